/- Words of a text: what is known of Go's library, and a law's call from nothing. -/
import Derived.Test.YtanjjmgoangmdaaGreatDoorEvMc
import Derived.Test.YtanjjmgoangmdaaGreatDoorLoCom
import Derived.Test.YtanjjmgoangmdaaGreatDoorLoDel
import Derived.Test.YtanjjmgoangmdaaGreatDoorSymLib
import Derived.Test.YtanjjmgoangmdaaGreatDoorShelf
import Derived.Below
import Derived.KernelRfl
set_option linter.unusedVariables false
namespace Go.Proofs.Le
open Go.Ev Go.RowKit
set_option linter.unusedSectionVars false
variable [Unk]
/-- The table of the blanks. -/
def Sps (w : World) : Prop := Lib.TabIs Tryz.prog w "strings.asciiSpace" .u8 Lib.asciiSpaceTab
theorem sps_named : Tryz.prog.globalNamed "strings.asciiSpace" = some 0 := by kernel_rfl
theorem tabIs_same {P : Program} {w W : World} {name : String} {k : IntKind} {zs : List Int} {g n : Nat} (hn : P.globalNamed name = some g) (hg : g < n) (hb : ∀ x, x < n → W.heap[x]? = w.heap[x]?) (h : Lib.TabIs P w name k zs) : Lib.TabIs P W name k zs := by
  unfold Lib.TabIs World.var? at *
  simp only [hn, Option.bind_some] at h ⊢
  rw [hb g hg]
  exact h
def Pow (w : World) : Prop := Lib.TabIs Tryz.prog w "internal/strconv.uint64pow10" .u64 Lib.pow10Tab
theorem pow_named : Tryz.prog.globalNamed "internal/strconv.uint64pow10" = some 3 := by kernel_rfl
theorem cell_same {w W : World} {g : Nat} {v : Value} {n : Nat} (hp : g < n) (hb : ∀ x, x < n → W.heap[x]? = w.heap[x]?) (h : w.cell? ⟨g, 0, none⟩ = some v) : W.cell? ⟨g, 0, none⟩ = some v := by
  unfold World.cell? at *
  simp only [hb g hp] at *
  exact h
/-- What is known of the library's variables. -/
def KnT (w : World) : Prop := Sps w ∧ Pow w
def Kn (w : World) : Prop := KnT w ∧ ∃ m, w.cell? ⟨2, 0, none⟩ = some (.int .i64 m)
def Γ : Glob := ⟨4, Kn, fun _ _ hb h => ⟨⟨tabIs_same sps_named (by decide) hb h.1.1, tabIs_same pow_named (by decide) hb h.1.2⟩, h.2.imp fun _ hm => cell_same (by decide) hb hm⟩⟩
theorem kn_size {w : World} (h : Kn w) : 4 ≤ w.heap.size := by
  have h' : w.var? Tryz.prog "internal/strconv.uint64pow10" = some _ := h.1.2
  unfold World.var? at h'
  simp only [pow_named, Option.bind_some] at h'
  rcases Nat.lt_or_ge 3 w.heap.size with hlt | hge
  · exact hlt
  · rw [Array.getElem?_eq_none hge] at h'; simp at h'
/-- strings.Fields, of texts without great bytes. -/
noncomputable def fieldsG : List AV → H → CR := fun xs h => match xs with
  | [.str s] => match Nat.ble s.data.toList.length 4000 with
    | true => match s.data.toList.all fun b => Nat.blt b.toNat 128 with
      | true => retStrs (Lib.fields s.data.toList) h
      | false => .bad 0
    | false => .bad 0
  | _ => .bad 0
theorem body125 : Callable Tryz.prog 125 := ⟨_, Tryz.func125, by decide, rfl⟩
theorem fields_entry : Entry Γ Tryz.prog 125 fieldsG := ⟨body125, fun {xs h r} e hb {A w args} hh hg ha => by
  unfold fieldsG at e
  split at e
  · rename_i s
    obtain ⟨y, ys, e1, h1, h2⟩ := ha
    have h1 : y = .string s := h1
    have h2 : ys = [] := by simpa [VRs] using h2
    subst h1 h2
    obtain rfl : args = #[.string s] := by cases args; simp_all
    split at e
    · rename_i hn
      split at e
      · rename_i hs
        subst e
        have hsz : s.size < 4294967281 := by
          have := Nat.le_of_ble_eq_true hn
          have e : s.data.toList.length = s.size := by simp
          omega
        have hasc : ∀ (j : Nat) b, s.data.toList[j]? = some b → b.toNat < 128 := fun j b hj => by
          have := List.all_eq_true.1 hs b (List.mem_of_getElem? hj)
          rw [natBlt] at this
          simpa using this
        exact told_strs (T := 9) hh (Tryz.strings_Fields s w hsz hasc hg.g.1.1)
      · subst e; exact absurd rfl (hb 0)
    · subst e; exact absurd rfl (hb 0)
  · subst e; exact absurd rfl (hb 0)⟩
section
open Go.Shelf Go.Proofs
set_option maxHeartbeats 1000000 in
set_option maxRecDepth 100000 in
theorem joinNil {P : Program} {ρ : Ren} (L : Lays.n156 P ρ) (p : Option Addr) (c : Nat) (sep : ByteArray) (w : World) :
    Calls P (ρ.f 156) #[.slice p 0 c, .string sep] w fun e w' => e = .returned (.string ⟨#[]⟩) ∧ w' = w := by
  have mixed := L.mixed
  have t31 := L.t31; have a31 := L.a31; have z31 := L.z31; have v31 := L.v31
  have t9 := L.t9; have a9 := L.a9; have z9 := L.z9; have v9 := L.v9
  have t3 := L.t3; have a3 := L.a3; have z3 := L.z3; have v3 := L.v3
  have t4 := L.t4; have a4 := L.a4; have z4 := L.z4; have v4 := L.v4
  go_enter L.f156, Body.n156_ntmps ρ
  go_wp2
  all_goals (go_ret; exact ⟨rfl, rfl⟩)
end
/-- strings.Join. -/
noncomputable def joinG1 : List AV → H → CR := fun xs h => match xs with
  | [.sl p 1 i n, sp] => match toSB sp with
    | some sep => match getC p h.t with
      | some b => match sbsIn b.rows n i with
        | some L => match Nat.ble L.length 100000 with
          | true => match Nat.ble (sep.intercalate L).length 1000000 with
            | true => .ret (mkS (sep.intercalate L)) h
            | false => .bad 0
          | false => .bad 0
        | none => .bad 0
      | none => .bad 0
    | none => .bad 0
  | _ => .bad 0
theorem body359 : Callable Tryz.prog 359 := ⟨_, Tryz.func359, by decide, rfl⟩
theorem join_entry1 : Entry Γ Tryz.prog 359 joinG1 := ⟨body359, fun {xs h r} e hb {A w args} hh hg ha => by
  unfold joinG1 at e
  split at e
  · rename_i p i n sp
    split at e
    · rename_i sep hsep
      split at e
      · rename_i b hbl
        split at e
        · rename_i L hL
          split at e
          · rename_i hN
            split at e
            · rename_i hlen
              subst e
              obtain ⟨y, ys, e1, h1, y2, ys2, e2, h3, h2⟩ := ha
              obtain ⟨q, hq, hk, hcap, rfl⟩ := h1
              obtain ⟨h3, hso⟩ := toSB_R hsep h3
              have h2 : ys2 = [] := by simpa [VRs] using h2
              subst h3 h2 e2
              obtain rfl : args = #[.slice (some ⟨q.blk, q.off + i * q.k, none⟩) n (q.cap - i), .string (bytesOf sep)] := by cases args; simp_all
              obtain ⟨hget, hmap⟩ := getC_eq hbl
              have B := (hh.blk p b q hget hq).blk hmap
              obtain ⟨cs, T, fz, hc1, _, _, hc3⟩ := B.cells
              obtain ⟨hl1, hl2⟩ := sbsIn_at hL
              subst hl1
              have each : ∀ (j : Nat) (hj : j < L.length), cs[q.off + (i + j) * q.k + 0]? = some (.string (bytesOf L[j])) ∧ ∀ p ∈ L[j], p.ok := fun j hj => by
                obtain ⟨a, ha1, ha2⟩ := hl2 j hj
                obtain ⟨_, _, h4⟩ := hc3 (i + j) _ ha1
                obtain ⟨z, hz, hzv⟩ := h4 0 _ rfl
                obtain ⟨hz1, hz2⟩ := toSB_R ha2 hzv
                exact ⟨hz1 ▸ hz, hz2⟩
              have hLm : (L.map bytesOf).length = L.length := List.length_map _
              have hcells : ∀ (j : Nat) x, (L.map bytesOf)[j]? = some x → w.cell? ⟨q.blk, (q.off + i * q.k) + j, none⟩ = some (.string x) := by
                intro j x hj
                rw [List.getElem?_map] at hj
                obtain ⟨l, hl, rfl⟩ := Option.map_eq_some_iff.1 hj
                obtain ⟨hjl, rfl⟩ := List.getElem?_eq_some_iff.1 hl
                obtain ⟨hz, _⟩ := each j hjl
                unfold World.cell?
                simp only [hc1]
                rw [hk] at hz ⊢
                have : q.off + i * 1 + j = q.off + (i + j) * 1 + 0 := by omega
                simp only [this]
                simpa using hz
              have hjn : Lib.join ((L.map bytesOf).map fun (x : ByteArray) => x.data.toList) (bytesOf sep).data.toList = (sep.intercalate L).map SB.byte := by
                rw [map_intercalate']
                show List.intercalate _ _ = _
                rw [List.map_map]
                rfl
              have hok : ∀ p ∈ sep.intercalate L, p.ok := fun p hp => by
                rcases mem_intercalate' hp with h | ⟨x, hx, hp⟩
                · exact hso p h
                · obtain ⟨j, hj, rfl⟩ := List.mem_iff_getElem.1 hx
                  exact (each j hj).2 p hp
              have hv : VR A.s (mkS (sep.intercalate L)) (.string ⟨(Lib.join ((L.map bytesOf).map fun (x : ByteArray) => x.data.toList) (bytesOf sep).data.toList).toArray⟩) := by
                rw [hjn]; exact mkS_R hok
              refine told_pure hh hv ?_
              have := Tryz.strings_Join q.blk (q.off + i * q.k) (q.cap - i) (L.map bytesOf) (bytesOf sep) w hcells (hh.sfresh p q hq) (by rw [hLm]; exact Nat.le_trans (Nat.le_of_ble_eq_true hN) (by decide)) (by rw [hLm]; omega) (by rw [hjn, List.length_map]; exact Nat.le_trans (Nat.le_of_ble_eq_true hlen) (by decide))
              rw [hLm] at this
              exact this
            · subst e; exact absurd rfl (hb 0)
          · subst e; exact absurd rfl (hb 0)
        · subst e; exact absurd rfl (hb 0)
      · subst e; exact absurd rfl (hb 0)
    · subst e; exact absurd rfl (hb 0)
  · subst e; exact absurd rfl (hb 0)⟩
/-- strings.Join, of none too. -/
noncomputable def joinG : List AV → H → CR := fun xs h => match xs with
  | [.nils, .str _] => .ret (.str ⟨#[]⟩) h
  | _ => joinG1 xs h
theorem join_entry : Entry Γ Tryz.prog 359 joinG := ⟨body359, fun {xs h r} e hb {A w args} hh hg ha => by
  unfold joinG at e
  split at e
  · rename_i sep
    obtain ⟨y, ys, e1, h1, y2, ys2, e2, h3, h2⟩ := ha
    have h1 : y = .slice none 0 0 := h1
    have h3 : y2 = .string sep := h3
    have h2 : ys2 = [] := by simpa [VRs] using h2
    subst h1 h3 h2 e2
    obtain rfl : args = #[.slice none 0 0, .string sep] := by cases args; simp_all
    subst e
    refine told_pure (x := .string ⟨#[]⟩) hh rfl ?_
    refine (joinNil Tryz.lays156 none 0 sep w).mono ?_
    rintro e w' ⟨rfl, rfl⟩
    exact ⟨rfl, Below.refl _ _⟩
  · exact join_entry1.told e hb hh hg ha⟩
theorem below_grown (w : World) (k : Nat) (os : Array Obj) : Go.RowKit.Below w.heap.size w (Sort.grow (w.drewN k) os) :=
  ⟨rfl, rfl, rfl, by show w.heap.size ≤ (w.heap ++ os).size; rw [Array.size_append]; omega, fun _ hj => Array.getElem?_append_left hj⟩
/-- Decimal digits, by so many rounds. -/
noncomputable def digR (f : Nat) : Nat → List UInt8 → List UInt8 := Nat.rec (fun _ l => l) (fun _ ih u l => Bool.rec (ih (Nat.div u 10) (UInt8.ofNat (Nat.add 48 (Nat.mod u 10)) :: l)) (UInt8.ofNat (Nat.add 48 u) :: l) (Nat.ble u 9)) f
theorem digR_eq : ∀ (f u : Nat) (l : List UInt8), u < 10 ^ (f + 1) → digR (f + 1) u l = Lib.decDigits u ++ l
  | 0, u, l, h => by
    have h : u < 10 := by simpa using h
    have e : Nat.ble u 9 = true := Nat.ble_eq_true_of_le (by omega)
    show Bool.rec (motive := fun _ => List UInt8) _ (UInt8.ofNat (Nat.add 48 u) :: l) (Nat.ble u 9) = _
    rw [e, Lib.decDigits_one h]; rfl
  | f + 1, u, l, h => by
    show Bool.rec (motive := fun _ => List UInt8) (digR (f + 1) (Nat.div u 10) (UInt8.ofNat (Nat.add 48 (Nat.mod u 10)) :: l)) (UInt8.ofNat (Nat.add 48 u) :: l) (Nat.ble u 9) = _
    by_cases hu : u < 10
    · have e : Nat.ble u 9 = true := Nat.ble_eq_true_of_le (by omega)
      rw [e, Lib.decDigits_one hu]; rfl
    · have e : Nat.ble u 9 = false := by
        cases hb : Nat.ble u 9 with
        | false => rfl
        | true => exact absurd (Nat.le_of_ble_eq_true hb) (by omega)
      rw [e]
      show digR (f + 1) (u / 10) (UInt8.ofNat (48 + u % 10) :: l) = _
      rw [digR_eq f (u / 10) _ (by rw [Nat.pow_succ] at h; omega), Lib.decDigits.eq_1 u, dif_neg hu]
      simp
noncomputable def itoaR (n : Int) : Option (List UInt8) := Int.rec (fun m => Bool.rec none (some (digR 20 m [])) (Nat.ble m 9223372036854775807)) (fun m => Bool.rec none (some (45 :: digR 20 (Nat.succ m) [])) (Nat.ble m 9223372036854775807)) n
theorem itoaR_eq {n : Int} {l : List UInt8} (h : itoaR n = some l) : l = Lib.itoa n ∧ -9223372036854775808 ≤ n ∧ n ≤ 9223372036854775807 := by
  unfold itoaR at h
  cases n with
  | ofNat m =>
    have h : Bool.rec (motive := fun _ => Option (List UInt8)) none (some (digR 20 m [])) (Nat.ble m 9223372036854775807) = some l := h
    cases hb : Nat.ble m 9223372036854775807 with
    | false => rw [hb] at h; cases h
    | true =>
      rw [hb] at h
      have hm := Nat.le_of_ble_eq_true hb
      have h : some (digR 20 m []) = some l := h
      rw [digR_eq 19 m [] (by have : (10 : Nat) ^ (19 + 1) = 100000000000000000000 := by decide
                              omega)] at h
      injection h with h
      subst h
      refine ⟨?_, by simp only [Int.ofNat_eq_natCast]; omega, by simp only [Int.ofNat_eq_natCast]; omega⟩
      unfold Lib.itoa
      rw [if_neg (by simp only [Int.ofNat_eq_natCast]; omega)]
      simp
  | negSucc m =>
    have h : Bool.rec (motive := fun _ => Option (List UInt8)) none (some (45 :: digR 20 (Nat.succ m) [])) (Nat.ble m 9223372036854775807) = some l := h
    cases hb : Nat.ble m 9223372036854775807 with
    | false => rw [hb] at h; cases h
    | true =>
      rw [hb] at h
      have hm := Nat.le_of_ble_eq_true hb
      have h : some (45 :: digR 20 (m + 1) []) = some l := h
      rw [digR_eq 19 (m + 1) [] (by have : (10 : Nat) ^ (19 + 1) = 100000000000000000000 := by decide
                                    omega)] at h
      injection h with h
      subst h
      refine ⟨?_, by omega, by omega⟩
      unfold Lib.itoa
      rw [if_pos (by omega)]
      simp
/-- strconv.Itoa. -/
noncomputable def itoaG : List AV → H → CR := fun xs h => match xs with
  | [.int .i64 n] => Option.rec (.bad 0) (fun l => .ret (.str ⟨⟨l⟩⟩) h) (itoaR n)
  | [.sym .i64 lo hi e] => match itoaSym lo hi e with | some l => .ret (mkS l) h | none => .bad 0
  | _ => .bad 0
theorem body267 : Callable Tryz.prog 267 := ⟨_, Tryz.func267, by decide, rfl⟩
theorem itoa_entry : Entry Γ Tryz.prog 267 itoaG := ⟨body267, fun {xs h r} e hb {A w args} hh hg ha => by
  unfold itoaG at e
  split at e
  · rename_i n
    obtain ⟨y, ys, e1, h1, h2⟩ := ha
    have h1 : y = .int .i64 n := h1
    have h2 : ys = [] := by simpa [VRs] using h2
    subst h1 h2
    obtain rfl : args = #[.int .i64 n] := by cases args; simp_all
    cases hi : itoaR n with
    | none => rw [hi] at e; exact absurd e.symm (hb 0)
    | some l =>
      rw [hi] at e
      obtain ⟨rfl, h3, h4⟩ := itoaR_eq hi
      have e : CR.ret (.str ⟨⟨Lib.itoa n⟩⟩) h = r := e
      subst e
      refine told_pure (x := .string ⟨(Lib.itoa n).toArray⟩) hh rfl ?_
      refine (Tryz.strconv_Itoa n h3 h4 w hg.g.1.2).mono ?_
      rintro e w' ⟨rfl, k, os, rfl⟩
      exact ⟨rfl, below_grown _ _ _⟩
  · rename_i lo hi ex
    split at e
    · rename_i l hl
      subst e
      obtain ⟨y, ys, e1, h1, h2⟩ := ha
      obtain ⟨h1, b1, b2, ho⟩ := h1
      have h2 : ys = [] := by simpa [VRs] using h2
      subst h1 h2
      obtain rfl : args = #[.int .i64 ex.val] := by cases args; simp_all
      obtain ⟨g1, g2, g3, g4⟩ := itoaSym_spec hl b1 b2 ho
      have hv : VR A.s (mkS l) (.string ⟨(Lib.itoa ex.val).toArray⟩) := by rw [← g1]; exact mkS_R g2
      refine told_pure hh hv ?_
      refine (Tryz.strconv_Itoa ex.val g3 g4 w hg.g.1.2).mono ?_
      rintro e w' ⟨rfl, k, os, rfl⟩
      exact ⟨rfl, below_grown _ _ _⟩
    · subst e; exact absurd rfl (hb 0)
  · subst e; exact absurd rfl (hb 0)⟩
/-- math/bits.Mul64. -/
noncomputable def mulG : List AV → H → CR := fun xs h => match xs with
  | [.int .u64 (.ofNat x), .int .u64 (.ofNat y)] => match Nat.blt x 18446744073709551616, Nat.blt y 18446744073709551616 with
    | true, true => .ret (.tup [.int .u64 (.ofNat (x * y / 18446744073709551616)), .int .u64 (.ofNat (x * y % 18446744073709551616))]) h
    | _, _ => .bad 0
  | _ => .bad 0
theorem body319 : Callable Tryz.prog 319 := ⟨_, Tryz.func319, by decide, rfl⟩
theorem mul_entry : Entry Γ Tryz.prog 319 mulG := ⟨body319, fun {xs h r} e hb {A w args} hh hg ha => by
  unfold mulG at e
  split at e
  · rename_i x y
    obtain ⟨a, zs, e1, h1, b, bs, e2, h3, h2⟩ := ha
    have h1 : a = .int .u64 (.ofNat x) := h1
    have h3 : b = .int .u64 (.ofNat y) := h3
    have h2 : bs = [] := by simpa [VRs] using h2
    subst h1 h3 h2 e2
    obtain rfl : args = #[.int .u64 (.ofNat x), .int .u64 (.ofNat y)] := by cases args; simp_all
    split at e
    · rename_i hx hy
      subst e
      have hx : x < 18446744073709551616 := Nat.le_of_ble_eq_true hx
      have hy : y < 18446744073709551616 := Nat.le_of_ble_eq_true hy
      refine told_pure (x := .tuple #[.int .u64 ((x * y / 18446744073709551616 : Nat) : Int), .int .u64 ((x * y % 18446744073709551616 : Nat) : Int)]) hh ⟨_, rfl, .cons rfl (.cons rfl .nil)⟩ ?_
      refine (Tryz.bits_Mul64 x y hx hy w).mono ?_
      rintro e w' ⟨rfl, rfl⟩
      exact ⟨rfl, Go.RowKit.Below.refl _ _⟩
    · subst e; exact absurd rfl (hb 0)
  · subst e; exact absurd rfl (hb 0)⟩
/-- strings.IndexByte. -/
noncomputable def indexG : List AV → H → CR := fun xs h => match xs with
  | [.str s, .int .u8 c] => .ret (.int .i64 (Lib.indexByte s.data.toList c.toNat.toUInt8)) h
  | [.str s, .sym .u8 (.ofNat lo) (.ofNat hi) _] => match Nat.ble hi 255, s.data.toList.all (fun b => match Nat.blt b.toNat lo with | true => true | false => Nat.blt hi b.toNat) with | true, true => .ret (.int .i64 (-1)) h | _, _ => .bad 0
  | _ => .bad 0
theorem body116 : Callable Tryz.prog 116 := ⟨_, Tryz.func116, by decide, rfl⟩
theorem index_minus : ∀ {l : List UInt8} {c : UInt8}, (∀ b ∈ l, b ≠ c) → Lib.indexByte l c = -1
  | [], _, _ => rfl
  | b :: l, c, h => by
    have hb := h b (by simp)
    have ih := index_minus (l := l) (c := c) (fun x hx => h x (by simp [hx]))
    unfold Lib.indexByte
    rw [ih]
    simp [hb]
theorem index_entry : Entry Γ Tryz.prog 116 indexG := ⟨body116, fun {xs h r} e hb {A w args} hh hg ha => by
  unfold indexG at e
  split at e
  · rename_i s c
    obtain ⟨y, ys, e1, h1, y2, ys2, e2, h3, h2⟩ := ha
    have h1 : y = .string s := h1
    have h3 : y2 = .int .u8 c := h3
    have h2 : ys2 = [] := by simpa [VRs] using h2
    subst h1 h3 h2 e2
    obtain rfl : args = #[.string s, .int .u8 c] := by cases args; simp_all
    subst e
    refine told_pure (x := .int .i64 (Lib.indexByte s.data.toList c.toNat.toUInt8)) hh rfl ?_
    refine (Tryz.strings_IndexByte s c w).mono ?_
    rintro e w' ⟨rfl, rfl⟩
    exact ⟨rfl, Below.refl _ _⟩
  · rename_i s lo hi ex
    split at e
    · rename_i hhi hall
      subst e
      obtain ⟨y, ys, e1, h1, y2, ys2, e2, h3, h2⟩ := ha
      have h1 : y = .string s := h1
      obtain ⟨h3, b1, b2, ho⟩ := h3
      have h2 : ys2 = [] := by simpa [VRs] using h2
      subst h1 h3 h2 e2
      obtain rfl : args = #[.string s, .int .u8 ex.val] := by cases args; simp_all
      have hhi := Nat.le_of_ble_eq_true hhi
      have hm : Lib.indexByte s.data.toList ex.val.toNat.toUInt8 = -1 := by
        refine index_minus fun b hb e => ?_
        have := List.all_eq_true.1 hall b hb
        have hv : ex.val.toNat.toUInt8.toNat = ex.val.toNat := by
          simp only [Nat.toUInt8, UInt8.toNat_ofNat']
          simp only [Int.ofNat_eq_natCast] at b1 b2
          omega
        rw [← e] at hv
        simp only [Int.ofNat_eq_natCast] at b1 b2
        split at this
        · rename_i hlt; rw [natBlt] at hlt; have hlt := of_decide_eq_true hlt; omega
        · rw [natBlt] at this; have this := of_decide_eq_true this; omega
      refine told_pure (x := .int .i64 (-1)) hh rfl ?_
      refine (Tryz.strings_IndexByte s ex.val w).mono ?_
      rintro e w' ⟨rfl, rfl⟩
      exact ⟨by rw [hm], Below.refl _ _⟩
    · subst e; exact absurd rfl (hb 0)
  · subst e; exact absurd rfl (hb 0)⟩
/-- strings.Contains, in short texts. -/
noncomputable def containsG : List AV → H → CR := fun xs h => match xs with
  | [.str s, .str t] => match Nat.ble s.data.toList.length 4000 with
    | true => .ret (.bool (Lib.contains s.data.toList t.data.toList)) h
    | false => .bad 0
  | _ => .bad 0
theorem body130 : Callable Tryz.prog 130 := ⟨_, Tryz.func130, by decide, rfl⟩
theorem contains_entry : Entry Γ Tryz.prog 130 containsG := ⟨body130, fun {xs h r} e hb {A w args} hh hg ha => by
  unfold containsG at e
  split at e
  · rename_i s t
    split at e
    · rename_i hn
      obtain ⟨y, ys, e1, h1, y2, ys2, e2, h3, h2⟩ := ha
      have h1 : y = .string s := h1
      have h3 : y2 = .string t := h3
      have h2 : ys2 = [] := by simpa [VRs] using h2
      subst h1 h3 h2 e2
      obtain rfl : args = #[.string s, .string t] := by cases args; simp_all
      subst e
      obtain ⟨m, hm⟩ := hg.g.2
      have hs : s.size < 4294967281 := by
        have := Nat.le_of_ble_eq_true hn
        have e : s.data.toList.length = s.size := by simp
        omega
      refine told_pure (x := .bool (Lib.contains s.data.toList t.data.toList)) hh rfl ?_
      refine (Tryz.strings_Contains s t m w hs hm).mono ?_
      rintro e w' ⟨rfl, rfl⟩
      exact ⟨rfl, Below.refl _ _⟩
    · subst e; exact absurd rfl (hb 0)
  · subst e; exact absurd rfl (hb 0)⟩
noncomputable def lib : Lib := libOf [(125, fieldsG), (359, joinG), (267, itoaG), (319, mulG), (116, indexG), (130, containsG), (215, (Del.delG 8 [.int .i64 (.ofNat 0), .int .i64 (.ofNat 0), .str ⟨#[]⟩, .int .i64 (.ofNat 0), .int .i64 (.ofNat 0), .str ⟨#[]⟩, .int .i64 (.ofNat 0), .bool false])), (219, (Del.delG 5 [.int .i64 (.ofNat 0), .int .i64 (.ofNat 0), .int .i64 (.ofNat 0), .int .i64 (.ofNat 0), .str ⟨#[]⟩])), (221, (Del.delG 1 [.int .i64 (.ofNat 0)])), (31, Lo.comG)]
theorem lib_entries : ∀ f g, lib f = some g → Entry Γ Tryz.prog f g := libOf_ok (by
  simp only [List.forall_mem_cons]
  exact ⟨fields_entry, join_entry, itoa_entry, mul_entry, index_entry, contains_entry, Lo.del_entry215, Lo.del_entry219, Lo.del_entry221, Lo.com_entry, fun _ h => by cases h⟩)
theorem lib_ok : CallsOk Γ Tryz.prog (libC lib) := libC_ok lib_entries
theorem mixed : Tryz.prog.follows .mixedOrders = true := by kernel_rfl
theorem met (W : World) (hG : Kn W) : Γ.Met A0 W := ⟨kn_size hG, fun _ _ h => (by cases h), fun _ _ h => (by cases h), hG⟩
end Go.Proofs.Le
