/- What is known of Go's library at the props seat, and a law's call from nothing. -/
import Derived.Test.YtophpelggceknaaDoorEvMc
import Derived.Test.YtophpelggceknaaDoorShelf
import Derived.Below
import Derived.KernelRfl
namespace Go.Proofs.Py
open Go.Ev Go.RowKit
/-- The table of the powers of ten. -/
def Pow (w : World) : Prop := Lib.TabIs Tryd.prog w "internal/strconv.uint64pow10" .u64 Lib.pow10Tab
theorem pow_named : Tryd.prog.globalNamed "internal/strconv.uint64pow10" = some 0 := by kernel_rfl
theorem tabIs_same {P : Program} {w W : World} {name : String} {k : IntKind} {zs : List Int} {g n : Nat} (hn : P.globalNamed name = some g) (hg : g < n) (hb : ∀ x, x < n → W.heap[x]? = w.heap[x]?) (h : Lib.TabIs P w name k zs) : Lib.TabIs P W name k zs := by
  unfold Lib.TabIs World.var? at *
  simp only [hn, Option.bind_some] at h ⊢
  rw [hb g hg]
  exact h
def Γ : Glob := ⟨1, Pow, fun _ _ hb h => tabIs_same pow_named (by decide) hb h⟩
theorem pow_size {w : World} (h : Pow w) : 1 ≤ w.heap.size := by
  have h' : w.var? Tryd.prog "internal/strconv.uint64pow10" = some _ := h
  unfold World.var? at h'
  simp only [pow_named, Option.bind_some] at h'
  rcases Nat.lt_or_ge 0 w.heap.size with hlt | hge
  · exact hlt
  · rw [Array.getElem?_eq_none hge] at h'; simp at h'
theorem below_grown (w : World) (k : Nat) (os : Array Obj) : Go.RowKit.Below w.heap.size w (Sort.grow (w.drewN k) os) :=
  ⟨rfl, rfl, rfl, by show w.heap.size ≤ (w.heap ++ os).size; rw [Array.size_append]; omega, fun _ hj => Array.getElem?_append_left hj⟩
/-- Decimal digits, by so many rounds. -/
noncomputable def digR (f : Nat) : Nat → List UInt8 → List UInt8 := Nat.rec (fun _ l => l) (fun _ ih u l => Bool.rec (ih (Nat.div u 10) (UInt8.ofNat (Nat.add 48 (Nat.mod u 10)) :: l)) (UInt8.ofNat (Nat.add 48 u) :: l) (Nat.ble u 9)) f
theorem digR_eq : ∀ (f u : Nat) (l : List UInt8), u < 10 ^ (f + 1) → digR (f + 1) u l = Lib.decDigits u ++ l
  | 0, u, l, h => by
    have h : u < 10 := by simpa using h
    have e : Nat.ble u 9 = true := Nat.ble_eq_true_of_le (by omega)
    show Bool.rec (motive := fun _ => List UInt8) _ (UInt8.ofNat (Nat.add 48 u) :: l) (Nat.ble u 9) = _
    rw [e, Lib.decDigits_one h]; rfl
  | f + 1, u, l, h => by
    show Bool.rec (motive := fun _ => List UInt8) (digR (f + 1) (Nat.div u 10) (UInt8.ofNat (Nat.add 48 (Nat.mod u 10)) :: l)) (UInt8.ofNat (Nat.add 48 u) :: l) (Nat.ble u 9) = _
    by_cases hu : u < 10
    · have e : Nat.ble u 9 = true := Nat.ble_eq_true_of_le (by omega)
      rw [e, Lib.decDigits_one hu]; rfl
    · have e : Nat.ble u 9 = false := by
        cases hb : Nat.ble u 9 with
        | false => rfl
        | true => exact absurd (Nat.le_of_ble_eq_true hb) (by omega)
      rw [e]
      show digR (f + 1) (u / 10) (UInt8.ofNat (48 + u % 10) :: l) = _
      rw [digR_eq f (u / 10) _ (by rw [Nat.pow_succ] at h; omega), Lib.decDigits.eq_1 u, dif_neg hu]
      simp
noncomputable def itoaR (n : Int) : Option (List UInt8) := Int.rec (fun m => Bool.rec none (some (digR 20 m [])) (Nat.ble m 9223372036854775807)) (fun m => Bool.rec none (some (45 :: digR 20 (Nat.succ m) [])) (Nat.ble m 9223372036854775807)) n
theorem itoaR_eq {n : Int} {l : List UInt8} (h : itoaR n = some l) : l = Lib.itoa n ∧ -9223372036854775808 ≤ n ∧ n ≤ 9223372036854775807 := by
  unfold itoaR at h
  cases n with
  | ofNat m =>
    have h : Bool.rec (motive := fun _ => Option (List UInt8)) none (some (digR 20 m [])) (Nat.ble m 9223372036854775807) = some l := h
    cases hb : Nat.ble m 9223372036854775807 with
    | false => rw [hb] at h; cases h
    | true =>
      rw [hb] at h
      have hm := Nat.le_of_ble_eq_true hb
      have h : some (digR 20 m []) = some l := h
      rw [digR_eq 19 m [] (by have : (10 : Nat) ^ (19 + 1) = 100000000000000000000 := by decide
                              omega)] at h
      injection h with h
      subst h
      refine ⟨?_, by simp only [Int.ofNat_eq_natCast]; omega, by simp only [Int.ofNat_eq_natCast]; omega⟩
      unfold Lib.itoa
      rw [if_neg (by simp only [Int.ofNat_eq_natCast]; omega)]
      simp
  | negSucc m =>
    have h : Bool.rec (motive := fun _ => Option (List UInt8)) none (some (45 :: digR 20 (Nat.succ m) [])) (Nat.ble m 9223372036854775807) = some l := h
    cases hb : Nat.ble m 9223372036854775807 with
    | false => rw [hb] at h; cases h
    | true =>
      rw [hb] at h
      have hm := Nat.le_of_ble_eq_true hb
      have h : some (45 :: digR 20 (m + 1) []) = some l := h
      rw [digR_eq 19 (m + 1) [] (by have : (10 : Nat) ^ (19 + 1) = 100000000000000000000 := by decide
                                    omega)] at h
      injection h with h
      subst h
      refine ⟨?_, by omega, by omega⟩
      unfold Lib.itoa
      rw [if_pos (by omega)]
      simp
/-- strconv.Itoa. -/
noncomputable def itoaG : List AV → H → CR := fun xs h => match xs with
  | [.int .i64 n] => Option.rec (.bad 0) (fun l => .ret (.str ⟨⟨l⟩⟩) h) (itoaR n)
  | _ => .bad 0
theorem body38 : Callable Tryd.prog 38 := ⟨_, Tryd.func38, by decide, rfl⟩
theorem itoa_entry : Entry Γ Tryd.prog 38 itoaG := ⟨body38, fun {xs h r} e hb {A w args} hh hg ha => by
  unfold itoaG at e
  split at e
  · rename_i n
    obtain ⟨y, ys, e1, h1, h2⟩ := ha
    have h1 : y = .int .i64 n := h1
    have h2 : ys = [] := by simpa [VRs] using h2
    subst h1 h2
    obtain rfl : args = #[.int .i64 n] := by cases args; simp_all
    cases hi : itoaR n with
    | none => rw [hi] at e; exact absurd e.symm (hb 0)
    | some l =>
      rw [hi] at e
      obtain ⟨rfl, h3, h4⟩ := itoaR_eq hi
      have e : CR.ret (.str ⟨⟨Lib.itoa n⟩⟩) h = r := e
      subst e
      refine told_pure (x := .string ⟨(Lib.itoa n).toArray⟩) hh rfl ?_
      refine (Tryd.strconv_Itoa n h3 h4 w hg.g).mono ?_
      rintro e w' ⟨rfl, k, os, rfl⟩
      exact ⟨rfl, below_grown _ _ _⟩
  · subst e; exact absurd rfl (hb 0)⟩
noncomputable def lib : Lib := libOf [(38, itoaG)]
theorem lib_ok : CallsOk Γ Tryd.prog (libC lib) := libC_ok (libOf_ok (by
  simp only [List.forall_mem_cons]
  exact ⟨itoa_entry, fun _ h => by cases h⟩))
theorem mixed : Tryd.prog.follows .mixedOrders = true := by kernel_rfl
theorem met (W : World) (hG : Pow W) : Γ.Met A0 W := ⟨pow_size hG, fun _ _ h => (by cases h), fun _ _ h => (by cases h), hG⟩
end Go.Proofs.Py
