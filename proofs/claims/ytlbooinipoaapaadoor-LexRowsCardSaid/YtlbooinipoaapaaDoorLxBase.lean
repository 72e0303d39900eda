/- Words of a text: what is known of Go's library, and a law's call from nothing. -/
import Derived.Test.YtlbooinipoaapaaDoorEvMc
import Derived.Test.YtlbooinipoaapaaDoorShelf
import Derived.Below
import Derived.KernelRfl
namespace Go.Proofs.Lx
open Go.Ev Go.RowKit
/-- The table of the blanks. -/
def Sps (w : World) : Prop := Lib.TabIs Tryd.prog w "strings.asciiSpace" .u8 Lib.asciiSpaceTab
theorem sps_named : Tryd.prog.globalNamed "strings.asciiSpace" = some 0 := by kernel_rfl
theorem tabIs_same {P : Program} {w W : World} {name : String} {k : IntKind} {zs : List Int} {g n : Nat} (hn : P.globalNamed name = some g) (hg : g < n) (hb : ∀ x, x < n → W.heap[x]? = w.heap[x]?) (h : Lib.TabIs P w name k zs) : Lib.TabIs P W name k zs := by
  unfold Lib.TabIs World.var? at *
  simp only [hn, Option.bind_some] at h ⊢
  rw [hb g hg]
  exact h
def Γ : Glob := ⟨0 + 1, Sps, fun _ _ hb h => tabIs_same sps_named (Nat.lt_succ_self _) hb h⟩
theorem sps_size {w : World} (h : Sps w) : 0 + 1 ≤ w.heap.size := by
  have h' : w.var? Tryd.prog "strings.asciiSpace" = some _ := h
  unfold World.var? at h'
  simp only [sps_named, Option.bind_some] at h'
  rcases Nat.lt_or_ge 0 w.heap.size with hlt | hge
  · exact hlt
  · rw [Array.getElem?_eq_none hge] at h'; simp at h'
def wordsS : ByteArray := ⟨#[108, 101, 116, 32, 99, 111, 110, 115, 116, 32, 102, 117, 110, 99, 116, 105, 111, 110, 32, 114, 101, 116, 117, 114, 110, 32, 105, 102, 32, 101, 108, 115, 101, 32, 119, 104, 105, 108, 101, 32, 98, 114, 101, 97, 107, 32, 99, 111, 110, 116, 105, 110, 117, 101, 32, 116, 104, 114, 111, 119, 32, 116, 114, 121, 32, 99, 97, 116, 99, 104, 32, 116, 114, 117, 101, 32, 102, 97, 108, 115, 101, 32, 110, 117, 108, 108, 32, 117, 110, 100, 101, 102, 105, 110, 101, 100, 32, 116, 104, 105, 115, 32, 116, 121, 112, 101, 111, 102, 32, 121, 105, 101, 108, 100]⟩
def signsS : ByteArray := ⟨#[61, 61, 61, 32, 33, 61, 61, 32, 60, 61, 32, 62, 61, 32, 38, 38, 32, 124, 124, 32, 123, 32, 125, 32, 40, 32, 41, 32, 91, 32, 93, 32, 59, 32, 44, 32, 46, 32, 63, 32, 58, 32, 61, 32, 60, 32, 62, 32, 43, 32, 45, 32, 42, 32, 47, 32, 37, 32, 33]⟩
def wordsL : List (List UInt8) := [[108, 101, 116], [99, 111, 110, 115, 116], [102, 117, 110, 99, 116, 105, 111, 110], [114, 101, 116, 117, 114, 110], [105, 102], [101, 108, 115, 101], [119, 104, 105, 108, 101], [98, 114, 101, 97, 107], [99, 111, 110, 116, 105, 110, 117, 101], [116, 104, 114, 111, 119], [116, 114, 121], [99, 97, 116, 99, 104], [116, 114, 117, 101], [102, 97, 108, 115, 101], [110, 117, 108, 108], [117, 110, 100, 101, 102, 105, 110, 101, 100], [116, 104, 105, 115], [116, 121, 112, 101, 111, 102], [121, 105, 101, 108, 100]]
def signsL : List (List UInt8) := [[61, 61, 61], [33, 61, 61], [60, 61], [62, 61], [38, 38], [124, 124], [123], [125], [40], [41], [91], [93], [59], [44], [46], [63], [58], [61], [60], [62], [43], [45], [42], [47], [37], [33]]
theorem words_fields : Lib.fields wordsS.data.toList = wordsL := by decide +kernel
theorem signs_fields : Lib.fields signsS.data.toList = signsL := by decide +kernel
theorem words_ascii : (wordsS.data.toList.all fun b => decide (b.toNat < 128)) = true := by decide +kernel
theorem signs_ascii : (signsS.data.toList.all fun b => decide (b.toNat < 128)) = true := by decide +kernel
theorem words_size : wordsS.size < 4294967281 := by decide +kernel
theorem signs_size : signsS.size < 4294967281 := by decide +kernel
/-- strings.Fields, of two texts. -/
noncomputable def fieldsG : List AV → H → CR := fun xs h => match xs with
  | [.str s] => match bytesEq s.data.toList wordsS.data.toList with
    | true => retStrs wordsL h
    | false => match bytesEq s.data.toList signsS.data.toList with
      | true => retStrs signsL h
      | false => .bad 0
  | _ => .bad 0
/-- strings.IndexByte. -/
noncomputable def indexG : List AV → H → CR := fun xs h => match xs with
  | [.str s, .int .u8 c] => .ret (.int .i64 (Lib.indexByte s.data.toList c.toNat.toUInt8)) h
  | _ => .bad 0
theorem body30 : Callable Tryd.prog 30 := ⟨_, Tryd.func30, by decide, rfl⟩
theorem body41 : Callable Tryd.prog 41 := ⟨_, Tryd.func41, by decide, rfl⟩
theorem all_ascii {s : ByteArray} (h : (s.data.toList.all fun b => decide (b.toNat < 128)) = true) (j : Nat) (b : UInt8) (hj : s.data.toList[j]? = some b) : b.toNat < 128 := by
  have := List.all_eq_true.1 h b (List.mem_of_getElem? hj)
  simpa using this
theorem fields_entry : Entry Γ Tryd.prog 30 fieldsG := ⟨body30, fun {xs h r} e hb {A w args} hh hg ha => by
  unfold fieldsG at e
  split at e
  · rename_i s
    obtain ⟨y, ys, e1, h1, h2⟩ := ha
    have h1 : y = .string s := h1
    have h2 : ys = [] := by simpa [VRs] using h2
    subst h1 h2
    obtain rfl : args = #[.string s] := by cases args; simp_all
    split at e
    · rename_i hs
      have hs := str_eq hs
      subst hs
      subst e
      refine told_strs (T := 9) hh ?_
      have := Tryd.strings_Fields wordsS w words_size (all_ascii words_ascii) hg.g
      rw [words_fields] at this
      exact this
    · split at e
      · rename_i hs
        have hs := str_eq hs
        subst hs
        subst e
        refine told_strs (T := 9) hh ?_
        have := Tryd.strings_Fields signsS w signs_size (all_ascii signs_ascii) hg.g
        rw [signs_fields] at this
        exact this
      · subst e; exact absurd rfl (hb 0)
  · subst e; exact absurd rfl (hb 0)⟩
theorem index_entry : Entry Γ Tryd.prog 41 indexG := ⟨body41, fun {xs h r} e hb {A w args} hh hg ha => by
  unfold indexG at e
  split at e
  · rename_i s c
    obtain ⟨y, ys, e1, h1, y2, ys2, e2, h3, h2⟩ := ha
    have h1 : y = .string s := h1
    have h3 : y2 = .int .u8 c := h3
    have h2 : ys2 = [] := by simpa [VRs] using h2
    subst h1 h3 h2 e2
    obtain rfl : args = #[.string s, .int .u8 c] := by cases args; simp_all
    subst e
    refine told_pure (x := .int .i64 (Lib.indexByte s.data.toList c.toNat.toUInt8)) hh rfl ?_
    refine (Tryd.strings_IndexByte s c w).mono ?_
    rintro e w' ⟨rfl, rfl⟩
    exact ⟨rfl, Below.refl _ _⟩
  · subst e; exact absurd rfl (hb 0)⟩
noncomputable def lib : Lib := libOf [(30, fieldsG), (41, indexG)]
theorem lib_ok : CallsOk Γ Tryd.prog (libC lib) := libC_ok (libOf_ok (by
  simp only [List.forall_mem_cons]
  exact ⟨fields_entry, index_entry, fun _ h => by cases h⟩))
theorem mixed : Tryd.prog.follows .mixedOrders = true := by kernel_rfl
theorem met (W : World) (hG : Sps W) : Γ.Met A0 W := ⟨sps_size hG, fun _ _ h => (by cases h), fun _ _ h => (by cases h), hG⟩
end Go.Proofs.Lx
