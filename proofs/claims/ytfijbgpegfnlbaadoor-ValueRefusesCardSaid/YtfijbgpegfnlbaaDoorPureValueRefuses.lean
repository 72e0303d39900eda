/- ValueRefuses: whatever number and place are given, the value at that place may not be, nor may one of a kind that is none. -/
import Derived.Test.YtfijbgpegfnlbaaDoorPValueRefusesx2
namespace Go.Proofs.YtfijbgpegfnlbaaDoor.Pure
open Go.RowKit Go.Proofs.YtfijbgpegfnlbaaDoorH Go.Proofs.YtfijbgpegfnlbaaDoor.PValueRefuses Go.Proofs.YtfijbgpegfnlbaaDoorW.PrintWords Go.Proofs.YtfijbgpegfnlbaaDoorW.PrintLast

theorem VR_awake (k : Nat) : boomeranglaw13_awake.f (k + 2) = some true := by
  have e : value_Text.f 3 (-3) (⟨#[]⟩ : ByteArray) = some ⟨#[45, 51]⟩ := by
    unfold value_Text.f strconv_Itoa.f Lib.itoa
    simp [Lib.decDigits]
  unfold boomeranglaw13_awake.f
  rw [e]
  simp [value_Truth.f, value_Truth.j0, value_Truth.j1]

theorem VR_long : (strOfNums (List.replicate 4097 0)).size = 4097 := by
  rw [strOfNums_size]
  exact List.length_replicate

theorem VR_kind (k : Nat) (n : Int) (h : n < 0 ∨ 7 < n) : value_May.f (k + 1) n 0 (⟨#[]⟩ : ByteArray) = some false := by
  simp only [value_May.f, value_May.j0]
  rw [if_neg (show ¬ n = 0 by omega), if_neg (show ¬ n = 1 by omega), if_neg (show ¬ (n == 7) = true by simp; omega), if_neg (show ¬ n = 2 by omega), if_neg (show ¬ n = 3 by omega), if_neg (show ¬ n = 5 by omega), if_neg (show ¬ n = 6 by omega), if_neg (show ¬ n = 4 by omega)]

theorem VR_short (k : Nat) (s : ByteArray) (h : s.size = 4097) : value_May.f (k + 1) 4 0 (s.extract 1 s.size) = some true := by
  simp [value_May.f, value_May.j0, ByteArray.size_extract, h]

theorem VR_places (k : Nat) (s : ByteArray) (hs : s.size = 4097) (n a1 : Int) (hn : n < 0 ∨ 7 < n) (h0 : 0 ≤ a1) (h1 : a1 < 256) :
    boomeranglaw13_ValueRefuses.j1 (k + 3) a1 s [(⟨0, 1, (⟨#[]⟩ : ByteArray)⟩ : S24), (⟨1, 0, (⟨#[120]⟩ : ByteArray)⟩ : S24), (⟨2, 2, (⟨#[]⟩ : ByteArray)⟩ : S24), (⟨3, 2147483648, (⟨#[]⟩ : ByteArray)⟩ : S24), (⟨3, (-2147483649), (⟨#[]⟩ : ByteArray)⟩ : S24), (⟨4, 0, s⟩ : S24), (⟨5, 0, (⟨#[]⟩ : ByteArray)⟩ : S24), (⟨5, 4097, (⟨#[]⟩ : ByteArray)⟩ : S24), (⟨6, 0, (⟨#[]⟩ : ByteArray)⟩ : S24), (⟨7, 3, (⟨#[]⟩ : ByteArray)⟩ : S24), (⟨(-1), 0, (⟨#[]⟩ : ByteArray)⟩ : S24), (⟨8, 0, (⟨#[]⟩ : ByteArray)⟩ : S24), (⟨3, 0, (⟨#[49]⟩ : ByteArray)⟩ : S24), (⟨4, 1, (⟨#[]⟩ : ByteArray)⟩ : S24), (⟨6, (-1), (⟨#[110, 111, 119]⟩ : ByteArray)⟩ : S24)] n = some true := by
  have hw : wrap64 a1 = a1 := by unfold wrap64; omega
  have ht : Int.tmod a1 15 = a1 % 15 := Int.tmod_eq_emod_of_nonneg h0
  have hs' : (s.size : Int) = 4097 := by omega
  simp only [boomeranglaw13_ValueRefuses.j1, List.length_cons, List.length_nil, hw]
  rw [if_neg (by decide), show (((0 + 1 + 1 + 1 + 1 + 1 + 1 + 1 + 1 + 1 + 1 + 1 + 1 + 1 + 1 + 1 : Nat)) : Int) = 15 from rfl, ht, if_pos (by omega), if_pos (by omega), hs', if_pos (by decide)]
  rw [VR_kind _ n hn, VR_short _ s hs, VR_awake]
  obtain ⟨i, hi⟩ : ∃ i : Nat, a1 % 15 = i := ⟨(a1 % 15).toNat, by omega⟩
  rw [hi]
  have hi15 : i < 15 := by omega
  have key : ∀ e ∈ [(⟨0, 1, (⟨#[]⟩ : ByteArray)⟩ : S24), (⟨1, 0, (⟨#[120]⟩ : ByteArray)⟩ : S24), (⟨2, 2, (⟨#[]⟩ : ByteArray)⟩ : S24), (⟨3, 2147483648, (⟨#[]⟩ : ByteArray)⟩ : S24), (⟨3, (-2147483649), (⟨#[]⟩ : ByteArray)⟩ : S24), (⟨4, 0, s⟩ : S24), (⟨5, 0, (⟨#[]⟩ : ByteArray)⟩ : S24), (⟨5, 4097, (⟨#[]⟩ : ByteArray)⟩ : S24), (⟨6, 0, (⟨#[]⟩ : ByteArray)⟩ : S24), (⟨7, 3, (⟨#[]⟩ : ByteArray)⟩ : S24), (⟨(-1), 0, (⟨#[]⟩ : ByteArray)⟩ : S24), (⟨8, 0, (⟨#[]⟩ : ByteArray)⟩ : S24), (⟨3, 0, (⟨#[49]⟩ : ByteArray)⟩ : S24), (⟨4, 1, (⟨#[]⟩ : ByteArray)⟩ : S24), (⟨6, (-1), (⟨#[110, 111, 119]⟩ : ByteArray)⟩ : S24)], value_May.f (k + 2) e.f0 e.f1 e.f2 = some false := by
    intro e he
    simp only [List.mem_cons, List.not_mem_nil, or_false] at he
    rcases he with rfl | rfl | rfl | rfl | rfl | rfl | rfl | rfl | rfl | rfl | rfl | rfl | rfl | rfl | rfl <;> simp [value_May.f, value_May.j0, value_in.f, hs'] <;> rfl
  have hm : rd_T24 [(⟨0, 1, (⟨#[]⟩ : ByteArray)⟩ : S24), (⟨1, 0, (⟨#[120]⟩ : ByteArray)⟩ : S24), (⟨2, 2, (⟨#[]⟩ : ByteArray)⟩ : S24), (⟨3, 2147483648, (⟨#[]⟩ : ByteArray)⟩ : S24), (⟨3, (-2147483649), (⟨#[]⟩ : ByteArray)⟩ : S24), (⟨4, 0, s⟩ : S24), (⟨5, 0, (⟨#[]⟩ : ByteArray)⟩ : S24), (⟨5, 4097, (⟨#[]⟩ : ByteArray)⟩ : S24), (⟨6, 0, (⟨#[]⟩ : ByteArray)⟩ : S24), (⟨7, 3, (⟨#[]⟩ : ByteArray)⟩ : S24), (⟨(-1), 0, (⟨#[]⟩ : ByteArray)⟩ : S24), (⟨8, 0, (⟨#[]⟩ : ByteArray)⟩ : S24), (⟨3, 0, (⟨#[49]⟩ : ByteArray)⟩ : S24), (⟨4, 1, (⟨#[]⟩ : ByteArray)⟩ : S24), (⟨6, (-1), (⟨#[110, 111, 119]⟩ : ByteArray)⟩ : S24)] (i : Int) ∈ [(⟨0, 1, (⟨#[]⟩ : ByteArray)⟩ : S24), (⟨1, 0, (⟨#[120]⟩ : ByteArray)⟩ : S24), (⟨2, 2, (⟨#[]⟩ : ByteArray)⟩ : S24), (⟨3, 2147483648, (⟨#[]⟩ : ByteArray)⟩ : S24), (⟨3, (-2147483649), (⟨#[]⟩ : ByteArray)⟩ : S24), (⟨4, 0, s⟩ : S24), (⟨5, 0, (⟨#[]⟩ : ByteArray)⟩ : S24), (⟨5, 4097, (⟨#[]⟩ : ByteArray)⟩ : S24), (⟨6, 0, (⟨#[]⟩ : ByteArray)⟩ : S24), (⟨7, 3, (⟨#[]⟩ : ByteArray)⟩ : S24), (⟨(-1), 0, (⟨#[]⟩ : ByteArray)⟩ : S24), (⟨8, 0, (⟨#[]⟩ : ByteArray)⟩ : S24), (⟨3, 0, (⟨#[49]⟩ : ByteArray)⟩ : S24), (⟨4, 1, (⟨#[]⟩ : ByteArray)⟩ : S24), (⟨6, (-1), (⟨#[110, 111, 119]⟩ : ByteArray)⟩ : S24)] := by
    unfold rd_T24
    rw [Int.toNat_natCast, List.getD_eq_getElem?_getD, List.getElem?_eq_getElem (by simpa using hi15), Option.getD_some]
    exact List.getElem_mem _
  rw [key _ hm]
  simp

theorem ValueRefuses : boomeranglaw13_ValueRefuses.Pure := by
  intro a0 a1 _ h1
  have h1 : 0 ≤ a1 ∧ a1 ≤ 255 := by simpa [Lit.wf, IntKind.min, IntKind.max, IntKind.signed, IntKind.bits] using h1
  refine ⟨4, ?_⟩
  unfold boomeranglaw13_ValueRefuses.f
  rw [if_pos (by decide)]
  simp only [Option.bind_some]
  generalize hz : strOfNums (List.replicate 4097 0) = z
  have hs : z.size = 4097 := by rw [← hz]; exact VR_long
  by_cases h0 : a0 ≥ 0
  · rw [if_pos h0]
    simp only [boomeranglaw13_ValueRefuses.j0]
    by_cases h7 : a0 ≤ 7
    · rw [if_pos (by simpa using h7)]
      exact VR_places 0 z hs (-1) a1 (by omega) (by omega) (by omega)
    · rw [if_neg (by simpa using h7)]
      exact VR_places 0 z hs a0 a1 (by omega) (by omega) (by omega)
  · rw [if_neg h0]
    simp only [boomeranglaw13_ValueRefuses.j0]
    rw [if_neg (by decide)]
    exact VR_places 0 z hs a0 a1 (by omega) (by omega) (by omega)

end Go.Proofs.YtfijbgpegfnlbaaDoor.Pure
