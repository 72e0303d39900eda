/- strconv.Itoa by the shelf's contract, in the printed contracts' form; and the fact on the listed table that it wants, carried from world to world. -/
import Derived.Test.YtfijbgpegfnlbaaDoorShelf
import Derived.Test.YtfijbgpegfnlbaaDoorWWords
import Derived.Below
namespace Go.Proofs.YtfijbgpegfnlbaaDoorH
open Go.RowKit Go.Proofs.YtfijbgpegfnlbaaDoorW.PrintWords

theorem h_isE (l : List UInt8) : l.isEmpty = !(l != []) := by cases l <;> rfl

/-- What strconv.Itoa reads: its table holds the powers of ten. -/
structure GlobOK (w : World) : Prop where
  mk :: (out : Lib.TabIs Tryd.prog w "internal/strconv.uint64pow10" .u64 Lib.pow10Tab)

theorem tabIs_below {P : Program} {w W : World} {name : String} {k : IntKind} {zs : List Int} (h : Lib.TabIs P w name k zs) (hb : Below w.heap.size w W) : Lib.TabIs P W name k zs := by
  unfold Lib.TabIs World.var? at *
  cases hg : P.globalNamed name with
  | none => simp [hg] at h
  | some g =>
    simp only [hg, Option.bind_some] at h ⊢
    have hlt : g < w.heap.size := by
      rcases Nat.lt_or_ge g w.heap.size with h' | h'
      · exact h'
      · rw [Array.getElem?_eq_none h'] at h; simp at h
    rw [hb.block g hlt]
    exact h
theorem below_grown (w : World) (k : Nat) (os : Array Obj) : Below w.heap.size w (Sort.grow (w.drewN k) os) :=
  ⟨rfl, rfl, rfl, by show w.heap.size ≤ (w.heap ++ os).size; rw [Array.size_append]; omega, fun _ hj => Array.getElem?_append_left hj⟩
theorem GlobOK.below {w W : World} (h : GlobOK w) (hb : Below w.heap.size w W) : GlobOK W := ⟨tabIs_below h.out hb⟩
theorem GlobOK.alloc {W : World} (h : GlobOK W) (o : Obj) : GlobOK (W.alloc o) := ⟨Lib.tabIs_alloc h.out o⟩
theorem GlobOK.drewN {W : World} (h : GlobOK W) (n : Nat) : GlobOK (W.drewN n) := h.below (pw_below_drewN (Below.refl _ _) n)
theorem GlobOK.drew {W : World} (h : GlobOK W) : GlobOK W.drew := h.below (below_drew (Below.refl _ _))

def strconv_Itoa.f (a0 : Int) : Option ByteArray :=
  if -9223372036854775808 ≤ a0 then (if a0 ≤ 9223372036854775807 then some ⟨(Lib.itoa a0).toArray⟩ else none) else none

theorem strconv_Itoa.calls (a0 : Int) (r : ByteArray) (w : World) (hG : GlobOK w) (h : strconv_Itoa.f a0 = some r) :
    Calls Tryd.prog 34 #[.int .i64 a0] w fun e w' => e = .returned (.string r) ∧ Below w.heap.size w w' := by
  unfold strconv_Itoa.f at h
  split at h
  · split at h
    · rename_i h0 h1
      cases h
      refine (Tryd.strconv_Itoa a0 h0 h1 w hG.out).mono ?_
      rintro e w' ⟨rfl, k, os, rfl⟩
      exact ⟨rfl, below_grown _ _ _⟩
    · cases h
  · cases h
end Go.Proofs.YtfijbgpegfnlbaaDoorH
