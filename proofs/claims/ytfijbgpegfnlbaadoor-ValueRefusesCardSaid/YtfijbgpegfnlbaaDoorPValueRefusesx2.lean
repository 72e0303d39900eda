-- Written by a patched copy of the printer (wip/tools/hprint.py), with contracts proved by hand.
import Derived.Test.YtfijbgpegfnlbaaDoorPValueRefusesx0
import Derived.Test.YtfijbgpegfnlbaaDoorPValueRefusesx1
namespace Go.Proofs.YtfijbgpegfnlbaaDoor.PValueRefuses
open Go.Proofs.YtfijbgpegfnlbaaDoorH
open Go.RowKit Go.Proofs.YtfijbgpegfnlbaaDoorW.PrintWords Go.Proofs.YtfijbgpegfnlbaaDoorW.PrintLast Go.Proofs.YtfijbgpegfnlbaaDoorW.PrintMore
attribute [local go_sem] max2_int min2_int max_two min_two max_three min_three max_four min_four   -- for this text's walks alone
set_option linter.unusedVariables false
set_option linter.unusedSimpArgs false

/-! ### boomeranglaw13_ValueRefuses: function 3 -/
mutual
def boomeranglaw13_ValueRefuses.j0 : Nat → Int → ByteArray → List (S24) → Int → Bool → Option (Bool)
  | 0, _, _, _, _, _ => none
  | k + 1, x1, x5, x6, x7, x33 => if x33 = true then (boomeranglaw13_ValueRefuses.j1 k x1 x5 x6 (-1)) else (boomeranglaw13_ValueRefuses.j1 k x1 x5 x6 x7)
def boomeranglaw13_ValueRefuses.j1 : Nat → Int → ByteArray → List (S24) → Int → Option (Bool)
  | 0, _, _, _, _ => none
  | k + 1, x1, x5, x6, x7 => if (x6.length : Int) = 0 then (none) else (if 0 ≤ (Int.tmod (wrap64 (x1)) (x6.length : Int)) then (if (Int.tmod (wrap64 (x1)) (x6.length : Int)) < (x6.length : Int) then ((value_May.f k ((rd_T24 x6 (Int.tmod (wrap64 (x1)) (x6.length : Int))).f0) ((rd_T24 x6 (Int.tmod (wrap64 (x1)) (x6.length : Int))).f1) ((rd_T24 x6 (Int.tmod (wrap64 (x1)) (x6.length : Int))).f2)).bind fun t117 => (if t117 = true then (some false) else ((value_May.f k x7 0 (⟨#[]⟩ : ByteArray)).bind fun t118 => (if t118 = true then (some false) else (if 1 ≤ (x5.size : Int) then ((value_May.f k 4 0 (x5.extract 1 x5.size)).bind fun t119 => (if t119 = true then ((boomeranglaw13_awake.f k).bind fun t120 => (some t120)) else (some false))) else (none)))))) else (none)) else (none))
end
def boomeranglaw13_ValueRefuses.f (k : Nat) (a0 : Int) (a1 : Int) : Option (Bool) := if 4097 ≤ 281474976710656 then ((some (List.replicate 4097 0 : List Int)).bind fun y110 => ((some (([(⟨0, 1, (⟨#[]⟩ : ByteArray)⟩ : S24), (⟨1, 0, (⟨#[120]⟩ : ByteArray)⟩ : S24), (⟨2, 2, (⟨#[]⟩ : ByteArray)⟩ : S24), (⟨3, 2147483648, (⟨#[]⟩ : ByteArray)⟩ : S24), (⟨3, (-2147483649), (⟨#[]⟩ : ByteArray)⟩ : S24), (⟨4, 0, strOfNums y110⟩ : S24), (⟨5, 0, (⟨#[]⟩ : ByteArray)⟩ : S24), (⟨5, 4097, (⟨#[]⟩ : ByteArray)⟩ : S24), (⟨6, 0, (⟨#[]⟩ : ByteArray)⟩ : S24), (⟨7, 3, (⟨#[]⟩ : ByteArray)⟩ : S24), (⟨(-1), 0, (⟨#[]⟩ : ByteArray)⟩ : S24), (⟨8, 0, (⟨#[]⟩ : ByteArray)⟩ : S24), (⟨3, 0, (⟨#[49]⟩ : ByteArray)⟩ : S24), (⟨4, 1, (⟨#[]⟩ : ByteArray)⟩ : S24), (⟨6, (-1), (⟨#[110, 111, 119]⟩ : ByteArray)⟩ : S24)] : List (S24)) : List (S24))).bind fun y113 => (if a0 ≥ 0 then (boomeranglaw13_ValueRefuses.j0 k a1 (strOfNums y110) y113 a0 (decide (a0 ≤ 7))) else (boomeranglaw13_ValueRefuses.j0 k a1 (strOfNums y110) y113 a0 false)))) else (none)
theorem boomeranglaw13_ValueRefuses.mono_l : ∀ k, (∀ y0 y1 y2 y3 y4, LeO (boomeranglaw13_ValueRefuses.j0 k y0 y1 y2 y3 y4) (boomeranglaw13_ValueRefuses.j0 (k + 1) y0 y1 y2 y3 y4)) ∧ (∀ y0 y1 y2 y3, LeO (boomeranglaw13_ValueRefuses.j1 k y0 y1 y2 y3) (boomeranglaw13_ValueRefuses.j1 (k + 1) y0 y1 y2 y3))
  | 0 => ⟨fun _ _ _ _ _ r h => by simp [boomeranglaw13_ValueRefuses.j0] at h, fun _ _ _ _ r h => by simp [boomeranglaw13_ValueRefuses.j1] at h⟩
  | k + 1 => by
    obtain ⟨ih0, ih1⟩ := boomeranglaw13_ValueRefuses.mono_l k
    refine ⟨?_, ?_⟩
    · intro y0 y1 y2 y3 y4
      unfold boomeranglaw13_ValueRefuses.j0
      repeat' first
      | (with_reducible exact ih0 _ _ _ _ _)
      | (with_reducible exact ih1 _ _ _ _)
      | (with_reducible exact boomeranglaw13_awake.mono _)
      | (with_reducible exact value_May.mono _ _ _ _)
      | (with_reducible exact LeO.refl _)
      | (with_reducible exact LeO.none _)
      | (with_reducible refine LeO.ite ?_ ?_)
      | (with_reducible refine LeO.bind ?_ (fun _ => ?_))
      | exact ih0 _ _ _ _ _
      | exact ih1 _ _ _ _
      | exact boomeranglaw13_awake.mono _
      | exact value_May.mono _ _ _ _
      | exact LeO.none _
      | refine LeO.ite ?_ ?_
      | refine LeO.bind ?_ (fun _ => ?_)
    · intro y0 y1 y2 y3
      unfold boomeranglaw13_ValueRefuses.j1
      repeat' first
      | (with_reducible exact ih0 _ _ _ _ _)
      | (with_reducible exact ih1 _ _ _ _)
      | (with_reducible exact boomeranglaw13_awake.mono _)
      | (with_reducible exact value_May.mono _ _ _ _)
      | (with_reducible exact LeO.refl _)
      | (with_reducible exact LeO.none _)
      | (with_reducible refine LeO.ite ?_ ?_)
      | (with_reducible refine LeO.bind ?_ (fun _ => ?_))
      | exact ih0 _ _ _ _ _
      | exact ih1 _ _ _ _
      | exact boomeranglaw13_awake.mono _
      | exact value_May.mono _ _ _ _
      | exact LeO.none _
      | refine LeO.ite ?_ ?_
      | refine LeO.bind ?_ (fun _ => ?_)
theorem boomeranglaw13_ValueRefuses.mono : ∀ a0 a1 k, LeO (boomeranglaw13_ValueRefuses.f k a0 a1) (boomeranglaw13_ValueRefuses.f (k + 1) a0 a1) := by
  intro a0 a1 k
  obtain ⟨ih0, ih1⟩ := boomeranglaw13_ValueRefuses.mono_l k
  unfold boomeranglaw13_ValueRefuses.f
  repeat' first
      | (with_reducible exact ih0 _ _ _ _ _)
      | (with_reducible exact ih1 _ _ _ _)
      | (with_reducible exact boomeranglaw13_awake.mono _)
      | (with_reducible exact value_May.mono _ _ _ _)
      | (with_reducible exact LeO.refl _)
      | (with_reducible exact LeO.none _)
      | (with_reducible refine LeO.ite ?_ ?_)
      | (with_reducible refine LeO.bind ?_ (fun _ => ?_))
      | exact ih0 _ _ _ _ _
      | exact ih1 _ _ _ _
      | exact boomeranglaw13_awake.mono _
      | exact value_May.mono _ _ _ _
      | exact LeO.none _
      | refine LeO.ite ?_ ?_
      | refine LeO.bind ?_ (fun _ => ?_)
set_option maxHeartbeats 8000000 in
set_option maxRecDepth 100000 in
theorem boomeranglaw13_ValueRefuses.calls (k : Nat) (a0 : Int) (a1 : Int) (r : Bool) (w : World) (hG : GlobOK w) (h : boomeranglaw13_ValueRefuses.f k a0 a1 = some r) :
    Calls Tryd.prog 3 #[.int .i64 a0, .int .u8 a1] w fun e w' => e = .returned (.bool r) ∧ Below w.heap.size w w' := by
  have hu24 := Tryd.underlying24
  have HB := Aside0.mk (Below.refl w.heap.size w)
  have H : (if 4097 ≤ 281474976710656 then ((some (List.replicate 4097 0 : List Int)).bind fun y110 => ((some (([(⟨0, 1, (⟨#[]⟩ : ByteArray)⟩ : S24), (⟨1, 0, (⟨#[120]⟩ : ByteArray)⟩ : S24), (⟨2, 2, (⟨#[]⟩ : ByteArray)⟩ : S24), (⟨3, 2147483648, (⟨#[]⟩ : ByteArray)⟩ : S24), (⟨3, (-2147483649), (⟨#[]⟩ : ByteArray)⟩ : S24), (⟨4, 0, strOfNums y110⟩ : S24), (⟨5, 0, (⟨#[]⟩ : ByteArray)⟩ : S24), (⟨5, 4097, (⟨#[]⟩ : ByteArray)⟩ : S24), (⟨6, 0, (⟨#[]⟩ : ByteArray)⟩ : S24), (⟨7, 3, (⟨#[]⟩ : ByteArray)⟩ : S24), (⟨(-1), 0, (⟨#[]⟩ : ByteArray)⟩ : S24), (⟨8, 0, (⟨#[]⟩ : ByteArray)⟩ : S24), (⟨3, 0, (⟨#[49]⟩ : ByteArray)⟩ : S24), (⟨4, 1, (⟨#[]⟩ : ByteArray)⟩ : S24), (⟨6, (-1), (⟨#[110, 111, 119]⟩ : ByteArray)⟩ : S24)] : List (S24)) : List (S24))).bind fun y113 => (if a0 ≥ 0 then (boomeranglaw13_ValueRefuses.j0 k a1 (strOfNums y110) y113 a0 (decide (a0 ≤ 7))) else (boomeranglaw13_ValueRefuses.j0 k a1 (strOfNums y110) y113 a0 false)))) else (none)) = some r := h
  clear h
  by_cases c3 : 4097 ≤ 281474976710656
  · rw [if_pos c3] at H
    have c3b0 := eq_true c3
    have c3b1 : decide (4097 ≤ 281474976710656) = true := decide_eq_true c3
    clear c3
    obtain ⟨y110, hy110⟩ : ∃ y_ : List Int, y_ = (List.replicate 4097 0) := ⟨_, rfl⟩
    replace H : ((some (([(⟨0, 1, (⟨#[]⟩ : ByteArray)⟩ : S24), (⟨1, 0, (⟨#[120]⟩ : ByteArray)⟩ : S24), (⟨2, 2, (⟨#[]⟩ : ByteArray)⟩ : S24), (⟨3, 2147483648, (⟨#[]⟩ : ByteArray)⟩ : S24), (⟨3, (-2147483649), (⟨#[]⟩ : ByteArray)⟩ : S24), (⟨4, 0, strOfNums y110⟩ : S24), (⟨5, 0, (⟨#[]⟩ : ByteArray)⟩ : S24), (⟨5, 4097, (⟨#[]⟩ : ByteArray)⟩ : S24), (⟨6, 0, (⟨#[]⟩ : ByteArray)⟩ : S24), (⟨7, 3, (⟨#[]⟩ : ByteArray)⟩ : S24), (⟨(-1), 0, (⟨#[]⟩ : ByteArray)⟩ : S24), (⟨8, 0, (⟨#[]⟩ : ByteArray)⟩ : S24), (⟨3, 0, (⟨#[49]⟩ : ByteArray)⟩ : S24), (⟨4, 1, (⟨#[]⟩ : ByteArray)⟩ : S24), (⟨6, (-1), (⟨#[110, 111, 119]⟩ : ByteArray)⟩ : S24)] : List (S24)) : List (S24))).bind fun y113 => (if a0 ≥ 0 then (boomeranglaw13_ValueRefuses.j0 k a1 (strOfNums y110) y113 a0 (decide (a0 ≤ 7))) else (boomeranglaw13_ValueRefuses.j0 k a1 (strOfNums y110) y113 a0 false))) = some r := by first | (rw [hy110]; with_reducible exact H) | (have H2_ := (Option.bind_some _ _).symm.trans H; rw [hy110]; with_reducible exact H2_) | (have H2_ := (Option.bind_some _ _).symm.trans H; with_reducible exact H2_) | with_reducible exact H | (rw [hy110]; exact H) | exact H
    have Ny110 := Aside0.mk hy110
    clear hy110
    obtain ⟨y113, hy113⟩ : ∃ y_ : List (S24), y_ = (([(⟨0, 1, (⟨#[]⟩ : ByteArray)⟩ : S24), (⟨1, 0, (⟨#[120]⟩ : ByteArray)⟩ : S24), (⟨2, 2, (⟨#[]⟩ : ByteArray)⟩ : S24), (⟨3, 2147483648, (⟨#[]⟩ : ByteArray)⟩ : S24), (⟨3, (-2147483649), (⟨#[]⟩ : ByteArray)⟩ : S24), (⟨4, 0, strOfNums y110⟩ : S24), (⟨5, 0, (⟨#[]⟩ : ByteArray)⟩ : S24), (⟨5, 4097, (⟨#[]⟩ : ByteArray)⟩ : S24), (⟨6, 0, (⟨#[]⟩ : ByteArray)⟩ : S24), (⟨7, 3, (⟨#[]⟩ : ByteArray)⟩ : S24), (⟨(-1), 0, (⟨#[]⟩ : ByteArray)⟩ : S24), (⟨8, 0, (⟨#[]⟩ : ByteArray)⟩ : S24), (⟨3, 0, (⟨#[49]⟩ : ByteArray)⟩ : S24), (⟨4, 1, (⟨#[]⟩ : ByteArray)⟩ : S24), (⟨6, (-1), (⟨#[110, 111, 119]⟩ : ByteArray)⟩ : S24)] : List (S24))) := ⟨_, rfl⟩
    replace H : (if a0 ≥ 0 then (boomeranglaw13_ValueRefuses.j0 k a1 (strOfNums y110) y113 a0 (decide (a0 ≤ 7))) else (boomeranglaw13_ValueRefuses.j0 k a1 (strOfNums y110) y113 a0 false)) = some r := by first | (rw [hy113]; with_reducible exact H) | (have H2_ := (Option.bind_some _ _).symm.trans H; rw [hy113]; with_reducible exact H2_) | (have H2_ := (Option.bind_some _ _).symm.trans H; with_reducible exact H2_) | with_reducible exact H | (rw [hy113]; exact H) | exact H
    have Ny113 := Aside0.mk hy113
    clear hy113
    have HC4 := Aside0.mk H
    clear H
    go_enter Tryd.func3, Tryd.ntmps3
    go_upto_region 4 with (first | ((with_reducible refine gate_dst (N := 8) rfl ?_); refine Kd.R_make (Kd.int .u8) _ 5 rfl (N := 8) rfl 22 _ _ rfl 4097 rfl rfl Tryd.underlying22 (.int .u8 0) 1 info5 rfl (by decide) (by omega) 0 (ok := fun _ => True) (okp := fun _ => True) rfl (fun _ hk => hk) trivial (by omega) (by omega) (Below.refl _ _) (Nat.le_refl _) ?_; intro v111 w5 ho6 hb hg_ hnew_; clear hg_ hnew_; (first | rw [← Ny110.out] at ho6 | (simp only [Int.reduceToNat] at ho6; rw [← Ny110.out] at ho6)); have n0_ := Aside0.mk (Kd.R_lower ho6 (below_size (by repeat (first | (with_reducible first | exact HB.out | apply below_alloc | apply pw_below_drewN | apply below_drew1) | exact HB.out)))); have n1_ := Aside0.mk (below_step (by repeat (first | (with_reducible first | exact HB.out | apply below_alloc | apply pw_below_drewN | apply below_drew1) | exact HB.out)) hb); clear HB; have HO112 := n0_; have HB := n1_; clear n0_ n1_; clear hb ho6; have hcv7 := own_string (P := Tryd.prog) Tryd.underlying22 Tryd.underlying5 Tryd.underlying9 (Kd.own_of_R HO112.out)) | ((with_reducible refine gate_dst (N := 26) rfl ?_); refine Kd.R_lit k24 _ 24 ?hg (N := 26) ?hd (xs := ([(⟨0, 1, (⟨#[]⟩ : ByteArray)⟩ : S24), (⟨1, 0, (⟨#[120]⟩ : ByteArray)⟩ : S24), (⟨2, 2, (⟨#[]⟩ : ByteArray)⟩ : S24), (⟨3, 2147483648, (⟨#[]⟩ : ByteArray)⟩ : S24), (⟨3, (-2147483649), (⟨#[]⟩ : ByteArray)⟩ : S24), (⟨4, 0, strOfNums y110⟩ : S24), (⟨5, 0, (⟨#[]⟩ : ByteArray)⟩ : S24), (⟨5, 4097, (⟨#[]⟩ : ByteArray)⟩ : S24), (⟨6, 0, (⟨#[]⟩ : ByteArray)⟩ : S24), (⟨7, 3, (⟨#[]⟩ : ByteArray)⟩ : S24), (⟨(-1), 0, (⟨#[]⟩ : ByteArray)⟩ : S24), (⟨8, 0, (⟨#[]⟩ : ByteArray)⟩ : S24), (⟨3, 0, (⟨#[49]⟩ : ByteArray)⟩ : S24), (⟨4, 1, (⟨#[]⟩ : ByteArray)⟩ : S24), (⟨6, (-1), (⟨#[110, 111, 119]⟩ : ByteArray)⟩ : S24)] : List (S24))) (inner := [.int .i64 0, .int .i64 1, .string (⟨#[]⟩ : ByteArray), .int .i64 1, .int .i64 0, .string (⟨#[120]⟩ : ByteArray), .int .i64 2, .int .i64 2, .string (⟨#[]⟩ : ByteArray), .int .i64 3, .int .i64 2147483648, .string (⟨#[]⟩ : ByteArray), .int .i64 3, .int .i64 (-2147483649), .string (⟨#[]⟩ : ByteArray), .int .i64 4, .int .i64 0, .string (strOfNums y110), .int .i64 5, .int .i64 0, .string (⟨#[]⟩ : ByteArray), .int .i64 5, .int .i64 4097, .string (⟨#[]⟩ : ByteArray), .int .i64 6, .int .i64 0, .string (⟨#[]⟩ : ByteArray), .int .i64 7, .int .i64 3, .string (⟨#[]⟩ : ByteArray), .int .i64 (-1), .int .i64 0, .string (⟨#[]⟩ : ByteArray), .int .i64 8, .int .i64 0, .string (⟨#[]⟩ : ByteArray), .int .i64 3, .int .i64 0, .string (⟨#[49]⟩ : ByteArray), .int .i64 4, .int .i64 1, .string (⟨#[]⟩ : ByteArray), .int .i64 6, .int .i64 (-1), .string (⟨#[110, 111, 119]⟩ : ByteArray)]) (ok := fun _ => True) (okp := fun _ => True) ?hr ?hp (fun _ hk => hk) trivial (Below.refl _ _) (Nat.le_refl _) (by simp) ?_; (case hd => rfl); (case hg => rfl); (case hr => first | (go_simp; done) | (go_simp; rfl)); (case hp => exact (Reps.c3 (show Kd.M k24 _ _ _ (⟨0, 1, (⟨#[]⟩ : ByteArray)⟩ : S24) [.int .i64 0, .int .i64 1, .string (⟨#[]⟩ : ByteArray)] from (k24_mkM _ _ _ (⟨0, 1, (⟨#[]⟩ : ByteArray)⟩ : S24) )) (Reps.c3 (show Kd.M k24 _ _ _ (⟨1, 0, (⟨#[120]⟩ : ByteArray)⟩ : S24) [.int .i64 1, .int .i64 0, .string (⟨#[120]⟩ : ByteArray)] from (k24_mkM _ _ _ (⟨1, 0, (⟨#[120]⟩ : ByteArray)⟩ : S24) )) (Reps.c3 (show Kd.M k24 _ _ _ (⟨2, 2, (⟨#[]⟩ : ByteArray)⟩ : S24) [.int .i64 2, .int .i64 2, .string (⟨#[]⟩ : ByteArray)] from (k24_mkM _ _ _ (⟨2, 2, (⟨#[]⟩ : ByteArray)⟩ : S24) )) (Reps.c3 (show Kd.M k24 _ _ _ (⟨3, 2147483648, (⟨#[]⟩ : ByteArray)⟩ : S24) [.int .i64 3, .int .i64 2147483648, .string (⟨#[]⟩ : ByteArray)] from (k24_mkM _ _ _ (⟨3, 2147483648, (⟨#[]⟩ : ByteArray)⟩ : S24) )) (Reps.c3 (show Kd.M k24 _ _ _ (⟨3, (-2147483649), (⟨#[]⟩ : ByteArray)⟩ : S24) [.int .i64 3, .int .i64 (-2147483649), .string (⟨#[]⟩ : ByteArray)] from (k24_mkM _ _ _ (⟨3, (-2147483649), (⟨#[]⟩ : ByteArray)⟩ : S24) )) (Reps.c3 (show Kd.M k24 _ _ _ (⟨4, 0, strOfNums y110⟩ : S24) [.int .i64 4, .int .i64 0, .string (strOfNums y110)] from (k24_mkM _ _ _ (⟨4, 0, strOfNums y110⟩ : S24) )) (Reps.c3 (show Kd.M k24 _ _ _ (⟨5, 0, (⟨#[]⟩ : ByteArray)⟩ : S24) [.int .i64 5, .int .i64 0, .string (⟨#[]⟩ : ByteArray)] from (k24_mkM _ _ _ (⟨5, 0, (⟨#[]⟩ : ByteArray)⟩ : S24) )) (Reps.c3 (show Kd.M k24 _ _ _ (⟨5, 4097, (⟨#[]⟩ : ByteArray)⟩ : S24) [.int .i64 5, .int .i64 4097, .string (⟨#[]⟩ : ByteArray)] from (k24_mkM _ _ _ (⟨5, 4097, (⟨#[]⟩ : ByteArray)⟩ : S24) )) (Reps.c3 (show Kd.M k24 _ _ _ (⟨6, 0, (⟨#[]⟩ : ByteArray)⟩ : S24) [.int .i64 6, .int .i64 0, .string (⟨#[]⟩ : ByteArray)] from (k24_mkM _ _ _ (⟨6, 0, (⟨#[]⟩ : ByteArray)⟩ : S24) )) (Reps.c3 (show Kd.M k24 _ _ _ (⟨7, 3, (⟨#[]⟩ : ByteArray)⟩ : S24) [.int .i64 7, .int .i64 3, .string (⟨#[]⟩ : ByteArray)] from (k24_mkM _ _ _ (⟨7, 3, (⟨#[]⟩ : ByteArray)⟩ : S24) )) (Reps.c3 (show Kd.M k24 _ _ _ (⟨(-1), 0, (⟨#[]⟩ : ByteArray)⟩ : S24) [.int .i64 (-1), .int .i64 0, .string (⟨#[]⟩ : ByteArray)] from (k24_mkM _ _ _ (⟨(-1), 0, (⟨#[]⟩ : ByteArray)⟩ : S24) )) (Reps.c3 (show Kd.M k24 _ _ _ (⟨8, 0, (⟨#[]⟩ : ByteArray)⟩ : S24) [.int .i64 8, .int .i64 0, .string (⟨#[]⟩ : ByteArray)] from (k24_mkM _ _ _ (⟨8, 0, (⟨#[]⟩ : ByteArray)⟩ : S24) )) (Reps.c3 (show Kd.M k24 _ _ _ (⟨3, 0, (⟨#[49]⟩ : ByteArray)⟩ : S24) [.int .i64 3, .int .i64 0, .string (⟨#[49]⟩ : ByteArray)] from (k24_mkM _ _ _ (⟨3, 0, (⟨#[49]⟩ : ByteArray)⟩ : S24) )) (Reps.c3 (show Kd.M k24 _ _ _ (⟨4, 1, (⟨#[]⟩ : ByteArray)⟩ : S24) [.int .i64 4, .int .i64 1, .string (⟨#[]⟩ : ByteArray)] from (k24_mkM _ _ _ (⟨4, 1, (⟨#[]⟩ : ByteArray)⟩ : S24) )) (Reps.c3 (show Kd.M k24 _ _ _ (⟨6, (-1), (⟨#[110, 111, 119]⟩ : ByteArray)⟩ : S24) [.int .i64 6, .int .i64 (-1), .string (⟨#[110, 111, 119]⟩ : ByteArray)] from (k24_mkM _ _ _ (⟨6, (-1), (⟨#[110, 111, 119]⟩ : ByteArray)⟩ : S24) )) (Reps.none _ _))))))))))))))))); intro v114 w8 ho9 hb hg_ hnew_; clear hg_ hnew_; (first | rw [← Ny113.out] at ho9 | (simp only [Int.reduceToNat] at ho9; rw [← Ny113.out] at ho9)); have n0_ := Aside0.mk (Kd.R_below (by (with_reducible repeat (first | apply Kd.R_alloc | apply Kd.R_drewN | apply Kd.R_drew)); exact HO112.out) hb); have n1_ := Aside0.mk (Kd.R_lower ho9 (below_size (by repeat (first | (with_reducible first | exact HB.out | apply below_alloc | apply pw_below_drewN | apply below_drew1) | exact HB.out)))); have n2_ := Aside0.mk (below_step (by repeat (first | (with_reducible first | exact HB.out | apply below_alloc | apply pw_below_drewN | apply below_drew1) | exact HB.out)) hb); clear HO112; clear HB; have HO112 := n0_; have HO115 := n1_; have HB := n2_; clear n0_ n1_ n2_; clear hb ho9))
    (try simp only [Act.put, List.setIfInBounds_toArray, List.set_cons_zero, List.set_cons_succ])
    go_cut [33] (fun v33 wc => ∃ (kq : Nat) (x33_3 : Bool), v33 = .bool x33_3 ∧ Aside0 (boomeranglaw13_ValueRefuses.j0 kq a1 (strOfNums y110) y113 a0 x33_3 = some r) ∧ Aside0 (kq ≤ k) ∧ Aside0 (Kd.R k24 24 wc w.heap.size (fun _ => True) v114 y113) ∧ Aside0 (Below w.heap.size w wc))
    case first =>
      have H := HC4.out
      clear HC4
      by_cases c10 : a0 ≥ 0
      · rw [if_pos c10] at H
        have c10b0 : decide (0 ≤ a0) = true := decide_eq_true c10
        clear c10
        (first | rw [c10b0] | (simp only [i64_w, i32_w]; rw [c10b0]) | skip)
        have H' := Aside0.mk H
        clear H
        go_wp2
        go_meet
        case rel => exact ⟨_, (decide (a0 ≤ 7)), (by first | rfl | (simp; done) | (simp [*]; done)), H', ⟨by first | omega | exact Nat.le_refl _⟩, ⟨by (with_reducible repeat (first | apply Kd.R_alloc | apply Kd.R_drewN | apply Kd.R_drew)); exact HO115.out⟩, ⟨by repeat (first | (with_reducible first | exact HB.out | apply below_alloc | apply pw_below_drewN | apply below_drew1) | exact HB.out)⟩⟩
      · rw [if_neg c10] at H
        have c10b0 : decide (0 ≤ a0) = false := decide_eq_false c10
        clear c10
        (first | rw [c10b0] | (simp only [i64_w, i32_w]; rw [c10b0]) | skip)
        have H' := Aside0.mk H
        clear H
        go_wp2
        go_meet
        case rel => exact ⟨_, (false), (by first | rfl | (simp; done) | (simp [*]; done)), H', ⟨by first | omega | exact Nat.le_refl _⟩, ⟨by (with_reducible repeat (first | apply Kd.R_alloc | apply Kd.R_drewN | apply Kd.R_drew)); exact HO115.out⟩, ⟨by repeat (first | (with_reducible first | exact HB.out | apply below_alloc | apply pw_below_drewN | apply below_drew1) | exact HB.out)⟩⟩
    case rest =>
      clear HC4
      try clear c1
      try clear p2
      try clear c3
      try clear c3b0
      try clear c3b1
      try clear hcv7
      try clear c10
      try clear c10b0
      obtain ⟨kq, x33_3, rfl, HA, HJ3, HO_6, HB⟩ := hcut
      cases kq with
      | zero => exact absurd HA.out (by simp [boomeranglaw13_ValueRefuses.j0])
      | succ kj3 =>
        have H := HA.out
        clear HA
        simp only [boomeranglaw13_ValueRefuses.j0] at H
        have HC11 := Aside0.mk H
        clear H
        go_upto_if 33 with (fail)
        go_cut [7] (fun v7 wc => ∃ (kq : Nat) (x7_10 : Int), v7 = .int .i64 x7_10 ∧ Aside0 (boomeranglaw13_ValueRefuses.j1 kq a1 (strOfNums y110) y113 x7_10 = some r) ∧ Aside0 (kq ≤ kj3) ∧ Aside0 (Kd.R k24 24 wc w.heap.size (fun _ => True) v114 y113) ∧ Aside0 (Below w.heap.size w wc))
        case first =>
          have H := HC11.out
          clear HC11
          by_cases c12 : x33_3 = true
          · subst c12
            have H1 : (boomeranglaw13_ValueRefuses.j1 kj3 a1 (strOfNums y110) y113 (-1)) = some r := by rw [if_pos rfl] at H; exact H
            clear H
            have H := H1
            clear H1
            have H' := Aside0.mk H
            clear H
            go_wp2
            go_meet
            case rel => exact ⟨_, ((-1)), (by first | rfl | (simp; done) | (simp [*]; done)), H', ⟨by have := HJ3.out; first | omega | exact Nat.le_refl _⟩, ⟨by (with_reducible repeat (first | apply Kd.R_alloc | apply Kd.R_drewN | apply Kd.R_drew)); exact HO_6.out⟩, ⟨by repeat (first | (with_reducible first | exact HB.out | apply below_alloc | apply pw_below_drewN | apply below_drew1) | exact HB.out)⟩⟩
          · replace c12 := Bool.eq_false_iff.mpr c12
            subst c12
            have H1 : (boomeranglaw13_ValueRefuses.j1 kj3 a1 (strOfNums y110) y113 a0) = some r := by rw [if_neg (show ¬ (false = true) by decide)] at H; exact H
            clear H
            have H := H1
            clear H1
            have H' := Aside0.mk H
            clear H
            go_wp2
            go_meet
            case rel => exact ⟨_, (a0), (by first | rfl | (simp; done) | (simp [*]; done)), H', ⟨by have := HJ3.out; first | omega | exact Nat.le_refl _⟩, ⟨by (with_reducible repeat (first | apply Kd.R_alloc | apply Kd.R_drewN | apply Kd.R_drew)); exact HO_6.out⟩, ⟨by repeat (first | (with_reducible first | exact HB.out | apply below_alloc | apply pw_below_drewN | apply below_drew1) | exact HB.out)⟩⟩
        case rest =>
          clear HC11
          try clear c1
          try clear p2
          try clear c3
          try clear c3b0
          try clear c3b1
          try clear hcv7
          try clear c10
          try clear c10b0
          try clear c12
          try clear p2
          obtain ⟨kq, x7_10, rfl, HA, HJ10, HO_6, HB⟩ := hcut
          cases kq with
          | zero => exact absurd HA.out (by simp [boomeranglaw13_ValueRefuses.j1])
          | succ kj10 =>
            have H := HA.out
            clear HA
            simp only [boomeranglaw13_ValueRefuses.j1] at H
            by_cases c13 : (y113.length : Int) = 0
            · rw [if_pos c13] at H
              exact absurd H (by simp)
            · rw [if_neg c13] at H
              have c13b0 : ((y113.length : Int) == 0) = false := beq_eq_false_iff_ne.mpr c13
              have c13b1 : ((y113.length : Int) != 0) = true := bne_iff_ne.mpr c13
              have c13b2 : ¬ (y113 = []) := fun h_ => c13 (by rw [h_]; rfl)
              obtain ⟨ji14, hji14⟩ : ∃ j_ : Int, (Int.tmod (wrap64 (a1)) (y113.length : Int)) = j_ := ⟨_, rfl⟩
              replace H : (if 0 ≤ (ji14) then (if (ji14) < (y113.length : Int) then ((value_May.f kj10 ((rd_T24 y113 (ji14)).f0) ((rd_T24 y113 (ji14)).f1) ((rd_T24 y113 (ji14)).f2)).bind fun t117 => (if t117 = true then (some false) else ((value_May.f kj10 x7_10 0 (⟨#[]⟩ : ByteArray)).bind fun t118 => (if t118 = true then (some false) else (if 1 ≤ ((strOfNums y110).size : Int) then ((value_May.f kj10 4 0 ((strOfNums y110).extract 1 (strOfNums y110).size)).bind fun t119 => (if t119 = true then ((boomeranglaw13_awake.f kj10).bind fun t120 => (some t120)) else (some false))) else (none)))))) else (none)) else (none)) = some r := by first | (rw [hji14] at H; exact H) | (simp only [hji14] at H ⊢; exact H)
              by_cases c15 : 0 ≤ (ji14)
              · rw [if_pos c15] at H
                have c15b0 : decide (0 ≤ (ji14)) = true := decide_eq_true c15
                clear c15
                by_cases c16 : (ji14) < (y113.length : Int)
                · rw [if_pos c16] at H
                  have c16b0 : decide ((ji14) < (y113.length : Int)) = true := decide_eq_true c16
                  clear c16
                  replace H := Option.bind_eq_some_iff.mp H
                  obtain ⟨t117, A170, H⟩ := H
                  replace H : (if t117 = true then (some false) else ((value_May.f kj10 x7_10 0 (⟨#[]⟩ : ByteArray)).bind fun t118 => (if t118 = true then (some false) else (if 1 ≤ ((strOfNums y110).size : Int) then ((value_May.f kj10 4 0 ((strOfNums y110).extract 1 (strOfNums y110).size)).bind fun t119 => (if t119 = true then ((boomeranglaw13_awake.f kj10).bind fun t120 => (some t120)) else (some false))) else (none))))) = some r := H
                  have A17 := Aside0.mk A170
                  clear A170
                  by_cases c18 : t117 = true
                  · subst c18
                    have H1 : (some false) = some r := by rw [if_pos rfl] at H; exact H
                    clear H
                    have H := H1
                    clear H1
                    obtain rfl := Option.some.inj H
                    obtain ⟨Ao19, co19, eo19⟩ := Kd.R_slice HO_6.out
                    subst eo19
                    have p116 : 0 ≤ ((ji14) : Int) := of_decide_eq_true (by first | (with_reducible assumption) | assumption)
                    have q116 : (ji14) < (y113.length : Int) := of_decide_eq_true (by first | (with_reducible assumption) | assumption)
                    obtain ⟨ad116, e116, hx116_0, hx116_1, hx116_2⟩ := at_T24 (Kd.R_reads' HO_6.out).2.2 (ji14) p116 q116
                    cases e116
                    replace p116 := eq_true p116
                    replace q116 := eq_true q116
                    go_wp2_with (first | ((with_reducible refine gate_callee (f := 12) rfl ?_); refine goesL_ (some 42) rfl rfl Tryd.func12 (by kernel_rfl) rfl #[.agg #[.int .i64 ((rd_T24 y113 (ji14)).f0), .int .i64 ((rd_T24 y113 (ji14)).f1), .string ((rd_T24 y113 (ji14)).f2)]] rfl (by (try simp only [List.map_toArray, List.map_cons, List.map_nil]); first | done | (simp only [hji14]; rfl) | rfl | (simp only [List.length_drop, List.length_take]; rfl)) ?_; (with_reducible refine (value_May.calls kj10 ((rd_T24 y113 (ji14)).f0) ((rd_T24 y113 (ji14)).f1) ((rd_T24 y113 (ji14)).f2) true _ A17.out).mono ?_); rintro e w20 ⟨rfl, hb⟩; refine ⟨_, rfl, ?_⟩; have n0_ := Aside0.mk (Kd.R_below (by (with_reducible repeat (first | apply Kd.R_alloc | apply Kd.R_drewN | apply Kd.R_drew)); exact HO_6.out) hb); have n1_ := Aside0.mk (below_step (by repeat (first | (with_reducible first | exact HB.out | apply below_alloc | apply pw_below_drewN | apply below_drew1) | exact HB.out)) hb); clear HO_6; clear HB; have HO_6 := n0_; have HB := n1_; clear n0_ n1_; (try clear hb); (try clear hb2); (try clear hk); (try clear hi)))
                    go_ret
                    exact ⟨by first | rfl | (simp [errW_none, errW_some] <;> rfl) | (simp only [← hji14]; first | rfl | (simp [errW_none, errW_some] <;> rfl)) | (simp [*, errW_none, errW_some] <;> rfl) | (simp [errW_none, errW_some, h_isE]), by repeat (first | (with_reducible first | exact HB.out | apply below_alloc | apply pw_below_drewN | apply below_drew1) | exact HB.out)⟩
                  · replace c18 := Bool.eq_false_iff.mpr c18
                    subst c18
                    have H1 : ((value_May.f kj10 x7_10 0 (⟨#[]⟩ : ByteArray)).bind fun t118 => (if t118 = true then (some false) else (if 1 ≤ ((strOfNums y110).size : Int) then ((value_May.f kj10 4 0 ((strOfNums y110).extract 1 (strOfNums y110).size)).bind fun t119 => (if t119 = true then ((boomeranglaw13_awake.f kj10).bind fun t120 => (some t120)) else (some false))) else (none)))) = some r := by rw [if_neg (show ¬ (false = true) by decide)] at H; exact H
                    clear H
                    have H := H1
                    clear H1
                    replace H := Option.bind_eq_some_iff.mp H
                    obtain ⟨t118, A210, H⟩ := H
                    replace H : (if t118 = true then (some false) else (if 1 ≤ ((strOfNums y110).size : Int) then ((value_May.f kj10 4 0 ((strOfNums y110).extract 1 (strOfNums y110).size)).bind fun t119 => (if t119 = true then ((boomeranglaw13_awake.f kj10).bind fun t120 => (some t120)) else (some false))) else (none))) = some r := H
                    have A21 := Aside0.mk A210
                    clear A210
                    by_cases c22 : t118 = true
                    · subst c22
                      have H1 : (some false) = some r := by rw [if_pos rfl] at H; exact H
                      clear H
                      have H := H1
                      clear H1
                      obtain rfl := Option.some.inj H
                      obtain ⟨Ao23, co23, eo23⟩ := Kd.R_slice HO_6.out
                      subst eo23
                      have p116 : 0 ≤ ((ji14) : Int) := of_decide_eq_true (by first | (with_reducible assumption) | assumption)
                      have q116 : (ji14) < (y113.length : Int) := of_decide_eq_true (by first | (with_reducible assumption) | assumption)
                      obtain ⟨ad116, e116, hx116_0, hx116_1, hx116_2⟩ := at_T24 (Kd.R_reads' HO_6.out).2.2 (ji14) p116 q116
                      cases e116
                      replace p116 := eq_true p116
                      replace q116 := eq_true q116
                      go_wp2_with (first | ((with_reducible refine gate_callee (f := 12) rfl ?_); refine goesL_ (some 42) rfl rfl Tryd.func12 (by kernel_rfl) rfl #[.agg #[.int .i64 ((rd_T24 y113 (ji14)).f0), .int .i64 ((rd_T24 y113 (ji14)).f1), .string ((rd_T24 y113 (ji14)).f2)]] rfl (by (try simp only [List.map_toArray, List.map_cons, List.map_nil]); first | done | (simp only [hji14]; rfl) | rfl | (simp only [List.length_drop, List.length_take]; rfl)) ?_; (with_reducible refine (value_May.calls kj10 ((rd_T24 y113 (ji14)).f0) ((rd_T24 y113 (ji14)).f1) ((rd_T24 y113 (ji14)).f2) false _ A17.out).mono ?_); rintro e w24 ⟨rfl, hb⟩; refine ⟨_, rfl, ?_⟩; have n0_ := Aside0.mk (Kd.R_below (by (with_reducible repeat (first | apply Kd.R_alloc | apply Kd.R_drewN | apply Kd.R_drew)); exact HO_6.out) hb); have n1_ := Aside0.mk (below_step (by repeat (first | (with_reducible first | exact HB.out | apply below_alloc | apply pw_below_drewN | apply below_drew1) | exact HB.out)) hb); clear HO_6; clear HB; have HO_6 := n0_; have HB := n1_; clear n0_ n1_; (try clear hb); (try clear hb2); (try clear hk); (try clear hi)) | (go_at_call 12; (with_reducible refine (value_May.calls kj10 x7_10 0 (⟨#[]⟩ : ByteArray) true _ A21.out).mono ?_); rintro e w25 ⟨rfl, hb⟩; have n0_ := Aside0.mk (Kd.R_below (by (with_reducible repeat (first | apply Kd.R_alloc | apply Kd.R_drewN | apply Kd.R_drew)); exact HO_6.out) hb); have n1_ := Aside0.mk (below_step (by repeat (first | (with_reducible first | exact HB.out | apply below_alloc | apply pw_below_drewN | apply below_drew1) | exact HB.out)) hb); clear HO_6; clear HB; have HO_6 := n0_; have HB := n1_; clear n0_ n1_; (try clear hb); (try clear hb2); (try clear hk); (try clear hi)))
                      go_ret
                      exact ⟨by first | rfl | (simp [errW_none, errW_some] <;> rfl) | (simp only [← hji14]; first | rfl | (simp [errW_none, errW_some] <;> rfl)) | (simp [*, errW_none, errW_some] <;> rfl) | (simp [errW_none, errW_some, h_isE]), by repeat (first | (with_reducible first | exact HB.out | apply below_alloc | apply pw_below_drewN | apply below_drew1) | exact HB.out)⟩
                    · replace c22 := Bool.eq_false_iff.mpr c22
                      subst c22
                      have H1 : (if 1 ≤ ((strOfNums y110).size : Int) then ((value_May.f kj10 4 0 ((strOfNums y110).extract 1 (strOfNums y110).size)).bind fun t119 => (if t119 = true then ((boomeranglaw13_awake.f kj10).bind fun t120 => (some t120)) else (some false))) else (none)) = some r := by rw [if_neg (show ¬ (false = true) by decide)] at H; exact H
                      clear H
                      have H := H1
                      clear H1
                      by_cases c26 : 1 ≤ ((strOfNums y110).size : Int)
                      · rw [if_pos c26] at H
                        have c26b0 := eq_true c26
                        have c26b1 : decide (1 ≤ ((strOfNums y110).size : Int)) = true := decide_eq_true c26
                        clear c26
                        replace H := Option.bind_eq_some_iff.mp H
                        obtain ⟨t119, A270, H⟩ := H
                        replace H : (if t119 = true then ((boomeranglaw13_awake.f kj10).bind fun t120 => (some t120)) else (some false)) = some r := H
                        have A27 := Aside0.mk A270
                        clear A270
                        by_cases c28 : t119 = true
                        · subst c28
                          have H1 : ((boomeranglaw13_awake.f kj10).bind fun t120 => (some t120)) = some r := by rw [if_pos rfl] at H; exact H
                          clear H
                          have H := H1
                          clear H1
                          replace H := Option.bind_eq_some_iff.mp H
                          obtain ⟨t120, A290, H⟩ := H
                          replace H : (some t120) = some r := H
                          have A29 := Aside0.mk A290
                          clear A290
                          obtain rfl := Option.some.inj H
                          obtain ⟨Ao30, co30, eo30⟩ := Kd.R_slice HO_6.out
                          subst eo30
                          have p116 : 0 ≤ ((ji14) : Int) := of_decide_eq_true (by first | (with_reducible assumption) | assumption)
                          have q116 : (ji14) < (y113.length : Int) := of_decide_eq_true (by first | (with_reducible assumption) | assumption)
                          obtain ⟨ad116, e116, hx116_0, hx116_1, hx116_2⟩ := at_T24 (Kd.R_reads' HO_6.out).2.2 (ji14) p116 q116
                          cases e116
                          replace p116 := eq_true p116
                          replace q116 := eq_true q116
                          go_wp2_with (first | ((with_reducible refine gate_callee (f := 12) rfl ?_); refine goesL_ (some 42) rfl rfl Tryd.func12 (by kernel_rfl) rfl #[.agg #[.int .i64 ((rd_T24 y113 (ji14)).f0), .int .i64 ((rd_T24 y113 (ji14)).f1), .string ((rd_T24 y113 (ji14)).f2)]] rfl (by (try simp only [List.map_toArray, List.map_cons, List.map_nil]); first | done | (simp only [hji14]; rfl) | rfl | (simp only [List.length_drop, List.length_take]; rfl)) ?_; (with_reducible refine (value_May.calls kj10 ((rd_T24 y113 (ji14)).f0) ((rd_T24 y113 (ji14)).f1) ((rd_T24 y113 (ji14)).f2) false _ A17.out).mono ?_); rintro e w31 ⟨rfl, hb⟩; refine ⟨_, rfl, ?_⟩; have n0_ := Aside0.mk (Kd.R_below (by (with_reducible repeat (first | apply Kd.R_alloc | apply Kd.R_drewN | apply Kd.R_drew)); exact HO_6.out) hb); have n1_ := Aside0.mk (below_step (by repeat (first | (with_reducible first | exact HB.out | apply below_alloc | apply pw_below_drewN | apply below_drew1) | exact HB.out)) hb); clear HO_6; clear HB; have HO_6 := n0_; have HB := n1_; clear n0_ n1_; (try clear hb); (try clear hb2); (try clear hk); (try clear hi)) | (go_at_call 12; (with_reducible refine (value_May.calls kj10 x7_10 0 (⟨#[]⟩ : ByteArray) false _ A21.out).mono ?_); rintro e w32 ⟨rfl, hb⟩; have n0_ := Aside0.mk (Kd.R_below (by (with_reducible repeat (first | apply Kd.R_alloc | apply Kd.R_drewN | apply Kd.R_drew)); exact HO_6.out) hb); have n1_ := Aside0.mk (below_step (by repeat (first | (with_reducible first | exact HB.out | apply below_alloc | apply pw_below_drewN | apply below_drew1) | exact HB.out)) hb); clear HO_6; clear HB; have HO_6 := n0_; have HB := n1_; clear n0_ n1_; (try clear hb); (try clear hb2); (try clear hk); (try clear hi)) | (go_at_call 12; (with_reducible refine (value_May.calls kj10 4 0 ((strOfNums y110).extract 1 (strOfNums y110).size) true _ A27.out).mono ?_); rintro e w33 ⟨rfl, hb⟩; have n0_ := Aside0.mk (Kd.R_below (by (with_reducible repeat (first | apply Kd.R_alloc | apply Kd.R_drewN | apply Kd.R_drew)); exact HO_6.out) hb); have n1_ := Aside0.mk (below_step (by repeat (first | (with_reducible first | exact HB.out | apply below_alloc | apply pw_below_drewN | apply below_drew1) | exact HB.out)) hb); clear HO_6; clear HB; have HO_6 := n0_; have HB := n1_; clear n0_ n1_; (try clear hb); (try clear hb2); (try clear hk); (try clear hi)) | (go_at_call 13; (with_reducible refine (boomeranglaw13_awake.calls kj10  t120 _ ?side1 A29.out).mono ?_); (case side1 => repeat (first | exact (GlobOK.below hG HB.out) | (with_reducible refine GlobOK.alloc ?_ _) | (with_reducible refine GlobOK.drewN ?_ _) | (with_reducible refine GlobOK.drew ?_))); rintro e w34 ⟨rfl, hb⟩; have n0_ := Aside0.mk (Kd.R_below (by (with_reducible repeat (first | apply Kd.R_alloc | apply Kd.R_drewN | apply Kd.R_drew)); exact HO_6.out) hb); have n1_ := Aside0.mk (below_step (by repeat (first | (with_reducible first | exact HB.out | apply below_alloc | apply pw_below_drewN | apply below_drew1) | exact HB.out)) hb); clear HO_6; clear HB; have HO_6 := n0_; have HB := n1_; clear n0_ n1_; (try clear hb); (try clear hb2); (try clear hk); (try clear hi)))
                          go_ret
                          exact ⟨by first | rfl | (simp [errW_none, errW_some] <;> rfl) | (simp only [← hji14]; first | rfl | (simp [errW_none, errW_some] <;> rfl)) | (simp [*, errW_none, errW_some] <;> rfl) | (simp [errW_none, errW_some, h_isE]), by repeat (first | (with_reducible first | exact HB.out | apply below_alloc | apply pw_below_drewN | apply below_drew1) | exact HB.out)⟩
                        · replace c28 := Bool.eq_false_iff.mpr c28
                          subst c28
                          have H1 : (some false) = some r := by rw [if_neg (show ¬ (false = true) by decide)] at H; exact H
                          clear H
                          have H := H1
                          clear H1
                          obtain rfl := Option.some.inj H
                          obtain ⟨Ao35, co35, eo35⟩ := Kd.R_slice HO_6.out
                          subst eo35
                          have p116 : 0 ≤ ((ji14) : Int) := of_decide_eq_true (by first | (with_reducible assumption) | assumption)
                          have q116 : (ji14) < (y113.length : Int) := of_decide_eq_true (by first | (with_reducible assumption) | assumption)
                          obtain ⟨ad116, e116, hx116_0, hx116_1, hx116_2⟩ := at_T24 (Kd.R_reads' HO_6.out).2.2 (ji14) p116 q116
                          cases e116
                          replace p116 := eq_true p116
                          replace q116 := eq_true q116
                          go_wp2_with (first | ((with_reducible refine gate_callee (f := 12) rfl ?_); refine goesL_ (some 42) rfl rfl Tryd.func12 (by kernel_rfl) rfl #[.agg #[.int .i64 ((rd_T24 y113 (ji14)).f0), .int .i64 ((rd_T24 y113 (ji14)).f1), .string ((rd_T24 y113 (ji14)).f2)]] rfl (by (try simp only [List.map_toArray, List.map_cons, List.map_nil]); first | done | (simp only [hji14]; rfl) | rfl | (simp only [List.length_drop, List.length_take]; rfl)) ?_; (with_reducible refine (value_May.calls kj10 ((rd_T24 y113 (ji14)).f0) ((rd_T24 y113 (ji14)).f1) ((rd_T24 y113 (ji14)).f2) false _ A17.out).mono ?_); rintro e w36 ⟨rfl, hb⟩; refine ⟨_, rfl, ?_⟩; have n0_ := Aside0.mk (Kd.R_below (by (with_reducible repeat (first | apply Kd.R_alloc | apply Kd.R_drewN | apply Kd.R_drew)); exact HO_6.out) hb); have n1_ := Aside0.mk (below_step (by repeat (first | (with_reducible first | exact HB.out | apply below_alloc | apply pw_below_drewN | apply below_drew1) | exact HB.out)) hb); clear HO_6; clear HB; have HO_6 := n0_; have HB := n1_; clear n0_ n1_; (try clear hb); (try clear hb2); (try clear hk); (try clear hi)) | (go_at_call 12; (with_reducible refine (value_May.calls kj10 x7_10 0 (⟨#[]⟩ : ByteArray) false _ A21.out).mono ?_); rintro e w37 ⟨rfl, hb⟩; have n0_ := Aside0.mk (Kd.R_below (by (with_reducible repeat (first | apply Kd.R_alloc | apply Kd.R_drewN | apply Kd.R_drew)); exact HO_6.out) hb); have n1_ := Aside0.mk (below_step (by repeat (first | (with_reducible first | exact HB.out | apply below_alloc | apply pw_below_drewN | apply below_drew1) | exact HB.out)) hb); clear HO_6; clear HB; have HO_6 := n0_; have HB := n1_; clear n0_ n1_; (try clear hb); (try clear hb2); (try clear hk); (try clear hi)) | (go_at_call 12; (with_reducible refine (value_May.calls kj10 4 0 ((strOfNums y110).extract 1 (strOfNums y110).size) false _ A27.out).mono ?_); rintro e w38 ⟨rfl, hb⟩; have n0_ := Aside0.mk (Kd.R_below (by (with_reducible repeat (first | apply Kd.R_alloc | apply Kd.R_drewN | apply Kd.R_drew)); exact HO_6.out) hb); have n1_ := Aside0.mk (below_step (by repeat (first | (with_reducible first | exact HB.out | apply below_alloc | apply pw_below_drewN | apply below_drew1) | exact HB.out)) hb); clear HO_6; clear HB; have HO_6 := n0_; have HB := n1_; clear n0_ n1_; (try clear hb); (try clear hb2); (try clear hk); (try clear hi)))
                          go_ret
                          exact ⟨by first | rfl | (simp [errW_none, errW_some] <;> rfl) | (simp only [← hji14]; first | rfl | (simp [errW_none, errW_some] <;> rfl)) | (simp [*, errW_none, errW_some] <;> rfl) | (simp [errW_none, errW_some, h_isE]), by repeat (first | (with_reducible first | exact HB.out | apply below_alloc | apply pw_below_drewN | apply below_drew1) | exact HB.out)⟩
                      · rw [if_neg c26] at H
                        exact absurd H (by simp)
                · rw [if_neg c16] at H
                  exact absurd H (by simp)
              · rw [if_neg c15] at H
                exact absurd H (by simp)
  · rw [if_neg c3] at H
    exact absurd H (by simp)

/-- THE ONE PURE STATEMENT of boomeranglaw13_ValueRefuses. -/
def boomeranglaw13_ValueRefuses.Pure : Prop := ∀ (a0 : Int) (a1 : Int), (Lit.int .i64 a0).wf = true → (Lit.int .u8 a1).wf = true → ∃ k, boomeranglaw13_ValueRefuses.f k a0 a1 = some true
theorem boomeranglaw13_ValueRefuses.walk (P : boomeranglaw13_ValueRefuses.Pure) (a0 : Int) (a1 : Int) (w : World) (w0 : (Lit.int .i64 a0).wf = true) (w1 : (Lit.int .u8 a1).wf = true) (hG : GlobOK w) :
    Calls Tryd.prog 3 #[.int .i64 a0, .int .u8 a1] w fun e w' => e = .returned (.bool true) ∧ Below w.heap.size w w' := by
  obtain ⟨k, h⟩ := P a0 a1 w0 w1
  refine (boomeranglaw13_ValueRefuses.calls k a0 a1 true w hG h).mono ?_
  rintro e w' ⟨rfl, hd⟩
  exact ⟨rfl, hd⟩

end Go.Proofs.YtfijbgpegfnlbaaDoor.PValueRefuses
