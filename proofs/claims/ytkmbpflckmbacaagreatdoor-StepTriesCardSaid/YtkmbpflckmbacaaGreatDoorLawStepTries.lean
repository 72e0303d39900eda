/- The statement of StepTries is proved: the law returns true for all arguments, by the evaluator's cases. Conditions: none but the statement's own. -/
import Derived.Test.YtkmbpflckmbacaaGreatDoorRows
import Derived.Test.YtkmbpflckmbacaaGreatDoorEvStepTriesx0
import Derived.Test.YtkmbpflckmbacaaGreatDoorEvStepTriesx1
import Derived.Test.YtkmbpflckmbacaaGreatDoorEvStepTriesx2
import Derived.Test.YtkmbpflckmbacaaGreatDoorEvStepTriesx3
import Derived.Test.YtkmbpflckmbacaaGreatDoorEvStepTriesx4
import Derived.Test.YtkmbpflckmbacaaGreatDoorEvStepTriesx5
import Derived.Test.YtkmbpflckmbacaaGreatDoorEvStepTriesx6
import Derived.Test.YtkmbpflckmbacaaGreatDoorEvStepTriesx7
import Derived.Test.YtkmbpflckmbacaaGreatDoorEvStepTriesx8
import Derived.Test.YtkmbpflckmbacaaGreatDoorEvStepTriesx9
import Derived.Test.YtkmbpflckmbacaaGreatDoorEvStepTriesx10
import Derived.Test.YtkmbpflckmbacaaGreatDoorEvStepTriesx11
import Derived.Test.YtkmbpflckmbacaaGreatDoorCards
import Derived.Test.YtkmbpflckmbacaaGreatDoorTie
import Derived.WalkKit
import Derived.ProofKit
import Derived.OpenShut
import Derived.ShutString
import Derived.ChangeOld
import Derived.Below
import Derived.SizedLaws
import Derived.Lib.SmallJoins
import Derived.LaidMore
import Derived.Stop.LaidErr
import Derived.Lib.LaidTab
import Derived.Stop.Joined
import Derived.SevenTiedAt
namespace Go.Proofs.YtkmbpflckmbacaaGreatDoor.stepTries
open Go.ChangeShapes Go.WideShapes Go.ChangeAt Go.RowKit
set_option linter.unusedVariables false
theorem own : ownKnob Tryz.prog.godebug = none := by kernel_rfl
theorem mixed : Tryz.prog.follows .mixedOrders = true := by kernel_rfl
theorem cases : ∀ (r0 : Nat) (r1 : Nat), r0 < 12 → r1 < r0 + 1 → Go.Ev.saysTrue (Go.Ev.ev Go.Proofs.Sy.lib (Go.Ev.compF Tryz.prog) 800 150 5 [.res .u8 12 r0, .res .u8 (r0 + 1) r1] Go.Ev.H.empty) = true
  | 0, 0, _, _ => c_0_0
  | 1, 0, _, _ => c_1_0
  | 1, 1, _, _ => c_1_1
  | 2, 0, _, _ => c_2_0
  | 2, 1, _, _ => c_2_1
  | 2, 2, _, _ => c_2_2
  | 3, 0, _, _ => c_3_0
  | 3, 1, _, _ => c_3_1
  | 3, 2, _, _ => c_3_2
  | 3, 3, _, _ => c_3_3
  | 4, 0, _, _ => c_4_0
  | 4, 1, _, _ => c_4_1
  | 4, 2, _, _ => c_4_2
  | 4, 3, _, _ => c_4_3
  | 4, 4, _, _ => c_4_4
  | 5, 0, _, _ => c_5_0
  | 5, 1, _, _ => c_5_1
  | 5, 2, _, _ => c_5_2
  | 5, 3, _, _ => c_5_3
  | 5, 4, _, _ => c_5_4
  | 5, 5, _, _ => c_5_5
  | 6, 0, _, _ => c_6_0
  | 6, 1, _, _ => c_6_1
  | 6, 2, _, _ => c_6_2
  | 6, 3, _, _ => c_6_3
  | 6, 4, _, _ => c_6_4
  | 6, 5, _, _ => c_6_5
  | 6, 6, _, _ => c_6_6
  | 7, 0, _, _ => c_7_0
  | 7, 1, _, _ => c_7_1
  | 7, 2, _, _ => c_7_2
  | 7, 3, _, _ => c_7_3
  | 7, 4, _, _ => c_7_4
  | 7, 5, _, _ => c_7_5
  | 7, 6, _, _ => c_7_6
  | 7, 7, _, _ => c_7_7
  | 8, 0, _, _ => c_8_0
  | 8, 1, _, _ => c_8_1
  | 8, 2, _, _ => c_8_2
  | 8, 3, _, _ => c_8_3
  | 8, 4, _, _ => c_8_4
  | 8, 5, _, _ => c_8_5
  | 8, 6, _, _ => c_8_6
  | 8, 7, _, _ => c_8_7
  | 8, 8, _, _ => c_8_8
  | 9, 0, _, _ => c_9_0
  | 9, 1, _, _ => c_9_1
  | 9, 2, _, _ => c_9_2
  | 9, 3, _, _ => c_9_3
  | 9, 4, _, _ => c_9_4
  | 9, 5, _, _ => c_9_5
  | 9, 6, _, _ => c_9_6
  | 9, 7, _, _ => c_9_7
  | 9, 8, _, _ => c_9_8
  | 9, 9, _, _ => c_9_9
  | 10, 0, _, _ => c_10_0
  | 10, 1, _, _ => c_10_1
  | 10, 2, _, _ => c_10_2
  | 10, 3, _, _ => c_10_3
  | 10, 4, _, _ => c_10_4
  | 10, 5, _, _ => c_10_5
  | 10, 6, _, _ => c_10_6
  | 10, 7, _, _ => c_10_7
  | 10, 8, _, _ => c_10_8
  | 10, 9, _, _ => c_10_9
  | 10, 10, _, _ => c_10_10
  | 11, 0, _, _ => c_11_0
  | 11, 1, _, _ => c_11_1
  | 11, 2, _, _ => c_11_2
  | 11, 3, _, _ => c_11_3
  | 11, 4, _, _ => c_11_4
  | 11, 5, _, _ => c_11_5
  | 11, 6, _, _ => c_11_6
  | 11, 7, _, _ => c_11_7
  | 11, 8, _, _ => c_11_8
  | 11, 9, _, _ => c_11_9
  | 11, 10, _, _ => c_11_10
  | 11, 11, _, _ => c_11_11
  | (_ + 12), _, h, _ => absurd h (by omega)
  | 0, (_ + 1), _, h => absurd h (by omega)
  | 1, (_ + 2), _, h => absurd h (by omega)
  | 2, (_ + 3), _, h => absurd h (by omega)
  | 3, (_ + 4), _, h => absurd h (by omega)
  | 4, (_ + 5), _, h => absurd h (by omega)
  | 5, (_ + 6), _, h => absurd h (by omega)
  | 6, (_ + 7), _, h => absurd h (by omega)
  | 7, (_ + 8), _, h => absurd h (by omega)
  | 8, (_ + 9), _, h => absurd h (by omega)
  | 9, (_ + 10), _, h => absurd h (by omega)
  | 10, (_ + 11), _, h => absurd h (by omega)
  | 11, (_ + 12), _, h => absurd h (by omega)
theorem walk (a0 : Int) (a1 : Int) (W : World) (w0 : (Lit.int .u8 a0).wf = true) (w1 : (Lit.int .u8 a1).wf = true) (hG : Go.Proofs.Sy.Kn W) : Calls Tryz.prog 5 #[.int .u8 a0, .int .u8 a1] W (fun e W' => e = .returned (.bool true) ∧ Below W.heap.size W W') := by
  obtain ⟨r0, h0, e0⟩ := Go.Ev.res_of w0 (m := 12) (by decide)
  obtain ⟨r1, h1, e1⟩ := Go.Ev.res_of w1 (m := r0 + 1) (Nat.succ_pos r0)
  exact Go.Ev.calls_true mixed Go.Proofs.Sy.lib_ok (fun _ _ h => h) (cases r0 r1 h0 h1) (args := #[.int .u8 a0, .int .u8 a1]) (Go.Ev.VRs.cons e0 (Go.Ev.VRs.cons e1 Go.Ev.VRs.nil)) W (Go.Proofs.Sy.met W hG)
/-- What is listed. -/
def laidL : List (String × DataW Unit) := [("math/bits.deBruijn32tab", Rows.laid_math_bits_deBruijn32tab), ("math/bits.deBruijn64tab", Rows.laid_math_bits_deBruijn64tab), ("internal/strconv.uint64pow10", Rows.laid_internal_strconv_uint64pow10), ("unicode.White_Space", Rows.laid_unicode_White_Space), ("strings.asciiSpace", Rows.laid_strings_asciiSpace)]
theorem door_met (os : Os) (args : Array Value) : laidMetH Tryz.prog laidL ((World.doorLaid Tryz.prog 60 os).forCall (fun _ _ => 0) ⟨#[], args, []⟩).memory :=
  laidMetH_of_parts3 (fuel := 8) (laidMet_of_run' 8 (by kernel_rfl) (by kernel_rfl)) (by kernel_rfl) (by kernel_rfl)
set_option maxRecDepth 100000 in
theorem glob0 {W : World} (h : laidMetH Tryz.prog laidL W) : Go.Proofs.Sy.Sps W := by
  rw [MakeChecks.laidMetH_plain _ _ _ (by kernel_rfl)] at h
  have h2 := (laidMet.tail (laidMet.tail (laidMet.tail (laidMet.tail (show laidMet Tryz.prog (("math/bits.deBruijn32tab", Rows.laid_math_bits_deBruijn32tab) :: ("math/bits.deBruijn64tab", Rows.laid_math_bits_deBruijn64tab) :: ("internal/strconv.uint64pow10", Rows.laid_internal_strconv_uint64pow10) :: ("unicode.White_Space", Rows.laid_unicode_White_Space) :: ("strings.asciiSpace", Rows.laid_strings_asciiSpace) :: []) W from h)))))
  exact Lib.tabIs_of_head (g := 0) (t := 262) (e := 5) (n := 256) (by kernel_rfl) (by kernel_rfl) Tryz.underlying262 Tryz.underlying5 (by kernel_rfl) (by kernel_rfl) (show laidMet Tryz.prog (("strings.asciiSpace", Lib.tabData .u8 Lib.asciiSpaceTab) :: []) W from h2)
set_option maxRecDepth 100000 in
theorem glob1 {W : World} (h : laidMetH Tryz.prog laidL W) : Go.Proofs.Sy.Pow W := by
  rw [MakeChecks.laidMetH_plain _ _ _ (by kernel_rfl)] at h
  have h2 := (laidMet.tail (laidMet.tail (show laidMet Tryz.prog (("math/bits.deBruijn32tab", Rows.laid_math_bits_deBruijn32tab) :: ("math/bits.deBruijn64tab", Rows.laid_math_bits_deBruijn64tab) :: ("internal/strconv.uint64pow10", Rows.laid_internal_strconv_uint64pow10) :: ("unicode.White_Space", Rows.laid_unicode_White_Space) :: ("strings.asciiSpace", Rows.laid_strings_asciiSpace) :: []) W from h)))
  exact Lib.tabIs_of_head (g := 2) (t := 316) (e := 251) (n := 20) (by kernel_rfl) (by kernel_rfl) Tryz.underlying316 Tryz.underlying251 (by kernel_rfl) (by kernel_rfl) (show laidMet Tryz.prog (("internal/strconv.uint64pow10", Lib.tabData .u64 Lib.pow10Tab) :: ("unicode.White_Space", Rows.laid_unicode_White_Space) :: ("strings.asciiSpace", Rows.laid_strings_asciiSpace) :: []) W from h2)
theorem glob_of_laid {W : World} (h : laidMetH Tryz.prog laidL W) : Go.Proofs.Sy.Kn W := ⟨glob0 h, glob1 h⟩
set_option maxRecDepth 100000 in
theorem lifted (os : Os) (started : os.Started) (H : Type) (enc : TypeId × Value → H) :
    ReturnsInHanded {} Tryz.checked os 5 .any (fun w args => (Rows.stepTriesSpec.pre enc Tryz.prog Tryz.f5 Rows.stepTriesRow.domain false w args ∧ laidMetH Tryz.prog laidL w) ∧ sizedMet enc Tryz.prog Tryz.f5 (OpenSpec.ofChange Rows.stepTriesSpec) false w args)
      (Rows.stepTriesSpec.post enc Tryz.prog Tryz.f5 false true false false) := by
  refine returnsInHanded_of_change_and (C := Tryz.checked) (X := fun w _ => laidMetH Tryz.prog laidL w) (fun _ _ _ hh h => h.of_heap hh) own started (by kernel_rfl) Tryz.func5
    (ChangeSpec.witness_shaped (enc := enc) (C := Tryz.checked) (os := os) (X := fun w _ => laidMetH Tryz.prog laidL w) false (World.doorLaid Tryz.prog 60 os) #[.int .u8 0, .int .u8 0] 8 rfl (World.shaped_of_RefB (by kernel_rfl) (by kernel_rfl)) (by kernel_rfl) (by kernel_rfl) (by kernel_rfl) (door_met os _)) ?_
  intro W base args ds gs before hval0 hW _ hsz0 hL _
  have hG := glob_of_laid hL
  have hval : ∀ (j : Nat) t v, Tryz.f5.params[j]? = some t → args[j]? = some v → Value.okWide Tryz.prog W .any base t v := hval0
  have hW' := hW
  obtain ⟨p, q, hA0, hV, rfl, hfz, hnd⟩ := hW
  have hA : DataW.TrodAll enc Tryz.prog W 0 (fun _ => true) true Tryz.f5.params.toList args.toList ds p := hA0
  rw [Tryz.params5] at hA hval
  obtain ⟨v0, vs0, d0, ds0, p0, q0, hargs, rfl, rfl, h0, r0⟩ := trodAll_cons hA
  obtain ⟨v1, vs1, d1, ds1, p1, q1, rfl, rfl, rfl, h1, r1⟩ := trodAll_cons r0
  obtain ⟨rfl, rfl, rfl⟩ := trodAll_nil r1
  obtain rfl : args = #[v0, v1] := by cases args; simp_all
  obtain ⟨rfl, rfl⟩ := trodVars_none hV
  obtain ⟨a0, rfl, rfl, rfl, w0⟩ := open_int Tryz.underlying5 (hval 0 5 v0 rfl rfl) h0
  obtain ⟨a1, rfl, rfl, rfl, w1⟩ := open_int Tryz.underlying5 (hval 1 5 v1 rfl rfl) h1
  refine (walk a0 a1 W w0 w1 hG).mono fun e W' ⟨he, bel⟩ => ?_
  subst he
  exact ⟨_, rfl, _, _, _, [], _, [], hW', trodAll_mk1 (shut_bool Tryz.underlying4 _), (trodAll_cons_mk (shut_int Tryz.underlying5 w0) (trodAll_cons_mk (shut_int Tryz.underlying5 w1) trodAll_mk0)), rfl, bel.frame _, fun h => by cases h⟩
theorem j2 : laidOutB Tryz.prog = true := by kernel_rfl
theorem j3 : mapsRowed Tryz.prog = true := by kernel_rfl
theorem j7 : (Tryz.prog.stops == []) = true := by kernel_rfl
theorem j9 : (Tryz.prog.stopKnobs == []) = true := by kernel_rfl
theorem j10 : (Rows.stepTriesRow.inPlace == Tryz.prog.inPlace 5) = true := by kernel_rfl
theorem j11 : (Rows.stepTriesRow.unfollowed == Tryz.prog.unfollowed 5) = true := by kernel_rfl
theorem j12 : (Rows.stepTriesRow.recurses == Tryz.prog.recurses 5) = true := by kernel_rfl
theorem j13 : (Rows.stepTriesRow.named == Tryz.prog.varsNamed 5) = true := by kernel_rfl
theorem j23 : (Rows.stepTriesRow.plainKeys == Tryz.prog.plainKeys) = true := by kernel_rfl
theorem j25 : Tryz.prog.stopsHeard = true := by kernel_rfl
theorem j26 : Tryz.prog.mayEnter = true := by kernel_rfl
theorem j27 : (Rows.stepTriesRow.lifted == Tryz.prog.liftsFinal) = true := by kernel_rfl
theorem j28 : (Tryz.prog.make == some Rows.stepTriesRow.make) = true := by kernel_rfl
theorem jand {a b : Bool} (ha : a = true) (hb : b = true) : (a && b) = true := by rw [ha, hb]; rfl
theorem closed : joinedFacts Tryz.prog 5 Tryz.f5 Rows.stepTriesSpec Rows.stepTriesRow = true := by
  unfold joinedFacts
  refine jand (jand (jand (jand (jand (jand (jand (jand (jand (jand (jand (jand (jand (jand (jand (jand (jand (jand (jand (jand (jand (jand (jand (jand (jand (jand (jand (jand (jand (jand (jand (?_) j2) j3) ?_) ?_) ?_) j7) ?_) j9) j10) j11) j12) j13) ?_) ?_) ?_) ?_) ?_) ?_) ?_) ?_) ?_) j23) ?_) j25) j26) j27) j28) ?_) ?_) ?_) ?_
  all_goals kernel_rfl
theorem over : Rows.stepTriesRow.holds Tryz.pinned (OpenSpec.ofChange Rows.stepTriesSpec) :=
  OpenClaim.holds_of_wide 5 Tryz.f5 rfl rfl rfl rfl rfl rfl rfl ⟨rfl, rfl, rfl, rfl, rfl⟩ rfl rfl rfl rfl rfl (by kernel_rfl) Tryz.func5 closed
    (of_decide_eq_true (by kernel_rfl)) (by unfold Func.isWrapper; first | (rw [if_pos (by decide +kernel)]; kernel_rfl) | (rw [if_neg (by decide +kernel)]; exact ⟨rfl, rfl⟩))
    (fun os started H enc _ => lifted os started H enc)
theorem card_w : Rows.stepTriesRow.wfByText (OpenSpec.ofChange Rows.stepTriesSpec) = true := by kernel_rfl
theorem card_m : Tryz.prog.mainIs = some ((true, "5a3d00ba45e52054d04116efd7a3346baf621e17c49d919a0a4adbdc7180512d").1, (true, "5a3d00ba45e52054d04116efd7a3346baf621e17c49d919a0a4adbdc7180512d").2.toList) := by kernel_rfl
theorem card_l : true = Tryz.prog.looks [] := by kernel_rfl
theorem card_s : ([5, 5].all fun u => !Tryz.prog.wantsStandIn u) = true := by kernel_rfl
theorem card_g : false = Rows.stepTriesRow.goesBy Tryz.prog := by kernel_rfl
theorem card_n : Tryz.prog.funcNamed "boomerang/boomeranglaw19.StepTries" = some 5 := by kernel_rfl
theorem card : Rows.StepTriesCardSaid :=
  Claim7.holds_tied_plain_at .later [] [.data, .data, .data, .listed, .data] true (true, "5a3d00ba45e52054d04116efd7a3346baf621e17c49d919a0a4adbdc7180512d") true
    over (fun _ h => by cases h) card_w (fun _ h => by cases h) stepTries_row_tie rfl ⟨rfl, rfl⟩ card_m rfl
    (fun f fn hf hfn => by
      obtain rfl : f = 5 := Option.some.inj (card_n.symm.trans hf) |>.symm
      obtain rfl : fn = Tryz.f5 := (Option.some.inj (Tryz.func5.symm.trans hfn)).symm
      exact ⟨card_l, fun j t ht => by
        rw [Tryz.params5] at ht
        have hm : t ∈ [5, 5] := by simpa using Array.mem_of_getElem? ht
        exact (show Tryz.prog.wantsStandIn t = false by simpa using List.all_eq_true.1 card_s t hm)⟩)
    card_g
theorem proved : Rows.StepTriesCardSaid := card
end Go.Proofs.YtkmbpflckmbacaaGreatDoor.stepTries
namespace Go.Proofs.YtkmbpflckmbacaaGreatDoor
/-- The statement, under a short name, for the claim. -/
theorem stepTries_holds : Rows.StepTriesCardSaid := stepTries.proved
end Go.Proofs.YtkmbpflckmbacaaGreatDoor
