/- The statement of StepJumps is proved: the law returns true for all arguments, by the evaluator's cases. Conditions: none but the statement's own. -/
import Derived.Test.YtkmbpflckmbacaaGreatDoorRows
import Derived.Test.YtkmbpflckmbacaaGreatDoorEvStepJumpsx0
import Derived.Test.YtkmbpflckmbacaaGreatDoorEvStepJumpsx1
import Derived.Test.YtkmbpflckmbacaaGreatDoorCards
import Derived.Test.YtkmbpflckmbacaaGreatDoorTie
import Derived.WalkKit
import Derived.ProofKit
import Derived.OpenShut
import Derived.ShutString
import Derived.ChangeOld
import Derived.Below
import Derived.SizedLaws
import Derived.Lib.SmallJoins
import Derived.LaidMore
import Derived.Stop.LaidErr
import Derived.Lib.LaidTab
import Derived.Stop.Joined
import Derived.SevenTiedAt
namespace Go.Proofs.YtkmbpflckmbacaaGreatDoor.stepJumps
open Go.ChangeShapes Go.WideShapes Go.ChangeAt Go.RowKit
set_option linter.unusedVariables false
theorem own : ownKnob Tryz.prog.godebug = none := by kernel_rfl
theorem mixed : Tryz.prog.follows .mixedOrders = true := by kernel_rfl
theorem cases : ∀ (r0 : Bool) (r1 : Bool) (r2 : Bool), Go.Ev.saysTrue (Go.Ev.ev Go.Proofs.Sy.lib (Go.Ev.compF Tryz.prog) 400 150 3 [.bool r0, .bool r1, .bool r2] Go.Ev.H.empty) = true
  | .false, .false, .false => c_false_false_false
  | .false, .false, .true => c_false_false_true
  | .false, .true, .false => c_false_true_false
  | .false, .true, .true => c_false_true_true
  | .true, .false, .false => c_true_false_false
  | .true, .false, .true => c_true_false_true
  | .true, .true, .false => c_true_true_false
  | .true, .true, .true => c_true_true_true
theorem walk (a0 : Bool) (a1 : Bool) (a2 : Bool) (W : World)  (hG : Go.Proofs.Sy.Kn W) : Calls Tryz.prog 3 #[.bool a0, .bool a1, .bool a2] W (fun e W' => e = .returned (.bool true) ∧ Below W.heap.size W W') := by
  exact Go.Ev.calls_true mixed Go.Proofs.Sy.lib_ok (fun _ _ h => h) (cases a0 a1 a2 ) (args := #[.bool a0, .bool a1, .bool a2]) (Go.Ev.VRs.cons (show _ = _ from rfl) (Go.Ev.VRs.cons (show _ = _ from rfl) (Go.Ev.VRs.cons (show _ = _ from rfl) Go.Ev.VRs.nil))) W (Go.Proofs.Sy.met W hG)
/-- What is listed. -/
def laidL : List (String × DataW Unit) := [("math/bits.deBruijn32tab", Rows.laid_math_bits_deBruijn32tab), ("math/bits.deBruijn64tab", Rows.laid_math_bits_deBruijn64tab), ("internal/strconv.uint64pow10", Rows.laid_internal_strconv_uint64pow10), ("unicode.White_Space", Rows.laid_unicode_White_Space), ("strings.asciiSpace", Rows.laid_strings_asciiSpace)]
theorem door_met (os : Os) (args : Array Value) : laidMetH Tryz.prog laidL ((World.doorLaid Tryz.prog 60 os).forCall (fun _ _ => 0) ⟨#[], args, []⟩).memory :=
  laidMetH_of_parts3 (fuel := 8) (laidMet_of_run' 8 (by kernel_rfl) (by kernel_rfl)) (by kernel_rfl) (by kernel_rfl)
set_option maxRecDepth 100000 in
theorem glob0 {W : World} (h : laidMetH Tryz.prog laidL W) : Go.Proofs.Sy.Sps W := by
  rw [MakeChecks.laidMetH_plain _ _ _ (by kernel_rfl)] at h
  have h2 := (laidMet.tail (laidMet.tail (laidMet.tail (laidMet.tail (show laidMet Tryz.prog (("math/bits.deBruijn32tab", Rows.laid_math_bits_deBruijn32tab) :: ("math/bits.deBruijn64tab", Rows.laid_math_bits_deBruijn64tab) :: ("internal/strconv.uint64pow10", Rows.laid_internal_strconv_uint64pow10) :: ("unicode.White_Space", Rows.laid_unicode_White_Space) :: ("strings.asciiSpace", Rows.laid_strings_asciiSpace) :: []) W from h)))))
  exact Lib.tabIs_of_head (g := 0) (t := 262) (e := 5) (n := 256) (by kernel_rfl) (by kernel_rfl) Tryz.underlying262 Tryz.underlying5 (by kernel_rfl) (by kernel_rfl) (show laidMet Tryz.prog (("strings.asciiSpace", Lib.tabData .u8 Lib.asciiSpaceTab) :: []) W from h2)
set_option maxRecDepth 100000 in
theorem glob1 {W : World} (h : laidMetH Tryz.prog laidL W) : Go.Proofs.Sy.Pow W := by
  rw [MakeChecks.laidMetH_plain _ _ _ (by kernel_rfl)] at h
  have h2 := (laidMet.tail (laidMet.tail (show laidMet Tryz.prog (("math/bits.deBruijn32tab", Rows.laid_math_bits_deBruijn32tab) :: ("math/bits.deBruijn64tab", Rows.laid_math_bits_deBruijn64tab) :: ("internal/strconv.uint64pow10", Rows.laid_internal_strconv_uint64pow10) :: ("unicode.White_Space", Rows.laid_unicode_White_Space) :: ("strings.asciiSpace", Rows.laid_strings_asciiSpace) :: []) W from h)))
  exact Lib.tabIs_of_head (g := 2) (t := 316) (e := 251) (n := 20) (by kernel_rfl) (by kernel_rfl) Tryz.underlying316 Tryz.underlying251 (by kernel_rfl) (by kernel_rfl) (show laidMet Tryz.prog (("internal/strconv.uint64pow10", Lib.tabData .u64 Lib.pow10Tab) :: ("unicode.White_Space", Rows.laid_unicode_White_Space) :: ("strings.asciiSpace", Rows.laid_strings_asciiSpace) :: []) W from h2)
theorem glob_of_laid {W : World} (h : laidMetH Tryz.prog laidL W) : Go.Proofs.Sy.Kn W := ⟨glob0 h, glob1 h⟩
set_option maxRecDepth 100000 in
theorem lifted (os : Os) (started : os.Started) (H : Type) (enc : TypeId × Value → H) :
    ReturnsInHanded {} Tryz.checked os 3 .any (fun w args => (Rows.stepJumpsSpec.pre enc Tryz.prog Tryz.f3 Rows.stepJumpsRow.domain false w args ∧ laidMetH Tryz.prog laidL w) ∧ sizedMet enc Tryz.prog Tryz.f3 (OpenSpec.ofChange Rows.stepJumpsSpec) false w args)
      (Rows.stepJumpsSpec.post enc Tryz.prog Tryz.f3 false true false false) := by
  refine returnsInHanded_of_change_and (C := Tryz.checked) (X := fun w _ => laidMetH Tryz.prog laidL w) (fun _ _ _ hh h => h.of_heap hh) own started (by kernel_rfl) Tryz.func3
    (ChangeSpec.witness_shaped (enc := enc) (C := Tryz.checked) (os := os) (X := fun w _ => laidMetH Tryz.prog laidL w) false (World.doorLaid Tryz.prog 60 os) #[.bool false, .bool false, .bool false] 8 rfl (World.shaped_of_RefB (by kernel_rfl) (by kernel_rfl)) (by kernel_rfl) (by kernel_rfl) (by kernel_rfl) (door_met os _)) ?_
  intro W base args ds gs before hval0 hW _ hsz0 hL _
  have hG := glob_of_laid hL
  have hval : ∀ (j : Nat) t v, Tryz.f3.params[j]? = some t → args[j]? = some v → Value.okWide Tryz.prog W .any base t v := hval0
  have hW' := hW
  obtain ⟨p, q, hA0, hV, rfl, hfz, hnd⟩ := hW
  have hA : DataW.TrodAll enc Tryz.prog W 0 (fun _ => true) true Tryz.f3.params.toList args.toList ds p := hA0
  rw [Tryz.params3] at hA hval
  obtain ⟨v0, vs0, d0, ds0, p0, q0, hargs, rfl, rfl, h0, r0⟩ := trodAll_cons hA
  obtain ⟨v1, vs1, d1, ds1, p1, q1, rfl, rfl, rfl, h1, r1⟩ := trodAll_cons r0
  obtain ⟨v2, vs2, d2, ds2, p2, q2, rfl, rfl, rfl, h2, r2⟩ := trodAll_cons r1
  obtain ⟨rfl, rfl, rfl⟩ := trodAll_nil r2
  obtain rfl : args = #[v0, v1, v2] := by cases args; simp_all
  obtain ⟨rfl, rfl⟩ := trodVars_none hV
  obtain ⟨a0, rfl, rfl, rfl⟩ := open_bool Tryz.underlying4 (hval 0 4 v0 rfl rfl) h0
  obtain ⟨a1, rfl, rfl, rfl⟩ := open_bool Tryz.underlying4 (hval 1 4 v1 rfl rfl) h1
  obtain ⟨a2, rfl, rfl, rfl⟩ := open_bool Tryz.underlying4 (hval 2 4 v2 rfl rfl) h2
  refine (walk a0 a1 a2 W  hG).mono fun e W' ⟨he, bel⟩ => ?_
  subst he
  exact ⟨_, rfl, _, _, _, [], _, [], hW', trodAll_mk1 (shut_bool Tryz.underlying4 _), (trodAll_cons_mk (shut_bool Tryz.underlying4 _) (trodAll_cons_mk (shut_bool Tryz.underlying4 _) (trodAll_cons_mk (shut_bool Tryz.underlying4 _) trodAll_mk0))), rfl, bel.frame _, fun h => by cases h⟩
theorem j2 : laidOutB Tryz.prog = true := by kernel_rfl
theorem j3 : mapsRowed Tryz.prog = true := by kernel_rfl
theorem j7 : (Tryz.prog.stops == []) = true := by kernel_rfl
theorem j9 : (Tryz.prog.stopKnobs == []) = true := by kernel_rfl
theorem j10 : (Rows.stepJumpsRow.inPlace == Tryz.prog.inPlace 3) = true := by kernel_rfl
theorem j11 : (Rows.stepJumpsRow.unfollowed == Tryz.prog.unfollowed 3) = true := by kernel_rfl
theorem j12 : (Rows.stepJumpsRow.recurses == Tryz.prog.recurses 3) = true := by kernel_rfl
theorem j13 : (Rows.stepJumpsRow.named == Tryz.prog.varsNamed 3) = true := by kernel_rfl
theorem j23 : (Rows.stepJumpsRow.plainKeys == Tryz.prog.plainKeys) = true := by kernel_rfl
theorem j25 : Tryz.prog.stopsHeard = true := by kernel_rfl
theorem j26 : Tryz.prog.mayEnter = true := by kernel_rfl
theorem j27 : (Rows.stepJumpsRow.lifted == Tryz.prog.liftsFinal) = true := by kernel_rfl
theorem j28 : (Tryz.prog.make == some Rows.stepJumpsRow.make) = true := by kernel_rfl
theorem jand {a b : Bool} (ha : a = true) (hb : b = true) : (a && b) = true := by rw [ha, hb]; rfl
theorem closed : joinedFacts Tryz.prog 3 Tryz.f3 Rows.stepJumpsSpec Rows.stepJumpsRow = true := by
  unfold joinedFacts
  refine jand (jand (jand (jand (jand (jand (jand (jand (jand (jand (jand (jand (jand (jand (jand (jand (jand (jand (jand (jand (jand (jand (jand (jand (jand (jand (jand (jand (jand (jand (jand (?_) j2) j3) ?_) ?_) ?_) j7) ?_) j9) j10) j11) j12) j13) ?_) ?_) ?_) ?_) ?_) ?_) ?_) ?_) ?_) j23) ?_) j25) j26) j27) j28) ?_) ?_) ?_) ?_
  all_goals kernel_rfl
theorem over : Rows.stepJumpsRow.holds Tryz.pinned (OpenSpec.ofChange Rows.stepJumpsSpec) :=
  OpenClaim.holds_of_wide 3 Tryz.f3 rfl rfl rfl rfl rfl rfl rfl ⟨rfl, rfl, rfl, rfl, rfl⟩ rfl rfl rfl rfl rfl (by kernel_rfl) Tryz.func3 closed
    (of_decide_eq_true (by kernel_rfl)) (by unfold Func.isWrapper; first | (rw [if_pos (by decide +kernel)]; kernel_rfl) | (rw [if_neg (by decide +kernel)]; exact ⟨rfl, rfl⟩))
    (fun os started H enc _ => lifted os started H enc)
theorem card_w : Rows.stepJumpsRow.wfByText (OpenSpec.ofChange Rows.stepJumpsSpec) = true := by kernel_rfl
theorem card_m : Tryz.prog.mainIs = some ((true, "5a3d00ba45e52054d04116efd7a3346baf621e17c49d919a0a4adbdc7180512d").1, (true, "5a3d00ba45e52054d04116efd7a3346baf621e17c49d919a0a4adbdc7180512d").2.toList) := by kernel_rfl
theorem card_l : true = Tryz.prog.looks [] := by kernel_rfl
theorem card_s : ([4, 4, 4].all fun u => !Tryz.prog.wantsStandIn u) = true := by kernel_rfl
theorem card_g : false = Rows.stepJumpsRow.goesBy Tryz.prog := by kernel_rfl
theorem card_n : Tryz.prog.funcNamed "boomerang/boomeranglaw19.StepJumps" = some 3 := by kernel_rfl
theorem card : Rows.StepJumpsCardSaid :=
  Claim7.holds_tied_plain_at .later [] [.data, .data, .data, .listed, .data] true (true, "5a3d00ba45e52054d04116efd7a3346baf621e17c49d919a0a4adbdc7180512d") true
    over (fun _ h => by cases h) card_w (fun _ h => by cases h) stepJumps_row_tie rfl ⟨rfl, rfl⟩ card_m rfl
    (fun f fn hf hfn => by
      obtain rfl : f = 3 := Option.some.inj (card_n.symm.trans hf) |>.symm
      obtain rfl : fn = Tryz.f3 := (Option.some.inj (Tryz.func3.symm.trans hfn)).symm
      exact ⟨card_l, fun j t ht => by
        rw [Tryz.params3] at ht
        have hm : t ∈ [4, 4, 4] := by simpa using Array.mem_of_getElem? ht
        exact (show Tryz.prog.wantsStandIn t = false by simpa using List.all_eq_true.1 card_s t hm)⟩)
    card_g
theorem proved : Rows.StepJumpsCardSaid := card
end Go.Proofs.YtkmbpflckmbacaaGreatDoor.stepJumps
namespace Go.Proofs.YtkmbpflckmbacaaGreatDoor
/-- The statement, under a short name, for the claim. -/
theorem stepJumps_holds : Rows.StepJumpsCardSaid := stepJumps.proved
end Go.Proofs.YtkmbpflckmbacaaGreatDoor
