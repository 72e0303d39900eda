/- The statement of StepScopes is proved: the law returns true for all arguments, by the evaluator's cases. Conditions: none but the statement's own. -/
import Derived.Test.YtkmbpflckmbacaaGreatDoorRows
import Derived.Test.YtkmbpflckmbacaaGreatDoorEvStepScopesx0
import Derived.Test.YtkmbpflckmbacaaGreatDoorEvStepScopesx1
import Derived.Test.YtkmbpflckmbacaaGreatDoorEvStepScopesx2
import Derived.Test.YtkmbpflckmbacaaGreatDoorCards
import Derived.Test.YtkmbpflckmbacaaGreatDoorTie
import Derived.WalkKit
import Derived.ProofKit
import Derived.OpenShut
import Derived.ShutString
import Derived.ChangeOld
import Derived.Below
import Derived.SizedLaws
import Derived.Lib.SmallJoins
import Derived.LaidMore
import Derived.Stop.LaidErr
import Derived.Lib.LaidTab
import Derived.Stop.Joined
import Derived.SevenTiedAt
namespace Go.Proofs.YtkmbpflckmbacaaGreatDoor.stepScopes
open Go.ChangeShapes Go.WideShapes Go.ChangeAt Go.RowKit
set_option linter.unusedVariables false
theorem own : ownKnob Tryz.prog.godebug = none := by kernel_rfl
theorem mixed : Tryz.prog.follows .mixedOrders = true := by kernel_rfl
theorem cases : ∀ (r0 : Nat), r0 < 9 → Go.Ev.saysTrue (Go.Ev.ev Go.Proofs.Sy.lib (Go.Ev.compF Tryz.prog) 1000 150 4 [.res .u8 9 r0] Go.Ev.H.empty) = true
  | 0, _ => c_0
  | 1, _ => c_1
  | 2, _ => c_2
  | 3, _ => c_3
  | 4, _ => c_4
  | 5, _ => c_5
  | 6, _ => c_6
  | 7, _ => c_7
  | 8, _ => c_8
  | (_ + 9), h => absurd h (by omega)
theorem walk (a0 : Int) (W : World) (w0 : (Lit.int .u8 a0).wf = true) (hG : Go.Proofs.Sy.Kn W) : Calls Tryz.prog 4 #[.int .u8 a0] W (fun e W' => e = .returned (.bool true) ∧ Below W.heap.size W W') := by
  obtain ⟨r0, h0, e0⟩ := Go.Ev.res_of w0 (m := 9) (by decide)
  exact Go.Ev.calls_true mixed Go.Proofs.Sy.lib_ok (fun _ _ h => h) (cases r0 h0) (args := #[.int .u8 a0]) (Go.Ev.VRs.cons e0 Go.Ev.VRs.nil) W (Go.Proofs.Sy.met W hG)
def lL : List (String × DataW Unit) := [("math/bits.deBruijn32tab", Rows.laid_math_bits_deBruijn32tab), ("math/bits.deBruijn64tab", Rows.laid_math_bits_deBruijn64tab), ("internal/strconv.uint64pow10", Rows.laid_internal_strconv_uint64pow10), ("unicode.White_Space", Rows.laid_unicode_White_Space), ("strings.asciiSpace", Rows.laid_strings_asciiSpace)]
theorem dm (os : Os) (args : Array Value) : laidMetH Tryz.prog lL ((World.doorLaid Tryz.prog 60 os).forCall (fun _ _ => 0) ⟨#[], args, []⟩).memory :=
  laidMetH_of_parts3 (fuel := 8) (laidMet_of_run' 8 (by kernel_rfl) (by kernel_rfl)) (by kernel_rfl) (by kernel_rfl)
set_option maxRecDepth 100000 in
theorem glob0 {W : World} (h : laidMetH Tryz.prog lL W) : Go.Proofs.Sy.Sps W := by
  rw [MakeChecks.laidMetH_plain _ _ _ (by kernel_rfl)] at h
  have h2 := (laidMet.tail (laidMet.tail (laidMet.tail (laidMet.tail (show laidMet Tryz.prog (("math/bits.deBruijn32tab", Rows.laid_math_bits_deBruijn32tab) :: ("math/bits.deBruijn64tab", Rows.laid_math_bits_deBruijn64tab) :: ("internal/strconv.uint64pow10", Rows.laid_internal_strconv_uint64pow10) :: ("unicode.White_Space", Rows.laid_unicode_White_Space) :: ("strings.asciiSpace", Rows.laid_strings_asciiSpace) :: []) W from h)))))
  exact Lib.tabIs_of_head (g := 0) (t := 262) (e := 5) (n := 256) (by kernel_rfl) (by kernel_rfl) Tryz.underlying262 Tryz.underlying5 (by kernel_rfl) (by kernel_rfl) (show laidMet Tryz.prog (("strings.asciiSpace", Lib.tabData .u8 Lib.asciiSpaceTab) :: []) W from h2)
set_option maxRecDepth 100000 in
theorem glob1 {W : World} (h : laidMetH Tryz.prog lL W) : Go.Proofs.Sy.Pow W := by
  rw [MakeChecks.laidMetH_plain _ _ _ (by kernel_rfl)] at h
  have h2 := (laidMet.tail (laidMet.tail (show laidMet Tryz.prog (("math/bits.deBruijn32tab", Rows.laid_math_bits_deBruijn32tab) :: ("math/bits.deBruijn64tab", Rows.laid_math_bits_deBruijn64tab) :: ("internal/strconv.uint64pow10", Rows.laid_internal_strconv_uint64pow10) :: ("unicode.White_Space", Rows.laid_unicode_White_Space) :: ("strings.asciiSpace", Rows.laid_strings_asciiSpace) :: []) W from h)))
  exact Lib.tabIs_of_head (g := 2) (t := 316) (e := 251) (n := 20) (by kernel_rfl) (by kernel_rfl) Tryz.underlying316 Tryz.underlying251 (by kernel_rfl) (by kernel_rfl) (show laidMet Tryz.prog (("internal/strconv.uint64pow10", Lib.tabData .u64 Lib.pow10Tab) :: ("unicode.White_Space", Rows.laid_unicode_White_Space) :: ("strings.asciiSpace", Rows.laid_strings_asciiSpace) :: []) W from h2)
theorem gl {W : World} (h : laidMetH Tryz.prog lL W) : Go.Proofs.Sy.Kn W := ⟨glob0 h, glob1 h⟩
set_option maxRecDepth 100000 in
theorem lifted (os : Os) (started : os.Started) (H : Type) (enc : TypeId × Value → H) :
    ReturnsInHanded {} Tryz.checked os 4 .any (fun w args => (Rows.stepScopesSpec.pre enc Tryz.prog Tryz.f4 Rows.stepScopesRow.domain false w args ∧ laidMetH Tryz.prog lL w) ∧ sizedMet enc Tryz.prog Tryz.f4 (OpenSpec.ofChange Rows.stepScopesSpec) false w args)
      (Rows.stepScopesSpec.post enc Tryz.prog Tryz.f4 false true false false) := by
  refine returnsInHanded_of_change_and (C := Tryz.checked) (X := fun w _ => laidMetH Tryz.prog lL w) (fun _ _ _ hh h => h.of_heap hh) own started (by kernel_rfl) Tryz.func4
    (ChangeSpec.witness_shaped (enc := enc) (C := Tryz.checked) (os := os) (X := fun w _ => laidMetH Tryz.prog lL w) false (World.doorLaid Tryz.prog 60 os) #[.int .u8 0] 8 rfl (World.shaped_of_RefB (by kernel_rfl) (by kernel_rfl)) (by kernel_rfl) (by kernel_rfl) (by kernel_rfl) (dm os _)) ?_
  intro W base args ds gs before hval0 hW _ hsz0 hL _
  have hG := gl hL
  have hval : ∀ (j : Nat) t v, Tryz.f4.params[j]? = some t → args[j]? = some v → Value.okWide Tryz.prog W .any base t v := hval0
  have hW' := hW
  obtain ⟨p, q, hA0, hV, rfl, hfz, hnd⟩ := hW
  have hA : DataW.TrodAll enc Tryz.prog W 0 (fun _ => true) true Tryz.f4.params.toList args.toList ds p := hA0
  rw [Tryz.params4] at hA hval
  obtain ⟨v0, vs0, d0, ds0, p0, q0, hargs, rfl, rfl, h0, r0⟩ := trodAll_cons hA
  obtain ⟨rfl, rfl, rfl⟩ := trodAll_nil r0
  obtain rfl : args = #[v0] := by cases args; simp_all
  obtain ⟨rfl, rfl⟩ := trodVars_none hV
  obtain ⟨a0, rfl, rfl, rfl, w0⟩ := open_int Tryz.underlying5 (hval 0 5 v0 rfl rfl) h0
  refine (walk a0 W w0 hG).mono fun e W' ⟨he, bel⟩ => ?_
  subst he
  exact ⟨_, rfl, _, _, _, [], _, [], hW', trodAll_mk1 (shut_bool Tryz.underlying4 _), (trodAll_cons_mk (shut_int Tryz.underlying5 w0) trodAll_mk0), rfl, bel.frame _, fun h => by cases h⟩
theorem j2 : laidOutB Tryz.prog = true := by kernel_rfl
theorem j3 : mapsRowed Tryz.prog = true := by kernel_rfl
theorem j7 : (Tryz.prog.stops == []) = true := by kernel_rfl
theorem j9 : (Tryz.prog.stopKnobs == []) = true := by kernel_rfl
theorem j10 : (Rows.stepScopesRow.inPlace == Tryz.prog.inPlace 4) = true := by kernel_rfl
theorem j11 : (Rows.stepScopesRow.unfollowed == Tryz.prog.unfollowed 4) = true := by kernel_rfl
theorem j12 : (Rows.stepScopesRow.recurses == Tryz.prog.recurses 4) = true := by kernel_rfl
theorem j13 : (Rows.stepScopesRow.named == Tryz.prog.varsNamed 4) = true := by kernel_rfl
theorem j23 : (Rows.stepScopesRow.plainKeys == Tryz.prog.plainKeys) = true := by kernel_rfl
theorem j25 : Tryz.prog.stopsHeard = true := by kernel_rfl
theorem j26 : Tryz.prog.mayEnter = true := by kernel_rfl
theorem j27 : (Rows.stepScopesRow.lifted == Tryz.prog.liftsFinal) = true := by kernel_rfl
theorem j28 : (Tryz.prog.make == some Rows.stepScopesRow.make) = true := by kernel_rfl
theorem jand {a b : Bool} (ha : a = true) (hb : b = true) : (a && b) = true := by rw [ha, hb]; rfl
theorem closed : joinedFacts Tryz.prog 4 Tryz.f4 Rows.stepScopesSpec Rows.stepScopesRow = true := by
  unfold joinedFacts
  refine jand (jand (jand (jand (jand (jand (jand (jand (jand (jand (jand (jand (jand (jand (jand (jand (jand (jand (jand (jand (jand (jand (jand (jand (jand (jand (jand (jand (jand (jand (jand (?_) j2) j3) ?_) ?_) ?_) j7) ?_) j9) j10) j11) j12) j13) ?_) ?_) ?_) ?_) ?_) ?_) ?_) ?_) ?_) j23) ?_) j25) j26) j27) j28) ?_) ?_) ?_) ?_
  all_goals kernel_rfl
theorem over : Rows.stepScopesRow.holds Tryz.pinned (OpenSpec.ofChange Rows.stepScopesSpec) :=
  OpenClaim.holds_of_wide 4 Tryz.f4 rfl rfl rfl rfl rfl rfl rfl ⟨rfl, rfl, rfl, rfl, rfl⟩ rfl rfl rfl rfl rfl (by kernel_rfl) Tryz.func4 closed
    (of_decide_eq_true (by kernel_rfl)) (by unfold Func.isWrapper; first | (rw [if_pos (by decide +kernel)]; kernel_rfl) | (rw [if_neg (by decide +kernel)]; exact ⟨rfl, rfl⟩))
    (fun os started H enc _ => lifted os started H enc)
theorem card_w : Rows.stepScopesRow.wfByText (OpenSpec.ofChange Rows.stepScopesSpec) = true := by kernel_rfl
theorem card_m : Tryz.prog.mainIs = some ((true, "5a3d00ba45e52054d04116efd7a3346baf621e17c49d919a0a4adbdc7180512d").1, (true, "5a3d00ba45e52054d04116efd7a3346baf621e17c49d919a0a4adbdc7180512d").2.toList) := by kernel_rfl
theorem card_l : true = Tryz.prog.looks [] := by kernel_rfl
theorem card_s : ([5].all fun u => !Tryz.prog.wantsStandIn u) = true := by kernel_rfl
theorem card_g : false = Rows.stepScopesRow.goesBy Tryz.prog := by kernel_rfl
theorem card_n : Tryz.prog.funcNamed "boomerang/boomeranglaw19.StepScopes" = some 4 := by kernel_rfl
theorem card : Rows.StepScopesCardSaid :=
  Claim7.holds_tied_plain_at .later [] [.data, .data, .data, .listed, .data] true (true, "5a3d00ba45e52054d04116efd7a3346baf621e17c49d919a0a4adbdc7180512d") true
    over (fun _ h => by cases h) card_w (fun _ h => by cases h) stepScopes_row_tie rfl ⟨rfl, rfl⟩ card_m rfl
    (fun f fn hf hfn => by
      obtain rfl : f = 4 := Option.some.inj (card_n.symm.trans hf) |>.symm
      obtain rfl : fn = Tryz.f4 := (Option.some.inj (Tryz.func4.symm.trans hfn)).symm
      exact ⟨card_l, fun j t ht => by
        rw [Tryz.params4] at ht
        have hm : t ∈ [5] := by simpa using Array.mem_of_getElem? ht
        exact (show Tryz.prog.wantsStandIn t = false by simpa using List.all_eq_true.1 card_s t hm)⟩)
    card_g
theorem proved : Rows.StepScopesCardSaid := card
end Go.Proofs.YtkmbpflckmbacaaGreatDoor.stepScopes
namespace Go.Proofs.YtkmbpflckmbacaaGreatDoor
theorem stepScopes_holds : Rows.StepScopesCardSaid := stepScopes.proved
end Go.Proofs.YtkmbpflckmbacaaGreatDoor
