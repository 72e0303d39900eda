/- The statement of ParseDeep is proved: the law returns true for all arguments, by the evaluator's cases. Conditions: none but the statement's own. -/
import Derived.Test.YtgccmndndgbmkaaDoorRows
import Derived.Test.YtgccmndndgbmkaaDoorEvParseDeepx0
import Derived.Test.YtgccmndndgbmkaaDoorEvParseDeepx1
import Derived.Test.YtgccmndndgbmkaaDoorEvParseDeepx2
import Derived.Test.YtgccmndndgbmkaaDoorEvParseDeepx3
import Derived.Test.YtgccmndndgbmkaaDoorEvParseDeepx4
import Derived.Test.YtgccmndndgbmkaaDoorEvParseDeepx5
import Derived.Test.YtgccmndndgbmkaaDoorEvParseDeepx6
import Derived.Test.YtgccmndndgbmkaaDoorEvParseDeepx7
import Derived.Test.YtgccmndndgbmkaaDoorEvParseDeepx8
import Derived.Test.YtgccmndndgbmkaaDoorEvParseDeepx9
import Derived.Test.YtgccmndndgbmkaaDoorEvParseDeepx10
import Derived.Test.YtgccmndndgbmkaaDoorEvParseDeepx11
import Derived.Test.YtgccmndndgbmkaaDoorCards
import Derived.Test.YtgccmndndgbmkaaDoorTie
import Derived.WalkKit
import Derived.ProofKit
import Derived.OpenShut
import Derived.ShutString
import Derived.ChangeOld
import Derived.Below
import Derived.SizedLaws
import Derived.Lib.SmallJoins
import Derived.LaidMore
import Derived.Stop.LaidErr
import Derived.Lib.LaidTab
import Derived.Stop.Joined
import Derived.SevenTiedAt
namespace Go.Proofs.YtgccmndndgbmkaaDoor.parseDeep
open Go.ChangeShapes Go.WideShapes Go.ChangeAt Go.RowKit
set_option linter.unusedVariables false
theorem own : ownKnob Tryd.prog.godebug = none := by kernel_rfl
theorem mixed : Tryd.prog.follows .mixedOrders = true := by kernel_rfl
theorem cases : ∀ (r0 : Nat) (r1 : Nat), r0 < 60 → r1 < 4 → Go.Ev.saysTrue (Go.Ev.ev Go.Proofs.Px.libN (Go.Ev.compF Tryd.prog) 200 400 3 [.res .u8 60 r0, .res .u8 4 r1] Go.Ev.H.empty) = true
  | 0, 0, _, _ => c_0_0
  | 0, 1, _, _ => c_0_1
  | 0, 2, _, _ => c_0_2
  | 0, 3, _, _ => c_0_3
  | 1, 0, _, _ => c_1_0
  | 1, 1, _, _ => c_1_1
  | 1, 2, _, _ => c_1_2
  | 1, 3, _, _ => c_1_3
  | 2, 0, _, _ => c_2_0
  | 2, 1, _, _ => c_2_1
  | 2, 2, _, _ => c_2_2
  | 2, 3, _, _ => c_2_3
  | 3, 0, _, _ => c_3_0
  | 3, 1, _, _ => c_3_1
  | 3, 2, _, _ => c_3_2
  | 3, 3, _, _ => c_3_3
  | 4, 0, _, _ => c_4_0
  | 4, 1, _, _ => c_4_1
  | 4, 2, _, _ => c_4_2
  | 4, 3, _, _ => c_4_3
  | 5, 0, _, _ => c_5_0
  | 5, 1, _, _ => c_5_1
  | 5, 2, _, _ => c_5_2
  | 5, 3, _, _ => c_5_3
  | 6, 0, _, _ => c_6_0
  | 6, 1, _, _ => c_6_1
  | 6, 2, _, _ => c_6_2
  | 6, 3, _, _ => c_6_3
  | 7, 0, _, _ => c_7_0
  | 7, 1, _, _ => c_7_1
  | 7, 2, _, _ => c_7_2
  | 7, 3, _, _ => c_7_3
  | 8, 0, _, _ => c_8_0
  | 8, 1, _, _ => c_8_1
  | 8, 2, _, _ => c_8_2
  | 8, 3, _, _ => c_8_3
  | 9, 0, _, _ => c_9_0
  | 9, 1, _, _ => c_9_1
  | 9, 2, _, _ => c_9_2
  | 9, 3, _, _ => c_9_3
  | 10, 0, _, _ => c_10_0
  | 10, 1, _, _ => c_10_1
  | 10, 2, _, _ => c_10_2
  | 10, 3, _, _ => c_10_3
  | 11, 0, _, _ => c_11_0
  | 11, 1, _, _ => c_11_1
  | 11, 2, _, _ => c_11_2
  | 11, 3, _, _ => c_11_3
  | 12, 0, _, _ => c_12_0
  | 12, 1, _, _ => c_12_1
  | 12, 2, _, _ => c_12_2
  | 12, 3, _, _ => c_12_3
  | 13, 0, _, _ => c_13_0
  | 13, 1, _, _ => c_13_1
  | 13, 2, _, _ => c_13_2
  | 13, 3, _, _ => c_13_3
  | 14, 0, _, _ => c_14_0
  | 14, 1, _, _ => c_14_1
  | 14, 2, _, _ => c_14_2
  | 14, 3, _, _ => c_14_3
  | 15, 0, _, _ => c_15_0
  | 15, 1, _, _ => c_15_1
  | 15, 2, _, _ => c_15_2
  | 15, 3, _, _ => c_15_3
  | 16, 0, _, _ => c_16_0
  | 16, 1, _, _ => c_16_1
  | 16, 2, _, _ => c_16_2
  | 16, 3, _, _ => c_16_3
  | 17, 0, _, _ => c_17_0
  | 17, 1, _, _ => c_17_1
  | 17, 2, _, _ => c_17_2
  | 17, 3, _, _ => c_17_3
  | 18, 0, _, _ => c_18_0
  | 18, 1, _, _ => c_18_1
  | 18, 2, _, _ => c_18_2
  | 18, 3, _, _ => c_18_3
  | 19, 0, _, _ => c_19_0
  | 19, 1, _, _ => c_19_1
  | 19, 2, _, _ => c_19_2
  | 19, 3, _, _ => c_19_3
  | 20, 0, _, _ => c_20_0
  | 20, 1, _, _ => c_20_1
  | 20, 2, _, _ => c_20_2
  | 20, 3, _, _ => c_20_3
  | 21, 0, _, _ => c_21_0
  | 21, 1, _, _ => c_21_1
  | 21, 2, _, _ => c_21_2
  | 21, 3, _, _ => c_21_3
  | 22, 0, _, _ => c_22_0
  | 22, 1, _, _ => c_22_1
  | 22, 2, _, _ => c_22_2
  | 22, 3, _, _ => c_22_3
  | 23, 0, _, _ => c_23_0
  | 23, 1, _, _ => c_23_1
  | 23, 2, _, _ => c_23_2
  | 23, 3, _, _ => c_23_3
  | 24, 0, _, _ => c_24_0
  | 24, 1, _, _ => c_24_1
  | 24, 2, _, _ => c_24_2
  | 24, 3, _, _ => c_24_3
  | 25, 0, _, _ => c_25_0
  | 25, 1, _, _ => c_25_1
  | 25, 2, _, _ => c_25_2
  | 25, 3, _, _ => c_25_3
  | 26, 0, _, _ => c_26_0
  | 26, 1, _, _ => c_26_1
  | 26, 2, _, _ => c_26_2
  | 26, 3, _, _ => c_26_3
  | 27, 0, _, _ => c_27_0
  | 27, 1, _, _ => c_27_1
  | 27, 2, _, _ => c_27_2
  | 27, 3, _, _ => c_27_3
  | 28, 0, _, _ => c_28_0
  | 28, 1, _, _ => c_28_1
  | 28, 2, _, _ => c_28_2
  | 28, 3, _, _ => c_28_3
  | 29, 0, _, _ => c_29_0
  | 29, 1, _, _ => c_29_1
  | 29, 2, _, _ => c_29_2
  | 29, 3, _, _ => c_29_3
  | 30, 0, _, _ => c_30_0
  | 30, 1, _, _ => c_30_1
  | 30, 2, _, _ => c_30_2
  | 30, 3, _, _ => c_30_3
  | 31, 0, _, _ => c_31_0
  | 31, 1, _, _ => c_31_1
  | 31, 2, _, _ => c_31_2
  | 31, 3, _, _ => c_31_3
  | 32, 0, _, _ => c_32_0
  | 32, 1, _, _ => c_32_1
  | 32, 2, _, _ => c_32_2
  | 32, 3, _, _ => c_32_3
  | 33, 0, _, _ => c_33_0
  | 33, 1, _, _ => c_33_1
  | 33, 2, _, _ => c_33_2
  | 33, 3, _, _ => c_33_3
  | 34, 0, _, _ => c_34_0
  | 34, 1, _, _ => c_34_1
  | 34, 2, _, _ => c_34_2
  | 34, 3, _, _ => c_34_3
  | 35, 0, _, _ => c_35_0
  | 35, 1, _, _ => c_35_1
  | 35, 2, _, _ => c_35_2
  | 35, 3, _, _ => c_35_3
  | 36, 0, _, _ => c_36_0
  | 36, 1, _, _ => c_36_1
  | 36, 2, _, _ => c_36_2
  | 36, 3, _, _ => c_36_3
  | 37, 0, _, _ => c_37_0
  | 37, 1, _, _ => c_37_1
  | 37, 2, _, _ => c_37_2
  | 37, 3, _, _ => c_37_3
  | 38, 0, _, _ => c_38_0
  | 38, 1, _, _ => c_38_1
  | 38, 2, _, _ => c_38_2
  | 38, 3, _, _ => c_38_3
  | 39, 0, _, _ => c_39_0
  | 39, 1, _, _ => c_39_1
  | 39, 2, _, _ => c_39_2
  | 39, 3, _, _ => c_39_3
  | 40, 0, _, _ => c_40_0
  | 40, 1, _, _ => c_40_1
  | 40, 2, _, _ => c_40_2
  | 40, 3, _, _ => c_40_3
  | 41, 0, _, _ => c_41_0
  | 41, 1, _, _ => c_41_1
  | 41, 2, _, _ => c_41_2
  | 41, 3, _, _ => c_41_3
  | 42, 0, _, _ => c_42_0
  | 42, 1, _, _ => c_42_1
  | 42, 2, _, _ => c_42_2
  | 42, 3, _, _ => c_42_3
  | 43, 0, _, _ => c_43_0
  | 43, 1, _, _ => c_43_1
  | 43, 2, _, _ => c_43_2
  | 43, 3, _, _ => c_43_3
  | 44, 0, _, _ => c_44_0
  | 44, 1, _, _ => c_44_1
  | 44, 2, _, _ => c_44_2
  | 44, 3, _, _ => c_44_3
  | 45, 0, _, _ => c_45_0
  | 45, 1, _, _ => c_45_1
  | 45, 2, _, _ => c_45_2
  | 45, 3, _, _ => c_45_3
  | 46, 0, _, _ => c_46_0
  | 46, 1, _, _ => c_46_1
  | 46, 2, _, _ => c_46_2
  | 46, 3, _, _ => c_46_3
  | 47, 0, _, _ => c_47_0
  | 47, 1, _, _ => c_47_1
  | 47, 2, _, _ => c_47_2
  | 47, 3, _, _ => c_47_3
  | 48, 0, _, _ => c_48_0
  | 48, 1, _, _ => c_48_1
  | 48, 2, _, _ => c_48_2
  | 48, 3, _, _ => c_48_3
  | 49, 0, _, _ => c_49_0
  | 49, 1, _, _ => c_49_1
  | 49, 2, _, _ => c_49_2
  | 49, 3, _, _ => c_49_3
  | 50, 0, _, _ => c_50_0
  | 50, 1, _, _ => c_50_1
  | 50, 2, _, _ => c_50_2
  | 50, 3, _, _ => c_50_3
  | 51, 0, _, _ => c_51_0
  | 51, 1, _, _ => c_51_1
  | 51, 2, _, _ => c_51_2
  | 51, 3, _, _ => c_51_3
  | 52, 0, _, _ => c_52_0
  | 52, 1, _, _ => c_52_1
  | 52, 2, _, _ => c_52_2
  | 52, 3, _, _ => c_52_3
  | 53, 0, _, _ => c_53_0
  | 53, 1, _, _ => c_53_1
  | 53, 2, _, _ => c_53_2
  | 53, 3, _, _ => c_53_3
  | 54, 0, _, _ => c_54_0
  | 54, 1, _, _ => c_54_1
  | 54, 2, _, _ => c_54_2
  | 54, 3, _, _ => c_54_3
  | 55, 0, _, _ => c_55_0
  | 55, 1, _, _ => c_55_1
  | 55, 2, _, _ => c_55_2
  | 55, 3, _, _ => c_55_3
  | 56, 0, _, _ => c_56_0
  | 56, 1, _, _ => c_56_1
  | 56, 2, _, _ => c_56_2
  | 56, 3, _, _ => c_56_3
  | 57, 0, _, _ => c_57_0
  | 57, 1, _, _ => c_57_1
  | 57, 2, _, _ => c_57_2
  | 57, 3, _, _ => c_57_3
  | 58, 0, _, _ => c_58_0
  | 58, 1, _, _ => c_58_1
  | 58, 2, _, _ => c_58_2
  | 58, 3, _, _ => c_58_3
  | 59, 0, _, _ => c_59_0
  | 59, 1, _, _ => c_59_1
  | 59, 2, _, _ => c_59_2
  | 59, 3, _, _ => c_59_3
  | (_ + 60), _, h, _ => absurd h (by omega)
  | _, (_ + 4), _, h => absurd h (by omega)
theorem walk (a0 : Int) (a1 : Int) (W : World) (w0 : (Lit.int .u8 a0).wf = true) (w1 : (Lit.int .u8 a1).wf = true) (hG : Go.Proofs.Px.Kn W) : Calls Tryd.prog 3 #[.int .u8 a0, .int .u8 a1] W (fun e W' => e = .returned (.bool true) ∧ Below W.heap.size W W') := by
  obtain ⟨r0, h0, e0⟩ := Go.Ev.res_of w0 (m := 60) (by decide)
  obtain ⟨r1, h1, e1⟩ := Go.Ev.res_of w1 (m := 4) (by decide)
  exact Go.Ev.calls_true mixed Go.Proofs.Px.libN_ok (fun _ _ h => h) (cases r0 r1 h0 h1) (args := #[.int .u8 a0, .int .u8 a1]) (Go.Ev.VRs.cons e0 (Go.Ev.VRs.cons e1 Go.Ev.VRs.nil)) W (Go.Proofs.Px.met W hG)
/-- What is listed. -/
def laidL : List (String × DataW Unit) := [("unicode.White_Space", Rows.laid_unicode_White_Space), ("strings.asciiSpace", Rows.laid_strings_asciiSpace)]
theorem door_met (os : Os) (args : Array Value) : laidMetH Tryd.prog laidL ((World.doorLaid Tryd.prog 24 os).forCall (fun _ _ => 0) ⟨#[], args, []⟩).memory :=
  laidMetH_of_parts3 (fuel := 8) (laidMet_of_run' 8 (by kernel_rfl) (by kernel_rfl)) (by kernel_rfl) (by kernel_rfl)
set_option maxRecDepth 100000 in
theorem glob_of_laid {W : World} (h : laidMetH Tryd.prog laidL W) : Go.Proofs.Px.Sps W := by
  rw [MakeChecks.laidMetH_plain _ _ _ (by kernel_rfl)] at h
  have h2 := (laidMet.tail (show laidMet Tryd.prog (("unicode.White_Space", Rows.laid_unicode_White_Space) :: ("strings.asciiSpace", Rows.laid_strings_asciiSpace) :: []) W from h))
  exact Lib.tabIs_of_head (g := 0) (t := 82) (e := 5) (n := 256) (by kernel_rfl) (by kernel_rfl) Tryd.underlying82 Tryd.underlying5 (by kernel_rfl) (by kernel_rfl) (show laidMet Tryd.prog (("strings.asciiSpace", Lib.tabData .u8 Lib.asciiSpaceTab) :: []) W from h2)
set_option maxRecDepth 100000 in
theorem lifted (os : Os) (started : os.Started) (H : Type) (enc : TypeId × Value → H) :
    ReturnsInHanded {} Tryd.checked os 3 .any (fun w args => (Rows.parseDeepSpec.pre enc Tryd.prog Tryd.f3 Rows.parseDeepRow.domain false w args ∧ laidMetH Tryd.prog laidL w) ∧ sizedMet enc Tryd.prog Tryd.f3 (OpenSpec.ofChange Rows.parseDeepSpec) false w args)
      (Rows.parseDeepSpec.post enc Tryd.prog Tryd.f3 false true false false) := by
  refine returnsInHanded_of_calls (C := Tryd.checked) own started (by kernel_rfl)
    (ChangeSpec.witness_shaped (enc := enc) (C := Tryd.checked) (os := os) (X := fun w _ => laidMetH Tryd.prog laidL w) false (World.doorLaid Tryd.prog 24 os) #[.int .u8 0, .int .u8 0] 8 rfl (World.shaped_of_RefB (by kernel_rfl) (by kernel_rfl)) (by kernel_rfl) (by kernel_rfl) (by kernel_rfl) (door_met os _)) ?_
  intro w tape i _ hsh _ hok hpre _
  obtain ⟨_, _, _, fn, hfn, _, _, _, _, hval0⟩ := hok
  obtain rfl : fn = Tryd.f3 := Option.some.inj (hfn.symm.trans Tryd.func3)
  obtain ⟨⟨⟨ds, gs, before, hW0, _⟩, hL0⟩, hsz0⟩ := hpre
  have hW := DataW.Whole.of_heap (w' := w.forCall tape i) (by rfl) hW0
  have hL : laidMetH Tryd.prog laidL (w.forCall tape i) := hL0.of_heap (by rfl)
  have hG := And.intro (glob_of_laid hL) (Tryd.laysM144.s1_3 _ hsh)
  generalize hbase : w.heap.size = base at hval0
  generalize hWd : w.forCall tape i = W at hval0 hW hL hG ⊢
  obtain ⟨args, hargs0⟩ : ∃ args, args = i.args := ⟨_, rfl⟩
  rw [← hargs0] at hval0 hW ⊢
  have hval : ∀ (j : Nat) t v, Tryd.f3.params[j]? = some t → args[j]? = some v → Value.okWide Tryd.prog W .any base t v := hval0
  have hW' := hW
  obtain ⟨p, q, hA0, hV, rfl, hfz, hnd⟩ := hW
  have hA : DataW.TrodAll enc Tryd.prog W 0 (fun _ => true) true Tryd.f3.params.toList args.toList ds p := hA0
  rw [Tryd.params3] at hA hval
  obtain ⟨v0, vs0, d0, ds0, p0, q0, hargs, rfl, rfl, h0, r0⟩ := trodAll_cons hA
  obtain ⟨v1, vs1, d1, ds1, p1, q1, rfl, rfl, rfl, h1, r1⟩ := trodAll_cons r0
  obtain ⟨rfl, rfl, rfl⟩ := trodAll_nil r1
  obtain rfl : args = #[v0, v1] := by cases args; simp_all
  obtain ⟨rfl, rfl⟩ := trodVars_none hV
  obtain ⟨a0, rfl, rfl, rfl, w0⟩ := open_int Tryd.underlying5 (hval 0 5 v0 rfl rfl) h0
  obtain ⟨a1, rfl, rfl, rfl, w1⟩ := open_int Tryd.underlying5 (hval 1 5 v1 rfl rfl) h1
  refine (walk a0 a1 W w0 w1 hG).mono fun e W' ⟨he, bel⟩ => ?_
  subst he
  exact ChangeSpec.post_blind ⟨_, _, _, [], _, [], hW', trodAll_mk1 (shut_bool Tryd.underlying4 _), (trodAll_cons_mk (shut_int Tryd.underlying5 w0) (trodAll_cons_mk (shut_int Tryd.underlying5 w1) trodAll_mk0)), rfl, bel.frame _, fun h => by cases h⟩
theorem over : Rows.parseDeepRow.holds Tryd.pinned (OpenSpec.ofChange Rows.parseDeepSpec) :=
  OpenClaim.holds_of_wide 3 Tryd.f3 rfl rfl rfl rfl rfl rfl rfl ⟨rfl, rfl, rfl, rfl, rfl⟩ rfl rfl rfl rfl rfl (by kernel_rfl) Tryd.func3 (by kernel_rfl)
    (of_decide_eq_true (by kernel_rfl)) (by unfold Func.isWrapper; first | (rw [if_pos (by decide +kernel)]; kernel_rfl) | (rw [if_neg (by decide +kernel)]; exact ⟨rfl, rfl⟩))
    (fun os started H enc _ => lifted os started H enc)
theorem card : Rows.ParseDeepCardSaid :=
  Claim7.holds_tied_plain_at .later [] [.listed, .data] true (true, "f58e7a04e2ae2e251fe8fdff26d1dd3096ee24359e01ea8719d29f813e96da5b") true
    over (fun _ h => by cases h) (by kernel_rfl) (fun _ h => by cases h) parseDeep_row_tie rfl ⟨rfl, rfl⟩ (by kernel_rfl) rfl
    (fun f fn hf hfn => by
      obtain rfl : f = 3 := Option.some.inj ((show Tryd.prog.funcNamed "boomerang/boomeranglaw8.ParseDeep" = some 3 by kernel_rfl).symm.trans hf) |>.symm
      obtain rfl : fn = Tryd.f3 := (Option.some.inj (Tryd.func3.symm.trans hfn)).symm
      exact ⟨by kernel_rfl, fun j t ht => by
        rw [Tryd.params3] at ht
        have hm : t ∈ [5, 5] := by simpa using Array.mem_of_getElem? ht
        have hall : ([5, 5].all fun u => !Tryd.prog.wantsStandIn u) = true := by kernel_rfl
        exact (show Tryd.prog.wantsStandIn t = false by simpa using List.all_eq_true.1 hall t hm)⟩)
    (by kernel_rfl)
theorem proved : Rows.ParseDeepCardSaid := card
end Go.Proofs.YtgccmndndgbmkaaDoor.parseDeep
namespace Go.Proofs.YtgccmndndgbmkaaDoor
/-- The statement, under a short name, for the claim. -/
theorem parseDeep_holds : Rows.ParseDeepCardSaid := parseDeep.proved
end Go.Proofs.YtgccmndndgbmkaaDoor
