/- The statement of ParseLevels is proved: the law returns true for all arguments, by the evaluator's cases. Conditions: none but the statement's own. -/
import Derived.Test.YtgccmndndgbmkaaDoorRows
import Derived.Test.YtgccmndndgbmkaaDoorEvParseLevelsx0
import Derived.Test.YtgccmndndgbmkaaDoorEvParseLevelsx1
import Derived.Test.YtgccmndndgbmkaaDoorEvParseLevelsx2
import Derived.Test.YtgccmndndgbmkaaDoorEvParseLevelsx3
import Derived.Test.YtgccmndndgbmkaaDoorEvParseLevelsx4
import Derived.Test.YtgccmndndgbmkaaDoorEvParseLevelsx5
import Derived.Test.YtgccmndndgbmkaaDoorEvParseLevelsx6
import Derived.Test.YtgccmndndgbmkaaDoorEvParseLevelsx7
import Derived.Test.YtgccmndndgbmkaaDoorCards
import Derived.Test.YtgccmndndgbmkaaDoorTie
import Derived.WalkKit
import Derived.ProofKit
import Derived.OpenShut
import Derived.ShutString
import Derived.ChangeOld
import Derived.Below
import Derived.SizedLaws
import Derived.Lib.SmallJoins
import Derived.LaidMore
import Derived.Stop.LaidErr
import Derived.Lib.LaidTab
import Derived.Stop.Joined
import Derived.SevenTiedAt
namespace Go.Proofs.YtgccmndndgbmkaaDoor.parseLevels
open Go.ChangeShapes Go.WideShapes Go.ChangeAt Go.RowKit
set_option linter.unusedVariables false
theorem own : ownKnob Tryd.prog.godebug = none := by kernel_rfl
theorem mixed : Tryd.prog.follows .mixedOrders = true := by kernel_rfl
theorem cases : ∀ (r0 : Nat), r0 < 16 → Go.Ev.saysTrue (Go.Ev.ev Go.Proofs.Px.lib (Go.Ev.compF Tryd.prog) 200 60 6 [.res .u8 16 r0] Go.Ev.H.empty) = true
  | 0, _ => c_0
  | 1, _ => c_1
  | 2, _ => c_2
  | 3, _ => c_3
  | 4, _ => c_4
  | 5, _ => c_5
  | 6, _ => c_6
  | 7, _ => c_7
  | 8, _ => c_8
  | 9, _ => c_9
  | 10, _ => c_10
  | 11, _ => c_11
  | 12, _ => c_12
  | 13, _ => c_13
  | 14, _ => c_14
  | 15, _ => c_15
  | (_ + 16), h => absurd h (by omega)
theorem walk (a0 : Int) (W : World) (w0 : (Lit.int .u8 a0).wf = true) (hG : Go.Proofs.Px.Kn W) : Calls Tryd.prog 6 #[.int .u8 a0] W (fun e W' => e = .returned (.bool true) ∧ Below W.heap.size W W') := by
  obtain ⟨r0, h0, e0⟩ := Go.Ev.res_of w0 (m := 16) (by decide)
  exact Go.Ev.calls_true mixed Go.Proofs.Px.lib_ok (fun _ _ h => h) (cases r0 h0) (args := #[.int .u8 a0]) (Go.Ev.VRs.cons e0 Go.Ev.VRs.nil) W (Go.Proofs.Px.met W hG)
/-- What is listed. -/
def laidL : List (String × DataW Unit) := [("unicode.White_Space", Rows.laid_unicode_White_Space), ("strings.asciiSpace", Rows.laid_strings_asciiSpace)]
theorem door_met (os : Os) (args : Array Value) : laidMetH Tryd.prog laidL ((World.doorLaid Tryd.prog 24 os).forCall (fun _ _ => 0) ⟨#[], args, []⟩).memory :=
  laidMetH_of_parts3 (fuel := 8) (laidMet_of_run' 8 (by kernel_rfl) (by kernel_rfl)) (by kernel_rfl) (by kernel_rfl)
set_option maxRecDepth 100000 in
theorem glob_of_laid {W : World} (h : laidMetH Tryd.prog laidL W) : Go.Proofs.Px.Sps W := by
  rw [MakeChecks.laidMetH_plain _ _ _ (by kernel_rfl)] at h
  have h2 := (laidMet.tail (show laidMet Tryd.prog (("unicode.White_Space", Rows.laid_unicode_White_Space) :: ("strings.asciiSpace", Rows.laid_strings_asciiSpace) :: []) W from h))
  exact Lib.tabIs_of_head (g := 0) (t := 82) (e := 5) (n := 256) (by kernel_rfl) (by kernel_rfl) Tryd.underlying82 Tryd.underlying5 (by kernel_rfl) (by kernel_rfl) (show laidMet Tryd.prog (("strings.asciiSpace", Lib.tabData .u8 Lib.asciiSpaceTab) :: []) W from h2)
set_option maxRecDepth 100000 in
theorem lifted (os : Os) (started : os.Started) (H : Type) (enc : TypeId × Value → H) :
    ReturnsInHanded {} Tryd.checked os 6 .any (fun w args => (Rows.parseLevelsSpec.pre enc Tryd.prog Tryd.f6 Rows.parseLevelsRow.domain false w args ∧ laidMetH Tryd.prog laidL w) ∧ sizedMet enc Tryd.prog Tryd.f6 (OpenSpec.ofChange Rows.parseLevelsSpec) false w args)
      (Rows.parseLevelsSpec.post enc Tryd.prog Tryd.f6 false true false false) := by
  refine returnsInHanded_of_calls (C := Tryd.checked) own started (by kernel_rfl)
    (ChangeSpec.witness_shaped (enc := enc) (C := Tryd.checked) (os := os) (X := fun w _ => laidMetH Tryd.prog laidL w) false (World.doorLaid Tryd.prog 24 os) #[.int .u8 0] 8 rfl (World.shaped_of_RefB (by kernel_rfl) (by kernel_rfl)) (by kernel_rfl) (by kernel_rfl) (by kernel_rfl) (door_met os _)) ?_
  intro w tape i _ hsh _ hok hpre _
  obtain ⟨_, _, _, fn, hfn, _, _, _, _, hval0⟩ := hok
  obtain rfl : fn = Tryd.f6 := Option.some.inj (hfn.symm.trans Tryd.func6)
  obtain ⟨⟨⟨ds, gs, before, hW0, _⟩, hL0⟩, hsz0⟩ := hpre
  have hW := DataW.Whole.of_heap (w' := w.forCall tape i) (by rfl) hW0
  have hL : laidMetH Tryd.prog laidL (w.forCall tape i) := hL0.of_heap (by rfl)
  have hG := And.intro (glob_of_laid hL) (Tryd.laysM144.s1_3 _ hsh)
  generalize hbase : w.heap.size = base at hval0
  generalize hWd : w.forCall tape i = W at hval0 hW hL hG ⊢
  obtain ⟨args, hargs0⟩ : ∃ args, args = i.args := ⟨_, rfl⟩
  rw [← hargs0] at hval0 hW ⊢
  have hval : ∀ (j : Nat) t v, Tryd.f6.params[j]? = some t → args[j]? = some v → Value.okWide Tryd.prog W .any base t v := hval0
  have hW' := hW
  obtain ⟨p, q, hA0, hV, rfl, hfz, hnd⟩ := hW
  have hA : DataW.TrodAll enc Tryd.prog W 0 (fun _ => true) true Tryd.f6.params.toList args.toList ds p := hA0
  rw [Tryd.params6] at hA hval
  obtain ⟨v0, vs0, d0, ds0, p0, q0, hargs, rfl, rfl, h0, r0⟩ := trodAll_cons hA
  obtain ⟨rfl, rfl, rfl⟩ := trodAll_nil r0
  obtain rfl : args = #[v0] := by cases args; simp_all
  obtain ⟨rfl, rfl⟩ := trodVars_none hV
  obtain ⟨a0, rfl, rfl, rfl, w0⟩ := open_int Tryd.underlying5 (hval 0 5 v0 rfl rfl) h0
  refine (walk a0 W w0 hG).mono fun e W' ⟨he, bel⟩ => ?_
  subst he
  exact ChangeSpec.post_blind ⟨_, _, _, [], _, [], hW', trodAll_mk1 (shut_bool Tryd.underlying4 _), (trodAll_cons_mk (shut_int Tryd.underlying5 w0) trodAll_mk0), rfl, bel.frame _, fun h => by cases h⟩
theorem over : Rows.parseLevelsRow.holds Tryd.pinned (OpenSpec.ofChange Rows.parseLevelsSpec) :=
  OpenClaim.holds_of_wide 6 Tryd.f6 rfl rfl rfl rfl rfl rfl rfl ⟨rfl, rfl, rfl, rfl, rfl⟩ rfl rfl rfl rfl rfl (by kernel_rfl) Tryd.func6 (by kernel_rfl)
    (of_decide_eq_true (by kernel_rfl)) (by unfold Func.isWrapper; first | (rw [if_pos (by decide +kernel)]; kernel_rfl) | (rw [if_neg (by decide +kernel)]; exact ⟨rfl, rfl⟩))
    (fun os started H enc _ => lifted os started H enc)
theorem card : Rows.ParseLevelsCardSaid :=
  Claim7.holds_tied_plain_at .later [] [.listed, .data] true (true, "f58e7a04e2ae2e251fe8fdff26d1dd3096ee24359e01ea8719d29f813e96da5b") true
    over (fun _ h => by cases h) (by kernel_rfl) (fun _ h => by cases h) parseLevels_row_tie rfl ⟨rfl, rfl⟩ (by kernel_rfl) rfl
    (fun f fn hf hfn => by
      obtain rfl : f = 6 := Option.some.inj ((show Tryd.prog.funcNamed "boomerang/boomeranglaw8.ParseLevels" = some 6 by kernel_rfl).symm.trans hf) |>.symm
      obtain rfl : fn = Tryd.f6 := (Option.some.inj (Tryd.func6.symm.trans hfn)).symm
      exact ⟨by kernel_rfl, fun j t ht => by
        rw [Tryd.params6] at ht
        have hm : t ∈ [5] := by simpa using Array.mem_of_getElem? ht
        have hall : ([5].all fun u => !Tryd.prog.wantsStandIn u) = true := by kernel_rfl
        exact (show Tryd.prog.wantsStandIn t = false by simpa using List.all_eq_true.1 hall t hm)⟩)
    (by kernel_rfl)
theorem proved : Rows.ParseLevelsCardSaid := card
end Go.Proofs.YtgccmndndgbmkaaDoor.parseLevels
namespace Go.Proofs.YtgccmndndgbmkaaDoor
/-- The statement, under a short name, for the claim. -/
theorem parseLevels_holds : Rows.ParseLevelsCardSaid := parseLevels.proved
end Go.Proofs.YtgccmndndgbmkaaDoor
