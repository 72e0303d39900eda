/- The statement of PropsFull is proved: the law returns true for all arguments, by the evaluator's cases. Conditions: none but the statement's own. -/
import Derived.Test.YtophpelggceknaaDoorRows
import Derived.Test.YtophpelggceknaaDoorEvPropsFullx0
import Derived.Test.YtophpelggceknaaDoorEvPropsFullx1
import Derived.Test.YtophpelggceknaaDoorCards
import Derived.Test.YtophpelggceknaaDoorTie
import Derived.WalkKit
import Derived.ProofKit
import Derived.OpenShut
import Derived.ShutString
import Derived.ChangeOld
import Derived.Below
import Derived.SizedLaws
import Derived.Lib.SmallJoins
import Derived.LaidMore
import Derived.Stop.LaidErr
import Derived.Lib.LaidTab
import Derived.Stop.Joined
import Derived.SevenTiedAt
namespace Go.Proofs.YtophpelggceknaaDoor.propsFull
open Go.ChangeShapes Go.WideShapes Go.ChangeAt Go.RowKit
set_option linter.unusedVariables false
theorem own : ownKnob Tryd.prog.godebug = none := by kernel_rfl
theorem mixed : Tryd.prog.follows .mixedOrders = true := by kernel_rfl
theorem cases : ∀ (r0 : Nat), r0 < 4 → Go.Ev.saysTrue (Go.Ev.ev Go.Proofs.Py.lib (Go.Ev.compF Tryd.prog) 5000 60 5 [.res .u8 4 r0] Go.Ev.H.empty) = true
  | 0, _ => c_0
  | 1, _ => c_1
  | 2, _ => c_2
  | 3, _ => c_3
  | (_ + 4), h => absurd h (by omega)
theorem walk (a0 : Int) (W : World) (w0 : (Lit.int .u8 a0).wf = true) (hG : Go.Proofs.Py.Pow W) : Calls Tryd.prog 5 #[.int .u8 a0] W (fun e W' => e = .returned (.bool true) ∧ Below W.heap.size W W') := by
  obtain ⟨r0, h0, e0⟩ := Go.Ev.res_of w0 (m := 4) (by decide)
  exact Go.Ev.calls_true mixed Go.Proofs.Py.lib_ok (fun _ _ h => h) (cases r0 h0) (args := #[.int .u8 a0]) (Go.Ev.VRs.cons e0 Go.Ev.VRs.nil) W (Go.Proofs.Py.met W hG)
/-- What is listed. -/
def laidL : List (String × DataW Unit) := [("math/bits.deBruijn32tab", Rows.laid_math_bits_deBruijn32tab), ("math/bits.deBruijn64tab", Rows.laid_math_bits_deBruijn64tab), ("internal/strconv.uint64pow10", Rows.laid_internal_strconv_uint64pow10)]
theorem door_met (os : Os) (args : Array Value) : laidMetH Tryd.prog laidL ((World.doorLaid Tryd.prog 60 os).forCall (fun _ _ => 0) ⟨#[], args, []⟩).memory :=
  laidMetH_of_parts3 (fuel := 8) (laidMet_of_run' 8 (by kernel_rfl) (by kernel_rfl)) (by kernel_rfl) (by kernel_rfl)
set_option maxRecDepth 100000 in
theorem glob0 {W : World} (h : laidMetH Tryd.prog laidL W) : Go.Proofs.Py.Pow W := by
  rw [MakeChecks.laidMetH_plain _ _ _ (by kernel_rfl)] at h
  have h2 := (laidMet.tail (laidMet.tail (show laidMet Tryd.prog (("math/bits.deBruijn32tab", Rows.laid_math_bits_deBruijn32tab) :: ("math/bits.deBruijn64tab", Rows.laid_math_bits_deBruijn64tab) :: ("internal/strconv.uint64pow10", Rows.laid_internal_strconv_uint64pow10) :: []) W from h)))
  exact Lib.tabIs_of_head (g := 0) (t := 115) (e := 108) (n := 20) (by kernel_rfl) (by kernel_rfl) Tryd.underlying115 Tryd.underlying108 (by kernel_rfl) (by kernel_rfl) (show laidMet Tryd.prog (("internal/strconv.uint64pow10", Lib.tabData .u64 Lib.pow10Tab) :: []) W from h2)
theorem glob_of_laid {W : World} (h : laidMetH Tryd.prog laidL W) : Go.Proofs.Py.Pow W := glob0 h
set_option maxRecDepth 100000 in
theorem lifted (os : Os) (started : os.Started) (H : Type) (enc : TypeId × Value → H) :
    ReturnsInHanded {} Tryd.checked os 5 .any (fun w args => (Rows.propsFullSpec.pre enc Tryd.prog Tryd.f5 Rows.propsFullRow.domain false w args ∧ laidMetH Tryd.prog laidL w) ∧ sizedMet enc Tryd.prog Tryd.f5 (OpenSpec.ofChange Rows.propsFullSpec) false w args)
      (Rows.propsFullSpec.post enc Tryd.prog Tryd.f5 false true false false) := by
  refine returnsInHanded_of_change_and (C := Tryd.checked) (X := fun w _ => laidMetH Tryd.prog laidL w) (fun _ _ _ hh h => h.of_heap hh) own started (by kernel_rfl) Tryd.func5
    (ChangeSpec.witness_shaped (enc := enc) (C := Tryd.checked) (os := os) (X := fun w _ => laidMetH Tryd.prog laidL w) false (World.doorLaid Tryd.prog 60 os) #[.int .u8 0] 8 rfl (World.shaped_of_RefB (by kernel_rfl) (by kernel_rfl)) (by kernel_rfl) (by kernel_rfl) (by kernel_rfl) (door_met os _)) ?_
  intro W base args ds gs before hval0 hW _ hsz0 hL _
  have hG := glob_of_laid hL
  have hval : ∀ (j : Nat) t v, Tryd.f5.params[j]? = some t → args[j]? = some v → Value.okWide Tryd.prog W .any base t v := hval0
  have hW' := hW
  obtain ⟨p, q, hA0, hV, rfl, hfz, hnd⟩ := hW
  have hA : DataW.TrodAll enc Tryd.prog W 0 (fun _ => true) true Tryd.f5.params.toList args.toList ds p := hA0
  rw [Tryd.params5] at hA hval
  obtain ⟨v0, vs0, d0, ds0, p0, q0, hargs, rfl, rfl, h0, r0⟩ := trodAll_cons hA
  obtain ⟨rfl, rfl, rfl⟩ := trodAll_nil r0
  obtain rfl : args = #[v0] := by cases args; simp_all
  obtain ⟨rfl, rfl⟩ := trodVars_none hV
  obtain ⟨a0, rfl, rfl, rfl, w0⟩ := open_int Tryd.underlying5 (hval 0 5 v0 rfl rfl) h0
  refine (walk a0 W w0 hG).mono fun e W' ⟨he, bel⟩ => ?_
  subst he
  exact ⟨_, rfl, _, _, _, [], _, [], hW', trodAll_mk1 (shut_bool Tryd.underlying4 _), (trodAll_cons_mk (shut_int Tryd.underlying5 w0) trodAll_mk0), rfl, bel.frame _, fun h => by cases h⟩
theorem j2 : laidOutB Tryd.prog = true := by kernel_rfl
theorem j3 : mapsRowed Tryd.prog = true := by kernel_rfl
theorem j7 : (Tryd.prog.stops == []) = true := by kernel_rfl
theorem j9 : (Tryd.prog.stopKnobs == []) = true := by kernel_rfl
theorem j10 : (Rows.propsFullRow.inPlace == Tryd.prog.inPlace 5) = true := by kernel_rfl
theorem j11 : (Rows.propsFullRow.unfollowed == Tryd.prog.unfollowed 5) = true := by kernel_rfl
theorem j12 : (Rows.propsFullRow.recurses == Tryd.prog.recurses 5) = true := by kernel_rfl
theorem j13 : (Rows.propsFullRow.named == Tryd.prog.varsNamed 5) = true := by kernel_rfl
theorem j23 : (Rows.propsFullRow.plainKeys == Tryd.prog.plainKeys) = true := by kernel_rfl
theorem j25 : Tryd.prog.stopsHeard = true := by kernel_rfl
theorem j26 : Tryd.prog.mayEnter = true := by kernel_rfl
theorem j27 : (Rows.propsFullRow.lifted == Tryd.prog.liftsFinal) = true := by kernel_rfl
theorem j28 : (Tryd.prog.make == some Rows.propsFullRow.make) = true := by kernel_rfl
theorem jand {a b : Bool} (ha : a = true) (hb : b = true) : (a && b) = true := by rw [ha, hb]; rfl
theorem closed : joinedFacts Tryd.prog 5 Tryd.f5 Rows.propsFullSpec Rows.propsFullRow = true := by
  unfold joinedFacts
  refine jand (jand (jand (jand (jand (jand (jand (jand (jand (jand (jand (jand (jand (jand (jand (jand (jand (jand (jand (jand (jand (jand (jand (jand (jand (jand (jand (jand (jand (jand (jand (?_) j2) j3) ?_) ?_) ?_) j7) ?_) j9) j10) j11) j12) j13) ?_) ?_) ?_) ?_) ?_) ?_) ?_) ?_) ?_) j23) ?_) j25) j26) j27) j28) ?_) ?_) ?_) ?_
  all_goals kernel_rfl
theorem over : Rows.propsFullRow.holds Tryd.pinned (OpenSpec.ofChange Rows.propsFullSpec) :=
  OpenClaim.holds_of_wide 5 Tryd.f5 rfl rfl rfl rfl rfl rfl rfl ⟨rfl, rfl, rfl, rfl, rfl⟩ rfl rfl rfl rfl rfl (by kernel_rfl) Tryd.func5 closed
    (of_decide_eq_true (by kernel_rfl)) (by unfold Func.isWrapper; first | (rw [if_pos (by decide +kernel)]; kernel_rfl) | (rw [if_neg (by decide +kernel)]; exact ⟨rfl, rfl⟩))
    (fun os started H enc _ => lifted os started H enc)
theorem card_w : Rows.propsFullRow.wfByText (OpenSpec.ofChange Rows.propsFullSpec) = true := by kernel_rfl
theorem card_m : Tryd.prog.mainIs = some ((true, "b2280ed3e1eaceb95f91366fa8330d8151e133558abcf15e28d332a1820bdc5d").1, (true, "b2280ed3e1eaceb95f91366fa8330d8151e133558abcf15e28d332a1820bdc5d").2.toList) := by kernel_rfl
theorem card_l : false = Tryd.prog.looks [] := by kernel_rfl
theorem card_s : ([5].all fun u => !Tryd.prog.wantsStandIn u) = true := by kernel_rfl
theorem card_g : false = Rows.propsFullRow.goesBy Tryd.prog := by kernel_rfl
theorem card_n : Tryd.prog.funcNamed "boomerang/boomeranglaw15.PropsFull" = some 5 := by kernel_rfl
theorem card : Rows.PropsFullCardSaid :=
  Claim7.holds_tied_plain_at .later [] [.data, .data, .data] true (true, "b2280ed3e1eaceb95f91366fa8330d8151e133558abcf15e28d332a1820bdc5d") false
    over (fun _ h => by cases h) card_w (fun _ h => by cases h) propsFull_row_tie rfl ⟨rfl, rfl⟩ card_m rfl
    (fun f fn hf hfn => by
      obtain rfl : f = 5 := Option.some.inj (card_n.symm.trans hf) |>.symm
      obtain rfl : fn = Tryd.f5 := (Option.some.inj (Tryd.func5.symm.trans hfn)).symm
      exact ⟨card_l, fun j t ht => by
        rw [Tryd.params5] at ht
        have hm : t ∈ [5] := by simpa using Array.mem_of_getElem? ht
        exact (show Tryd.prog.wantsStandIn t = false by simpa using List.all_eq_true.1 card_s t hm)⟩)
    card_g
theorem proved : Rows.PropsFullCardSaid := card
end Go.Proofs.YtophpelggceknaaDoor.propsFull
namespace Go.Proofs.YtophpelggceknaaDoor
/-- The statement, under a short name, for the claim. -/
theorem propsFull_holds : Rows.PropsFullCardSaid := propsFull.proved
end Go.Proofs.YtophpelggceknaaDoor
