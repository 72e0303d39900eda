/- The statement of PropsKinds is proved: the law returns true for all arguments, by the evaluator's cases. Conditions: none but the statement's own. -/
import Derived.Test.YtophpelggceknaaDoorRows
import Derived.Test.YtophpelggceknaaDoorEvPropsKindsx0
import Derived.Test.YtophpelggceknaaDoorEvPropsKindsx1
import Derived.Test.YtophpelggceknaaDoorEvPropsKindsx2
import Derived.Test.YtophpelggceknaaDoorEvPropsKindsx3
import Derived.Test.YtophpelggceknaaDoorEvPropsKindsx4
import Derived.Test.YtophpelggceknaaDoorEvPropsKindsx5
import Derived.Test.YtophpelggceknaaDoorCards
import Derived.Test.YtophpelggceknaaDoorTie
import Derived.WalkKit
import Derived.ProofKit
import Derived.OpenShut
import Derived.ShutString
import Derived.ChangeOld
import Derived.Below
import Derived.SizedLaws
import Derived.Lib.SmallJoins
import Derived.LaidMore
import Derived.Stop.LaidErr
import Derived.Lib.LaidTab
import Derived.Stop.Joined
import Derived.SevenTiedAt
namespace Go.Proofs.YtophpelggceknaaDoor.propsKinds
open Go.ChangeShapes Go.WideShapes Go.ChangeAt Go.RowKit
set_option linter.unusedVariables false
theorem own : ownKnob Tryd.prog.godebug = none := by kernel_rfl
theorem mixed : Tryd.prog.follows .mixedOrders = true := by kernel_rfl
theorem cases : ∀ (r0 : Nat) (r1 : Nat), r0 < 9 → r1 < 11 → Go.Ev.saysTrue (Go.Ev.ev (Go.Ev.compF Tryd.prog) 1000 50 4 [.res .u8 9 r0, .res .u8 11 r1] Go.Ev.H.empty) = true
  | 0, 0, _, _ => c_0_0
  | 0, 1, _, _ => c_0_1
  | 0, 2, _, _ => c_0_2
  | 0, 3, _, _ => c_0_3
  | 0, 4, _, _ => c_0_4
  | 0, 5, _, _ => c_0_5
  | 0, 6, _, _ => c_0_6
  | 0, 7, _, _ => c_0_7
  | 0, 8, _, _ => c_0_8
  | 0, 9, _, _ => c_0_9
  | 0, 10, _, _ => c_0_10
  | 1, 0, _, _ => c_1_0
  | 1, 1, _, _ => c_1_1
  | 1, 2, _, _ => c_1_2
  | 1, 3, _, _ => c_1_3
  | 1, 4, _, _ => c_1_4
  | 1, 5, _, _ => c_1_5
  | 1, 6, _, _ => c_1_6
  | 1, 7, _, _ => c_1_7
  | 1, 8, _, _ => c_1_8
  | 1, 9, _, _ => c_1_9
  | 1, 10, _, _ => c_1_10
  | 2, 0, _, _ => c_2_0
  | 2, 1, _, _ => c_2_1
  | 2, 2, _, _ => c_2_2
  | 2, 3, _, _ => c_2_3
  | 2, 4, _, _ => c_2_4
  | 2, 5, _, _ => c_2_5
  | 2, 6, _, _ => c_2_6
  | 2, 7, _, _ => c_2_7
  | 2, 8, _, _ => c_2_8
  | 2, 9, _, _ => c_2_9
  | 2, 10, _, _ => c_2_10
  | 3, 0, _, _ => c_3_0
  | 3, 1, _, _ => c_3_1
  | 3, 2, _, _ => c_3_2
  | 3, 3, _, _ => c_3_3
  | 3, 4, _, _ => c_3_4
  | 3, 5, _, _ => c_3_5
  | 3, 6, _, _ => c_3_6
  | 3, 7, _, _ => c_3_7
  | 3, 8, _, _ => c_3_8
  | 3, 9, _, _ => c_3_9
  | 3, 10, _, _ => c_3_10
  | 4, 0, _, _ => c_4_0
  | 4, 1, _, _ => c_4_1
  | 4, 2, _, _ => c_4_2
  | 4, 3, _, _ => c_4_3
  | 4, 4, _, _ => c_4_4
  | 4, 5, _, _ => c_4_5
  | 4, 6, _, _ => c_4_6
  | 4, 7, _, _ => c_4_7
  | 4, 8, _, _ => c_4_8
  | 4, 9, _, _ => c_4_9
  | 4, 10, _, _ => c_4_10
  | 5, 0, _, _ => c_5_0
  | 5, 1, _, _ => c_5_1
  | 5, 2, _, _ => c_5_2
  | 5, 3, _, _ => c_5_3
  | 5, 4, _, _ => c_5_4
  | 5, 5, _, _ => c_5_5
  | 5, 6, _, _ => c_5_6
  | 5, 7, _, _ => c_5_7
  | 5, 8, _, _ => c_5_8
  | 5, 9, _, _ => c_5_9
  | 5, 10, _, _ => c_5_10
  | 6, 0, _, _ => c_6_0
  | 6, 1, _, _ => c_6_1
  | 6, 2, _, _ => c_6_2
  | 6, 3, _, _ => c_6_3
  | 6, 4, _, _ => c_6_4
  | 6, 5, _, _ => c_6_5
  | 6, 6, _, _ => c_6_6
  | 6, 7, _, _ => c_6_7
  | 6, 8, _, _ => c_6_8
  | 6, 9, _, _ => c_6_9
  | 6, 10, _, _ => c_6_10
  | 7, 0, _, _ => c_7_0
  | 7, 1, _, _ => c_7_1
  | 7, 2, _, _ => c_7_2
  | 7, 3, _, _ => c_7_3
  | 7, 4, _, _ => c_7_4
  | 7, 5, _, _ => c_7_5
  | 7, 6, _, _ => c_7_6
  | 7, 7, _, _ => c_7_7
  | 7, 8, _, _ => c_7_8
  | 7, 9, _, _ => c_7_9
  | 7, 10, _, _ => c_7_10
  | 8, 0, _, _ => c_8_0
  | 8, 1, _, _ => c_8_1
  | 8, 2, _, _ => c_8_2
  | 8, 3, _, _ => c_8_3
  | 8, 4, _, _ => c_8_4
  | 8, 5, _, _ => c_8_5
  | 8, 6, _, _ => c_8_6
  | 8, 7, _, _ => c_8_7
  | 8, 8, _, _ => c_8_8
  | 8, 9, _, _ => c_8_9
  | 8, 10, _, _ => c_8_10
  | (_ + 9), _, h, _ => absurd h (by omega)
  | _, (_ + 11), _, h => absurd h (by omega)
theorem walk (a0 : Int) (a1 : Int) (W : World) (w0 : (Lit.int .u8 a0).wf = true) (w1 : (Lit.int .u8 a1).wf = true) : Calls Tryd.prog 4 #[.int .u8 a0, .int .u8 a1] W (fun e W' => e = .returned (.bool true) ∧ Below W.heap.size W W') := by
  obtain ⟨r0, h0, e0⟩ := Go.Ev.res_of w0 (m := 9) (by decide)
  obtain ⟨r1, h1, e1⟩ := Go.Ev.res_of w1 (m := 11) (by decide)
  exact Go.Ev.calls_true mixed (cases r0 r1 h0 h1) (args := #[.int .u8 a0, .int .u8 a1]) (Go.Ev.VRs.cons e0 (Go.Ev.VRs.cons e1 Go.Ev.VRs.nil)) W
/-- What is listed. -/
def laidL : List (String × DataW Unit) := [("math/bits.deBruijn32tab", Rows.laid_math_bits_deBruijn32tab), ("math/bits.deBruijn64tab", Rows.laid_math_bits_deBruijn64tab), ("internal/strconv.uint64pow10", Rows.laid_internal_strconv_uint64pow10)]
theorem door_met (os : Os) (args : Array Value) : laidMetH Tryd.prog laidL ((World.doorLaid Tryd.prog 24 os).forCall (fun _ _ => 0) ⟨#[], args, []⟩).memory :=
  laidMetH_of_parts3 (fuel := 8) (laidMet_of_run' 8 (by kernel_rfl) (by kernel_rfl)) (by kernel_rfl) (by kernel_rfl)
set_option maxRecDepth 100000 in
theorem lifted (os : Os) (started : os.Started) (H : Type) (enc : TypeId × Value → H) :
    ReturnsInHanded {} Tryd.checked os 4 .any (fun w args => (Rows.propsKindsSpec.pre enc Tryd.prog Tryd.f4 Rows.propsKindsRow.domain false w args ∧ laidMetH Tryd.prog laidL w) ∧ sizedMet enc Tryd.prog Tryd.f4 (OpenSpec.ofChange Rows.propsKindsSpec) false w args)
      (Rows.propsKindsSpec.post enc Tryd.prog Tryd.f4 false true false false) := by
  refine returnsInHanded_of_change_and (C := Tryd.checked) (X := fun w _ => laidMetH Tryd.prog laidL w) (fun _ _ _ hh h => h.of_heap hh) own started (by kernel_rfl) Tryd.func4
    (ChangeSpec.witness_shaped (enc := enc) (C := Tryd.checked) (os := os) (X := fun w _ => laidMetH Tryd.prog laidL w) false (World.doorLaid Tryd.prog 24 os) #[.int .u8 0, .int .u8 0] 8 rfl (World.shaped_of_RefB (by kernel_rfl) (by kernel_rfl)) (by kernel_rfl) (by kernel_rfl) (by kernel_rfl) (door_met os _)) ?_
  intro W base args ds gs before hval0 hW _ hsz0 hL _
  have hval : ∀ (j : Nat) t v, Tryd.f4.params[j]? = some t → args[j]? = some v → Value.okWide Tryd.prog W .any base t v := hval0
  have hW' := hW
  obtain ⟨p, q, hA0, hV, rfl, hfz, hnd⟩ := hW
  have hA : DataW.TrodAll enc Tryd.prog W 0 (fun _ => true) true Tryd.f4.params.toList args.toList ds p := hA0
  rw [Tryd.params4] at hA hval
  obtain ⟨v0, vs0, d0, ds0, p0, q0, hargs, rfl, rfl, h0, r0⟩ := trodAll_cons hA
  obtain ⟨v1, vs1, d1, ds1, p1, q1, rfl, rfl, rfl, h1, r1⟩ := trodAll_cons r0
  obtain ⟨rfl, rfl, rfl⟩ := trodAll_nil r1
  obtain rfl : args = #[v0, v1] := by cases args; simp_all
  obtain ⟨rfl, rfl⟩ := trodVars_none hV
  obtain ⟨a0, rfl, rfl, rfl, w0⟩ := open_int Tryd.underlying5 (hval 0 5 v0 rfl rfl) h0
  obtain ⟨a1, rfl, rfl, rfl, w1⟩ := open_int Tryd.underlying5 (hval 1 5 v1 rfl rfl) h1
  refine (walk a0 a1 W w0 w1).mono fun e W' ⟨he, bel⟩ => ?_
  subst he
  exact ⟨_, rfl, _, _, _, [], _, [], hW', trodAll_mk1 (shut_bool Tryd.underlying4 _), (trodAll_cons_mk (shut_int Tryd.underlying5 w0) (trodAll_cons_mk (shut_int Tryd.underlying5 w1) trodAll_mk0)), rfl, bel.frame _, fun h => by cases h⟩
theorem over : Rows.propsKindsRow.holds Tryd.pinned (OpenSpec.ofChange Rows.propsKindsSpec) :=
  OpenClaim.holds_of_wide 4 Tryd.f4 rfl rfl rfl rfl rfl rfl rfl ⟨rfl, rfl, rfl, rfl, rfl⟩ rfl rfl rfl rfl rfl (by kernel_rfl) Tryd.func4 (by kernel_rfl)
    (of_decide_eq_true (by kernel_rfl)) (by unfold Func.isWrapper; first | (rw [if_pos (by decide +kernel)]; kernel_rfl) | (rw [if_neg (by decide +kernel)]; exact ⟨rfl, rfl⟩))
    (fun os started H enc _ => lifted os started H enc)
theorem card : Rows.PropsKindsCardSaid :=
  Claim7.holds_tied_plain_at .later [] [.data, .data, .data] true (true, "b2280ed3e1eaceb95f91366fa8330d8151e133558abcf15e28d332a1820bdc5d") false
    over (fun _ h => by cases h) (by kernel_rfl) (fun _ h => by cases h) propsKinds_row_tie rfl ⟨rfl, rfl⟩ (by kernel_rfl) rfl
    (fun f fn hf hfn => by
      obtain rfl : f = 4 := Option.some.inj ((show Tryd.prog.funcNamed "boomerang/boomeranglaw15.PropsKinds" = some 4 by kernel_rfl).symm.trans hf) |>.symm
      obtain rfl : fn = Tryd.f4 := (Option.some.inj (Tryd.func4.symm.trans hfn)).symm
      exact ⟨by kernel_rfl, fun j t ht => by
        rw [Tryd.params4] at ht
        have hm : t ∈ [5] := by simpa using Array.mem_of_getElem? ht
        have hall : ([5].all fun u => !Tryd.prog.wantsStandIn u) = true := by kernel_rfl
        exact (show Tryd.prog.wantsStandIn t = false by simpa using List.all_eq_true.1 hall t hm)⟩)
    (by kernel_rfl)
theorem proved : Rows.PropsKindsCardSaid := card
end Go.Proofs.YtophpelggceknaaDoor.propsKinds
namespace Go.Proofs.YtophpelggceknaaDoor
/-- The statement, under a short name, for the claim. -/
theorem propsKinds_holds : Rows.PropsKindsCardSaid := propsKinds.proved
end Go.Proofs.YtophpelggceknaaDoor
