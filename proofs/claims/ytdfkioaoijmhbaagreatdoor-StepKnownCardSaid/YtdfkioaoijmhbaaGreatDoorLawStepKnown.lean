/- The statement of StepKnown is proved: the law returns true for all arguments, by the evaluator's cases. Conditions: none but the statement's own. -/
import Derived.Test.YtdfkioaoijmhbaaGreatDoorFjStepKnown
import Derived.Test.YtdfkioaoijmhbaaGreatDoorFkStepKnown
import Derived.Test.YtdfkioaoijmhbaaGreatDoorRows
import Derived.Test.YtdfkioaoijmhbaaGreatDoorEvStepKnownx0
import Derived.Test.YtdfkioaoijmhbaaGreatDoorEvStepKnownx1
import Derived.Test.YtdfkioaoijmhbaaGreatDoorEvStepKnownx2
import Derived.Test.YtdfkioaoijmhbaaGreatDoorEvStepKnownx3
import Derived.Test.YtdfkioaoijmhbaaGreatDoorCards
import Derived.Test.YtdfkioaoijmhbaaGreatDoorTie
import Derived.WalkKit
import Derived.ProofKit
import Derived.OpenShut
import Derived.ShutString
import Derived.ChangeOld
import Derived.Below
import Derived.SizedLaws
import Derived.Lib.SmallJoins
import Derived.LaidMore
import Derived.Stop.LaidErr
import Derived.Lib.LaidTab
import Derived.Stop.Joined
import Derived.SevenTiedAt
namespace Go.Proofs.YtdfkioaoijmhbaaGreatDoor.stepKnown
open Go.ChangeShapes Go.WideShapes Go.ChangeAt Go.RowKit
set_option linter.unusedVariables false
theorem own : ownKnob Tryz.prog.godebug = none := by kernel_rfl
theorem mixed : Tryz.prog.follows .mixedOrders = true := by kernel_rfl
theorem cases : ∀ (r0 : Nat), r0 < 12 → Go.Ev.saysTrue (Go.Ev.ev Go.Proofs.Sn.lib (Go.Ev.compF Tryz.prog) 3000 150 3 [.res .u8 12 r0] Go.Ev.H.empty) = true
  | 0, _ => c_0
  | 1, _ => c_1
  | 2, _ => c_2
  | 3, _ => c_3
  | 4, _ => c_4
  | 5, _ => c_5
  | 6, _ => c_6
  | 7, _ => c_7
  | 8, _ => c_8
  | 9, _ => c_9
  | 10, _ => c_10
  | 11, _ => c_11
  | (_ + 12), h => absurd h (by omega)
theorem walk (a0 : Int) (W : World) (w0 : (Lit.int .u8 a0).wf = true) (hG : Go.Proofs.St.Kn W) : Calls Tryz.prog 3 #[.int .u8 a0] W (fun e W' => e = .returned (.bool true) ∧ Below W.heap.size W W') := by
  letI : Go.Ev.Unk := ⟨fun i => match i with  | _ => 0⟩
  obtain ⟨r0, h0, e0⟩ := Go.Ev.res_of w0 (m := 12) (by decide)
  exact Go.Ev.calls_true mixed Go.Proofs.Sn.lib_ok (fun _ _ h => h) (cases r0 h0) (args := #[.int .u8 a0]) (Go.Ev.VRs.cons e0 Go.Ev.VRs.nil) W (Go.Proofs.Sn.met W hG)
/-- What is listed. -/
def laidL : List (String × DataW Unit) := [("math/bits.deBruijn32tab", Rows.laid_math_bits_deBruijn32tab), ("math/bits.deBruijn64tab", Rows.laid_math_bits_deBruijn64tab), ("internal/strconv.uint64pow10", Rows.laid_internal_strconv_uint64pow10), ("unicode.White_Space", Rows.laid_unicode_White_Space), ("strings.asciiSpace", Rows.laid_strings_asciiSpace)]
theorem door_met (os : Os) (args : Array Value) : laidMetH Tryz.prog laidL ((World.doorLaid Tryz.prog 60 os).forCall (fun _ _ => 0) ⟨#[], args, []⟩).memory :=
  laidMetH_of_parts3 (fuel := 8) (laidMet_of_run' 8 (by kernel_rfl) (by kernel_rfl)) (by kernel_rfl) (by kernel_rfl)
set_option maxRecDepth 100000 in
theorem glob0 {W : World} (h : laidMetH Tryz.prog laidL W) : Go.Proofs.St.Sps W := by
  rw [MakeChecks.laidMetH_plain _ _ _ (by kernel_rfl)] at h
  have h2 := (laidMet.tail (laidMet.tail (laidMet.tail (laidMet.tail (show laidMet Tryz.prog (("math/bits.deBruijn32tab", Rows.laid_math_bits_deBruijn32tab) :: ("math/bits.deBruijn64tab", Rows.laid_math_bits_deBruijn64tab) :: ("internal/strconv.uint64pow10", Rows.laid_internal_strconv_uint64pow10) :: ("unicode.White_Space", Rows.laid_unicode_White_Space) :: ("strings.asciiSpace", Rows.laid_strings_asciiSpace) :: []) W from h)))))
  exact Lib.tabIs_of_head (g := 0) (t := 264) (e := 5) (n := 256) (by kernel_rfl) (by kernel_rfl) Tryz.underlying264 Tryz.underlying5 (by kernel_rfl) (by kernel_rfl) (show laidMet Tryz.prog (("strings.asciiSpace", Lib.tabData .u8 Lib.asciiSpaceTab) :: []) W from h2)
set_option maxRecDepth 100000 in
theorem glob1 {W : World} (h : laidMetH Tryz.prog laidL W) : Go.Proofs.St.Pow W := by
  rw [MakeChecks.laidMetH_plain _ _ _ (by kernel_rfl)] at h
  have h2 := (laidMet.tail (laidMet.tail (show laidMet Tryz.prog (("math/bits.deBruijn32tab", Rows.laid_math_bits_deBruijn32tab) :: ("math/bits.deBruijn64tab", Rows.laid_math_bits_deBruijn64tab) :: ("internal/strconv.uint64pow10", Rows.laid_internal_strconv_uint64pow10) :: ("unicode.White_Space", Rows.laid_unicode_White_Space) :: ("strings.asciiSpace", Rows.laid_strings_asciiSpace) :: []) W from h)))
  exact Lib.tabIs_of_head (g := 2) (t := 317) (e := 253) (n := 20) (by kernel_rfl) (by kernel_rfl) Tryz.underlying317 Tryz.underlying253 (by kernel_rfl) (by kernel_rfl) (show laidMet Tryz.prog (("internal/strconv.uint64pow10", Lib.tabData .u64 Lib.pow10Tab) :: ("unicode.White_Space", Rows.laid_unicode_White_Space) :: ("strings.asciiSpace", Rows.laid_strings_asciiSpace) :: []) W from h2)
theorem glob_of_laid {W : World} (h : laidMetH Tryz.prog laidL W) : Go.Proofs.St.KnT W := ⟨glob0 h, glob1 h⟩
set_option maxRecDepth 100000 in
theorem lifted (os : Os) (started : os.Started) (H : Type) (enc : TypeId × Value → H) :
    ReturnsInHanded {} Tryz.checked os 3 .any (fun w args => (Rows.stepKnownSpec.pre enc Tryz.prog Tryz.f3 Rows.stepKnownRow.domain false w args ∧ laidMetH Tryz.prog laidL w) ∧ sizedMet enc Tryz.prog Tryz.f3 (OpenSpec.ofChange Rows.stepKnownSpec) false w args)
      (Rows.stepKnownSpec.post enc Tryz.prog Tryz.f3 false true false false) := by
  refine returnsInHanded_of_change_and (C := Tryz.checked) (X := fun w _ => laidMetH Tryz.prog laidL w) (fun _ _ _ hh h => h.of_heap hh) own started (by kernel_rfl) Tryz.func3
    (ChangeSpec.witness_shaped (enc := enc) (C := Tryz.checked) (os := os) (X := fun w _ => laidMetH Tryz.prog laidL w) false (World.doorLaid Tryz.prog 60 os) #[.int .u8 0] 8 rfl (World.shaped_of_RefB (by kernel_rfl) (by kernel_rfl)) (by kernel_rfl) (by kernel_rfl) (by kernel_rfl) (door_met os _)) ?_
  intro W base args ds gs before hval0 hW _ hsz0 hL _
  have hG := glob_of_laid hL
  have hval : ∀ (j : Nat) t v, Tryz.f3.params[j]? = some t → args[j]? = some v → Value.okWide Tryz.prog W .any base t v := hval0
  have hW' := hW
  obtain ⟨p, q, hA0, hV, rfl, hfz, hnd⟩ := hW
  have hA : DataW.TrodAll enc Tryz.prog W 0 (fun _ => true) true Tryz.f3.params.toList args.toList ds p := hA0
  rw [Tryz.params3] at hA hval
  obtain ⟨v0, vs0, d0, ds0, p0, q0, hargs, rfl, rfl, h0, r0⟩ := trodAll_cons hA
  obtain ⟨rfl, rfl, rfl⟩ := trodAll_nil r0
  obtain rfl : args = #[v0] := by cases args; simp_all
  obtain ⟨rfl, rfl⟩ := trodVars_none hV
  obtain ⟨a0, rfl, rfl, rfl, w0⟩ := open_int Tryz.underlying5 (hval 0 5 v0 rfl rfl) h0
  refine (walk a0 W w0 hG).mono fun e W' ⟨he, bel⟩ => ?_
  subst he
  exact ⟨_, rfl, _, _, _, [], _, [], hW', trodAll_mk1 (shut_bool Tryz.underlying4 _), (trodAll_cons_mk (shut_int Tryz.underlying5 w0) trodAll_mk0), rfl, bel.frame _, fun h => by cases h⟩
theorem jand {a b : Bool} (ha : a = true) (hb : b = true) : (a && b) = true := by rw [ha, hb]; rfl
theorem closed : joinedFacts Tryz.prog 3 Tryz.f3 Rows.stepKnownSpec Rows.stepKnownRow = true := by
  unfold joinedFacts
  refine jand (jand (jand (jand (jand (jand (jand (jand (jand (jand (jand (jand (jand (jand (jand (jand (jand (jand (jand (jand (jand (jand (jand (jand (jand (jand (jand (jand (jand (jand (jand (?_) j2) j3) ?_) ?_) ?_) j7) ?_) j9) j10) j11) j12) j13) ?_) ?_) ?_) ?_) ?_) ?_) ?_) ?_) ?_) j23) ?_) j25) j26) j27) j28) ?_) ?_) ?_) ?_
  all_goals kernel_rfl
theorem over : Rows.stepKnownRow.holds Tryz.pinned (OpenSpec.ofChange Rows.stepKnownSpec) :=
  OpenClaim.holds_of_wide 3 Tryz.f3 rfl rfl rfl rfl rfl rfl rfl ⟨rfl, rfl, rfl, rfl, rfl⟩ rfl rfl rfl rfl rfl (by kernel_rfl) Tryz.func3 closed
    (of_decide_eq_true (by kernel_rfl)) (by unfold Func.isWrapper; first | (rw [if_pos (by decide +kernel)]; kernel_rfl) | (rw [if_neg (by decide +kernel)]; exact ⟨rfl, rfl⟩))
    (fun os started H enc _ => lifted os started H enc)
theorem goes_none {P : Program} (h : P.funcs.toList.any Func.goes = false) (c : OpenClaim) : false = c.goesBy P := by
  have hg : ∀ g : FuncId, (P.funcs[g]?).any Func.goes = false := fun g => by
    cases hf : P.funcs[g]? with
    | none => rfl
    | some fn =>
      have hm : fn ∈ P.funcs.toList := Array.mem_toList_iff.2 (Array.mem_of_getElem? hf)
      have := List.any_eq_false.1 h fn hm
      simpa using this
  have hf : ∀ f, P.goes f = false := fun f => by
    unfold Program.goes
    have h2 : P.funcs.any Func.goes = false := by rw [← Array.any_toList]; exact h
    rw [h2]
    simp [hg]
  unfold OpenClaim.goesBy Program.goesAt Program.goesFrom
  have h3 : (P.funcNamed c.func).any P.goes = false := by cases P.funcNamed c.func <;> simp [hf]
  rw [h3]
  split <;> simp [hf]
theorem goes_all : Tryz.prog.funcs.toList.any Func.goes = false := by kernel_rfl
theorem card_g : false = Rows.stepKnownRow.goesBy Tryz.prog := goes_none goes_all _
theorem card : Rows.StepKnownCardSaid :=
  Claim7.holds_tied_plain_at .later [] [.data, .data, .data, .listed, .data] true (true, "75903c0a64576ae13c8e63148e2e2b5d7fb22af3bd602d106719dedeb55be897") true
    over (fun _ h => by cases h) card_w (fun _ h => by cases h) stepKnown_row_tie rfl ⟨rfl, rfl⟩ card_m rfl
    (fun f fn hf hfn => by
      obtain rfl : f = 3 := Option.some.inj (card_n.symm.trans hf) |>.symm
      obtain rfl : fn = Tryz.f3 := (Option.some.inj (Tryz.func3.symm.trans hfn)).symm
      exact ⟨card_l, fun j t ht => by
        rw [Tryz.params3] at ht
        have hm : t ∈ [5] := by simpa using Array.mem_of_getElem? ht
        exact (show Tryz.prog.wantsStandIn t = false by simpa using List.all_eq_true.1 card_s t hm)⟩)
    card_g
theorem proved : Rows.StepKnownCardSaid := card
end Go.Proofs.YtdfkioaoijmhbaaGreatDoor.stepKnown
namespace Go.Proofs.YtdfkioaoijmhbaaGreatDoor
/-- The statement, under a short name, for the claim. -/
theorem stepKnown_holds : Rows.StepKnownCardSaid := stepKnown.proved
end Go.Proofs.YtdfkioaoijmhbaaGreatDoor
