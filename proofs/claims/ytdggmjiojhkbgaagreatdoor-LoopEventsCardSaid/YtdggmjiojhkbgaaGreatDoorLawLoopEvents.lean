/- The statement of LoopEvents is proved: the law returns true for all arguments, by the evaluator's cases. Conditions: none but the statement's own. -/
import Derived.Test.YtdggmjiojhkbgaaGreatDoorFjLoopEvents
import Derived.Test.YtdggmjiojhkbgaaGreatDoorFkLoopEvents
import Derived.Test.YtdggmjiojhkbgaaGreatDoorRows
import Derived.Test.YtdggmjiojhkbgaaGreatDoorEvLoopEventsx0
import Derived.Test.YtdggmjiojhkbgaaGreatDoorEvLoopEventsx1
import Derived.Test.YtdggmjiojhkbgaaGreatDoorEvLoopEventsx2
import Derived.Test.YtdggmjiojhkbgaaGreatDoorEvLoopEventsx3
import Derived.Test.YtdggmjiojhkbgaaGreatDoorEvLoopEventsx4
import Derived.Test.YtdggmjiojhkbgaaGreatDoorEvLoopEventsx5
import Derived.Test.YtdggmjiojhkbgaaGreatDoorEvLoopEventsx6
import Derived.Test.YtdggmjiojhkbgaaGreatDoorEvLoopEventsx7
import Derived.Test.YtdggmjiojhkbgaaGreatDoorEvLoopEventsx8
import Derived.Test.YtdggmjiojhkbgaaGreatDoorEvLoopEventsx9
import Derived.Test.YtdggmjiojhkbgaaGreatDoorEvLoopEventsx10
import Derived.Test.YtdggmjiojhkbgaaGreatDoorEvLoopEventsx11
import Derived.Test.YtdggmjiojhkbgaaGreatDoorEvLoopEventsx12
import Derived.Test.YtdggmjiojhkbgaaGreatDoorEvLoopEventsx13
import Derived.Test.YtdggmjiojhkbgaaGreatDoorEvLoopEventsx14
import Derived.Test.YtdggmjiojhkbgaaGreatDoorEvLoopEventsx15
import Derived.Test.YtdggmjiojhkbgaaGreatDoorCards
import Derived.Test.YtdggmjiojhkbgaaGreatDoorTie
import Derived.WalkKit
import Derived.ProofKit
import Derived.OpenShut
import Derived.ShutString
import Derived.ChangeOld
import Derived.Below
import Derived.SizedLaws
import Derived.Lib.SmallJoins
import Derived.LaidMore
import Derived.Stop.LaidErr
import Derived.Lib.LaidTab
import Derived.Stop.Joined
import Derived.SevenTiedAt
namespace Go.Proofs.YtdggmjiojhkbgaaGreatDoor.loopEvents
open Go.ChangeShapes Go.WideShapes Go.ChangeAt Go.RowKit
set_option linter.unusedVariables false
theorem own : ownKnob Tryz.prog.godebug = none := by kernel_rfl
theorem mixed : Tryz.prog.follows .mixedOrders = true := by kernel_rfl
theorem cases : ∀ (r0 : Nat) (r1 : Nat), r0 < 4 → r1 < 4 → Go.Ev.saysTrue (Go.Ev.ev Go.Proofs.Le.lib (Go.Ev.compF Tryz.prog) 3000 150 3 [.res .u8 4 r0, .res .u8 4 r1] Go.Ev.H.empty) = true
  | 0, 0, _, _ => c_0_0
  | 0, 1, _, _ => c_0_1
  | 0, 2, _, _ => c_0_2
  | 0, 3, _, _ => c_0_3
  | 1, 0, _, _ => c_1_0
  | 1, 1, _, _ => c_1_1
  | 1, 2, _, _ => c_1_2
  | 1, 3, _, _ => c_1_3
  | 2, 0, _, _ => c_2_0
  | 2, 1, _, _ => c_2_1
  | 2, 2, _, _ => c_2_2
  | 2, 3, _, _ => c_2_3
  | 3, 0, _, _ => c_3_0
  | 3, 1, _, _ => c_3_1
  | 3, 2, _, _ => c_3_2
  | 3, 3, _, _ => c_3_3
  | (_ + 4), _, h, _ => absurd h (by omega)
  | _, (_ + 4), _, h => absurd h (by omega)
theorem walk (a0 : Int) (a1 : Int) (W : World) (w0 : (Lit.int .u8 a0).wf = true) (w1 : (Lit.int .u8 a1).wf = true) (hG : Go.Proofs.Le.Kn W) : Calls Tryz.prog 3 #[.int .u8 a0, .int .u8 a1] W (fun e W' => e = .returned (.bool true) ∧ Below W.heap.size W W') := by
  obtain ⟨r0, h0, e0⟩ := Go.Ev.res_of w0 (m := 4) (by decide)
  obtain ⟨r1, h1, e1⟩ := Go.Ev.res_of w1 (m := 4) (by decide)
  exact Go.Ev.calls_true mixed Go.Proofs.Le.lib_ok (fun _ _ h => h) (cases r0 r1 h0 h1) (args := #[.int .u8 a0, .int .u8 a1]) (Go.Ev.VRs.cons e0 (Go.Ev.VRs.cons e1 Go.Ev.VRs.nil)) W (Go.Proofs.Le.met W hG)
/-- What is listed. -/
def laidL : List (String × DataW Unit) := [("math/bits.deBruijn32tab", Rows.laid_math_bits_deBruijn32tab), ("math/bits.deBruijn64tab", Rows.laid_math_bits_deBruijn64tab), ("internal/strconv.uint64pow10", Rows.laid_internal_strconv_uint64pow10), ("unicode.White_Space", Rows.laid_unicode_White_Space), ("strings.asciiSpace", Rows.laid_strings_asciiSpace)]
theorem door_met (os : Os) (args : Array Value) : laidMetH Tryz.prog laidL ((World.doorLaid Tryz.prog 60 os).forCall (fun _ _ => 0) ⟨#[], args, []⟩).memory :=
  laidMetH_of_parts3 (fuel := 8) (laidMet_of_run' 8 (by kernel_rfl) (by kernel_rfl)) (by kernel_rfl) (by kernel_rfl)
set_option maxRecDepth 100000 in
theorem glob0 {W : World} (h : laidMetH Tryz.prog laidL W) : Go.Proofs.Le.Sps W := by
  rw [MakeChecks.laidMetH_plain _ _ _ (by kernel_rfl)] at h
  have h2 := (laidMet.tail (laidMet.tail (laidMet.tail (laidMet.tail (show laidMet Tryz.prog (("math/bits.deBruijn32tab", Rows.laid_math_bits_deBruijn32tab) :: ("math/bits.deBruijn64tab", Rows.laid_math_bits_deBruijn64tab) :: ("internal/strconv.uint64pow10", Rows.laid_internal_strconv_uint64pow10) :: ("unicode.White_Space", Rows.laid_unicode_White_Space) :: ("strings.asciiSpace", Rows.laid_strings_asciiSpace) :: []) W from h)))))
  exact Lib.tabIs_of_head (g := 0) (t := 272) (e := 5) (n := 256) (by kernel_rfl) (by kernel_rfl) Tryz.underlying272 Tryz.underlying5 (by kernel_rfl) (by kernel_rfl) (show laidMet Tryz.prog (("strings.asciiSpace", Lib.tabData .u8 Lib.asciiSpaceTab) :: []) W from h2)
set_option maxRecDepth 100000 in
theorem glob1 {W : World} (h : laidMetH Tryz.prog laidL W) : Go.Proofs.Le.Pow W := by
  rw [MakeChecks.laidMetH_plain _ _ _ (by kernel_rfl)] at h
  have h2 := (laidMet.tail (laidMet.tail (show laidMet Tryz.prog (("math/bits.deBruijn32tab", Rows.laid_math_bits_deBruijn32tab) :: ("math/bits.deBruijn64tab", Rows.laid_math_bits_deBruijn64tab) :: ("internal/strconv.uint64pow10", Rows.laid_internal_strconv_uint64pow10) :: ("unicode.White_Space", Rows.laid_unicode_White_Space) :: ("strings.asciiSpace", Rows.laid_strings_asciiSpace) :: []) W from h)))
  exact Lib.tabIs_of_head (g := 3) (t := 390) (e := 338) (n := 20) (by kernel_rfl) (by kernel_rfl) Tryz.underlying390 Tryz.underlying338 (by kernel_rfl) (by kernel_rfl) (show laidMet Tryz.prog (("internal/strconv.uint64pow10", Lib.tabData .u64 Lib.pow10Tab) :: ("unicode.White_Space", Rows.laid_unicode_White_Space) :: ("strings.asciiSpace", Rows.laid_strings_asciiSpace) :: []) W from h2)
theorem glob_of_laid {W : World} (h : laidMetH Tryz.prog laidL W) : Go.Proofs.Le.KnT W := ⟨glob0 h, glob1 h⟩
set_option maxRecDepth 100000 in
theorem lifted (os : Os) (started : os.Started) (H : Type) (enc : TypeId × Value → H) :
    ReturnsInHanded {} Tryz.checked os 3 .any (fun w args => (Rows.loopEventsSpec.pre enc Tryz.prog Tryz.f3 Rows.loopEventsRow.domain false w args ∧ laidMetH Tryz.prog laidL w) ∧ sizedMet enc Tryz.prog Tryz.f3 (OpenSpec.ofChange Rows.loopEventsSpec) false w args)
      (Rows.loopEventsSpec.post enc Tryz.prog Tryz.f3 false true false false) := by
  refine returnsInHanded_of_calls (C := Tryz.checked) own started (by kernel_rfl)
    (ChangeSpec.witness_shaped (enc := enc) (C := Tryz.checked) (os := os) (X := fun w _ => laidMetH Tryz.prog laidL w) false (World.doorLaid Tryz.prog 60 os) #[.int .u8 0, .int .u8 0] 8 rfl (World.shaped_of_RefB (by kernel_rfl) (by kernel_rfl)) (by kernel_rfl) (by kernel_rfl) (by kernel_rfl) (door_met os _)) ?_
  intro w tape i _ hsh _ hok hpre _
  obtain ⟨_, _, _, fn, hfn, _, _, _, _, hval0⟩ := hok
  obtain rfl : fn = Tryz.f3 := Option.some.inj (hfn.symm.trans Tryz.func3)
  obtain ⟨⟨⟨ds, gs, before, hW0, _⟩, hL0⟩, hsz0⟩ := hpre
  have hW := DataW.Whole.of_heap (w' := w.forCall tape i) (by rfl) hW0
  have hL : laidMetH Tryz.prog laidL (w.forCall tape i) := hL0.of_heap (by rfl)
  have hG := And.intro (glob_of_laid hL) (Tryz.laysM144.s1_3 _ hsh)
  generalize hbase : w.heap.size = base at hval0
  generalize hWd : w.forCall tape i = W at hval0 hW hL hG ⊢
  obtain ⟨args, hargs0⟩ : ∃ args, args = i.args := ⟨_, rfl⟩
  rw [← hargs0] at hval0 hW ⊢
  have hval : ∀ (j : Nat) t v, Tryz.f3.params[j]? = some t → args[j]? = some v → Value.okWide Tryz.prog W .any base t v := hval0
  have hW' := hW
  obtain ⟨p, q, hA0, hV, rfl, hfz, hnd⟩ := hW
  have hA : DataW.TrodAll enc Tryz.prog W 0 (fun _ => true) true Tryz.f3.params.toList args.toList ds p := hA0
  rw [Tryz.params3] at hA hval
  obtain ⟨v0, vs0, d0, ds0, p0, q0, hargs, rfl, rfl, h0, r0⟩ := trodAll_cons hA
  obtain ⟨v1, vs1, d1, ds1, p1, q1, rfl, rfl, rfl, h1, r1⟩ := trodAll_cons r0
  obtain ⟨rfl, rfl, rfl⟩ := trodAll_nil r1
  obtain rfl : args = #[v0, v1] := by cases args; simp_all
  obtain ⟨rfl, rfl⟩ := trodVars_none hV
  obtain ⟨a0, rfl, rfl, rfl, w0⟩ := open_int Tryz.underlying5 (hval 0 5 v0 rfl rfl) h0
  obtain ⟨a1, rfl, rfl, rfl, w1⟩ := open_int Tryz.underlying5 (hval 1 5 v1 rfl rfl) h1
  refine (walk a0 a1 W w0 w1 hG).mono fun e W' ⟨he, bel⟩ => ?_
  subst he
  exact ChangeSpec.post_blind ⟨_, _, _, [], _, [], hW', trodAll_mk1 (shut_bool Tryz.underlying4 _), (trodAll_cons_mk (shut_int Tryz.underlying5 w0) (trodAll_cons_mk (shut_int Tryz.underlying5 w1) trodAll_mk0)), rfl, bel.frame _, fun h => by cases h⟩
theorem jand {a b : Bool} (ha : a = true) (hb : b = true) : (a && b) = true := by rw [ha, hb]; rfl
theorem closed : joinedFacts Tryz.prog 3 Tryz.f3 Rows.loopEventsSpec Rows.loopEventsRow = true := by
  unfold joinedFacts
  refine jand (jand (jand (jand (jand (jand (jand (jand (jand (jand (jand (jand (jand (jand (jand (jand (jand (jand (jand (jand (jand (jand (jand (jand (jand (jand (jand (jand (jand (jand (jand (?_) j2) j3) ?_) ?_) ?_) j7) ?_) j9) j10) j11) j12) j13) ?_) ?_) ?_) ?_) ?_) ?_) ?_) ?_) ?_) j23) ?_) j25) j26) j27) j28) ?_) ?_) ?_) ?_
  all_goals kernel_rfl
theorem over : Rows.loopEventsRow.holds Tryz.pinned (OpenSpec.ofChange Rows.loopEventsSpec) :=
  OpenClaim.holds_of_wide 3 Tryz.f3 rfl rfl rfl rfl rfl rfl rfl ⟨rfl, rfl, rfl, rfl, rfl⟩ rfl rfl rfl rfl rfl (by kernel_rfl) Tryz.func3 closed
    (of_decide_eq_true (by kernel_rfl)) (by unfold Func.isWrapper; first | (rw [if_pos (by decide +kernel)]; kernel_rfl) | (rw [if_neg (by decide +kernel)]; exact ⟨rfl, rfl⟩))
    (fun os started H enc _ => lifted os started H enc)
theorem goes_none {P : Program} (h : P.funcs.toList.any Func.goes = false) (c : OpenClaim) : false = c.goesBy P := by
  have hg : ∀ g : FuncId, (P.funcs[g]?).any Func.goes = false := fun g => by
    cases hf : P.funcs[g]? with
    | none => rfl
    | some fn =>
      have hm : fn ∈ P.funcs.toList := Array.mem_toList_iff.2 (Array.mem_of_getElem? hf)
      have := List.any_eq_false.1 h fn hm
      simpa using this
  have hf : ∀ f, P.goes f = false := fun f => by
    unfold Program.goes
    have h2 : P.funcs.any Func.goes = false := by rw [← Array.any_toList]; exact h
    rw [h2]
    simp [hg]
  unfold OpenClaim.goesBy Program.goesAt Program.goesFrom
  have h3 : (P.funcNamed c.func).any P.goes = false := by cases P.funcNamed c.func <;> simp [hf]
  rw [h3]
  split <;> simp [hf]
theorem goes_all : Tryz.prog.funcs.toList.any Func.goes = false := by kernel_rfl
theorem card_g : false = Rows.loopEventsRow.goesBy Tryz.prog := goes_none goes_all _
theorem card : Rows.LoopEventsCardSaid :=
  Claim7.holds_tied_plain_at .later [] [.data, .data, .data, .listed, .data] true (true, "a0763c1d2d853fe0fb030c75f2a5f90797104992a5daf62df01d4b95979fdf45") true
    over (fun _ h => by cases h) card_w (fun _ h => by cases h) loopEvents_row_tie rfl ⟨rfl, rfl⟩ card_m rfl
    (fun f fn hf hfn => by
      obtain rfl : f = 3 := Option.some.inj (card_n.symm.trans hf) |>.symm
      obtain rfl : fn = Tryz.f3 := (Option.some.inj (Tryz.func3.symm.trans hfn)).symm
      exact ⟨card_l, fun j t ht => by
        rw [Tryz.params3] at ht
        have hm : t ∈ [5, 5] := by simpa using Array.mem_of_getElem? ht
        exact (show Tryz.prog.wantsStandIn t = false by simpa using List.all_eq_true.1 card_s t hm)⟩)
    card_g
theorem proved : Rows.LoopEventsCardSaid := card
end Go.Proofs.YtdggmjiojhkbgaaGreatDoor.loopEvents
namespace Go.Proofs.YtdggmjiojhkbgaaGreatDoor
/-- The statement, under a short name, for the claim. -/
theorem loopEvents_holds : Rows.LoopEventsCardSaid := loopEvents.proved
end Go.Proofs.YtdggmjiojhkbgaaGreatDoor
