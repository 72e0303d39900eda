/- The statement of LoopPromises is proved: the law returns true for all arguments, by the evaluator's cases. Conditions: none but the statement's own. -/
import Derived.Test.YtanjjmgoangmdaaGreatDoorFjLoopPromises
import Derived.Test.YtanjjmgoangmdaaGreatDoorFkLoopPromises
import Derived.Test.YtanjjmgoangmdaaGreatDoorRows
import Derived.Test.YtanjjmgoangmdaaGreatDoorEvLoopPromisesx0
import Derived.Test.YtanjjmgoangmdaaGreatDoorEvLoopPromisesx1
import Derived.Test.YtanjjmgoangmdaaGreatDoorEvLoopPromisesx2
import Derived.Test.YtanjjmgoangmdaaGreatDoorEvLoopPromisesx3
import Derived.Test.YtanjjmgoangmdaaGreatDoorEvLoopPromisesx4
import Derived.Test.YtanjjmgoangmdaaGreatDoorEvLoopPromisesx5
import Derived.Test.YtanjjmgoangmdaaGreatDoorEvLoopPromisesx6
import Derived.Test.YtanjjmgoangmdaaGreatDoorEvLoopPromisesx7
import Derived.Test.YtanjjmgoangmdaaGreatDoorEvLoopPromisesx8
import Derived.Test.YtanjjmgoangmdaaGreatDoorEvLoopPromisesx9
import Derived.Test.YtanjjmgoangmdaaGreatDoorEvLoopPromisesx10
import Derived.Test.YtanjjmgoangmdaaGreatDoorEvLoopPromisesx11
import Derived.Test.YtanjjmgoangmdaaGreatDoorEvLoopPromisesx12
import Derived.Test.YtanjjmgoangmdaaGreatDoorEvLoopPromisesx13
import Derived.Test.YtanjjmgoangmdaaGreatDoorEvLoopPromisesx14
import Derived.Test.YtanjjmgoangmdaaGreatDoorCards
import Derived.Test.YtanjjmgoangmdaaGreatDoorTie
import Derived.WalkKit
import Derived.ProofKit
import Derived.OpenShut
import Derived.ShutString
import Derived.ChangeOld
import Derived.Below
import Derived.SizedLaws
import Derived.Lib.SmallJoins
import Derived.LaidMore
import Derived.Stop.LaidErr
import Derived.Lib.LaidTab
import Derived.Stop.Joined
import Derived.SevenTiedAt
namespace Go.Proofs.YtanjjmgoangmdaaGreatDoor.loopPromises
open Go.ChangeShapes Go.WideShapes Go.ChangeAt Go.RowKit
set_option linter.unusedVariables false
theorem own : ownKnob Tryz.prog.godebug = none := by kernel_rfl
theorem mixed : Tryz.prog.follows .mixedOrders = true := by kernel_rfl
def sv0 : Nat → Go.Ev.AV
  | 0 => .int .u8 (.ofNat 0)
  | 1 => .sym .u8 (.ofNat 1) (.ofNat 2) (.var 0 (.ofNat 1) (.ofNat 2))
  | 2 => .sym .u8 (.ofNat 3) (.ofNat 7) (.var 0 (.ofNat 3) (.ofNat 7))
  | 3 => .int .u8 (.ofNat 8)
  | 4 => .int .u8 (.ofNat 9)
  | 5 => .int .u8 (.ofNat 10)
  | 6 => .sym .u8 (.ofNat 11) (.ofNat 47) (.var 0 (.ofNat 11) (.ofNat 47))
  | 7 => .sym .u8 (.ofNat 48) (.ofNat 97) (.var 0 (.ofNat 48) (.ofNat 97))
  | 8 => .int .u8 (.ofNat 98)
  | 9 => .int .u8 (.ofNat 99)
  | 10 => .sym .u8 (.ofNat 100) (.ofNat 255) (.var 0 (.ofNat 100) (.ofNat 255))
  | _ => .nilp
theorem cases : ∀ (r0 : Nat) (r1 : Bool) (r2 : Bool), r0 < 11 → Go.Ev.saysTrue (Go.Ev.ev Go.Proofs.Le.lib (Go.Ev.compF Tryz.prog) 3000 150 3 [sv0 r0, .bool r1, .bool r2] Go.Ev.H.empty) = true
  | 0, .false, .false, _ => c_0_false_false
  | 0, .false, .true, _ => c_0_false_true
  | 0, .true, .false, _ => c_0_true_false
  | 0, .true, .true, _ => c_0_true_true
  | 1, .false, .false, _ => c_1_false_false
  | 1, .false, .true, _ => c_1_false_true
  | 1, .true, .false, _ => c_1_true_false
  | 1, .true, .true, _ => c_1_true_true
  | 2, .false, .false, _ => c_2_false_false
  | 2, .false, .true, _ => c_2_false_true
  | 2, .true, .false, _ => c_2_true_false
  | 2, .true, .true, _ => c_2_true_true
  | 3, .false, .false, _ => c_3_false_false
  | 3, .false, .true, _ => c_3_false_true
  | 3, .true, .false, _ => c_3_true_false
  | 3, .true, .true, _ => c_3_true_true
  | 4, .false, .false, _ => c_4_false_false
  | 4, .false, .true, _ => c_4_false_true
  | 4, .true, .false, _ => c_4_true_false
  | 4, .true, .true, _ => c_4_true_true
  | 5, .false, .false, _ => c_5_false_false
  | 5, .false, .true, _ => c_5_false_true
  | 5, .true, .false, _ => c_5_true_false
  | 5, .true, .true, _ => c_5_true_true
  | 6, .false, .false, _ => c_6_false_false
  | 6, .false, .true, _ => c_6_false_true
  | 6, .true, .false, _ => c_6_true_false
  | 6, .true, .true, _ => c_6_true_true
  | 7, .false, .false, _ => c_7_false_false
  | 7, .false, .true, _ => c_7_false_true
  | 7, .true, .false, _ => c_7_true_false
  | 7, .true, .true, _ => c_7_true_true
  | 8, .false, .false, _ => c_8_false_false
  | 8, .false, .true, _ => c_8_false_true
  | 8, .true, .false, _ => c_8_true_false
  | 8, .true, .true, _ => c_8_true_true
  | 9, .false, .false, _ => c_9_false_false
  | 9, .false, .true, _ => c_9_false_true
  | 9, .true, .false, _ => c_9_true_false
  | 9, .true, .true, _ => c_9_true_true
  | 10, .false, .false, _ => c_10_false_false
  | 10, .false, .true, _ => c_10_false_true
  | 10, .true, .false, _ => c_10_true_false
  | 10, .true, .true, _ => c_10_true_true
  | (_ + 11), _, _, h => absurd h (by omega)
theorem walk (a0 : Int) (a1 : Bool) (a2 : Bool) (W : World) (w0 : (Lit.int .u8 a0).wf = true) (hG : Go.Proofs.Le.Kn W) : Calls Tryz.prog 3 #[.int .u8 a0, .bool a1, .bool a2] W (fun e W' => e = .returned (.bool true) ∧ Below W.heap.size W W') := by
  letI : Go.Ev.Unk := ⟨fun i => match i with | 0 => a0 | _ => 0⟩
  have b0 : 0 ≤ a0 ∧ a0 ≤ 255 := by simp [Lit.wf, IntKind.min, IntKind.max, IntKind.bits, IntKind.signed] at w0; omega
  obtain ⟨r0, h0, e0⟩ : ∃ r, r < 11 ∧ Go.Ev.VR (fun _ => none) (sv0 r) (.int .u8 a0) := by
    by_cases q0 : a0 ≤ 0
    · exact ⟨0, by decide, (show Value.int .u8 a0 = Value.int .u8 (.ofNat 0) from congrArg (Value.int .u8) (show a0 = 0 by omega))⟩
    by_cases q1 : a0 ≤ 2
    · exact ⟨1, by decide, (show Value.int .u8 a0 = Value.int .u8 a0 ∧ (1 : Int) ≤ a0 ∧ a0 ≤ (2 : Int) ∧ (1 : Int) ≤ a0 ∧ a0 ≤ (2 : Int) from ⟨rfl, by omega, by omega, by omega, by omega⟩)⟩
    by_cases q2 : a0 ≤ 7
    · exact ⟨2, by decide, (show Value.int .u8 a0 = Value.int .u8 a0 ∧ (3 : Int) ≤ a0 ∧ a0 ≤ (7 : Int) ∧ (3 : Int) ≤ a0 ∧ a0 ≤ (7 : Int) from ⟨rfl, by omega, by omega, by omega, by omega⟩)⟩
    by_cases q3 : a0 ≤ 8
    · exact ⟨3, by decide, (show Value.int .u8 a0 = Value.int .u8 (.ofNat 8) from congrArg (Value.int .u8) (show a0 = 8 by omega))⟩
    by_cases q4 : a0 ≤ 9
    · exact ⟨4, by decide, (show Value.int .u8 a0 = Value.int .u8 (.ofNat 9) from congrArg (Value.int .u8) (show a0 = 9 by omega))⟩
    by_cases q5 : a0 ≤ 10
    · exact ⟨5, by decide, (show Value.int .u8 a0 = Value.int .u8 (.ofNat 10) from congrArg (Value.int .u8) (show a0 = 10 by omega))⟩
    by_cases q6 : a0 ≤ 47
    · exact ⟨6, by decide, (show Value.int .u8 a0 = Value.int .u8 a0 ∧ (11 : Int) ≤ a0 ∧ a0 ≤ (47 : Int) ∧ (11 : Int) ≤ a0 ∧ a0 ≤ (47 : Int) from ⟨rfl, by omega, by omega, by omega, by omega⟩)⟩
    by_cases q7 : a0 ≤ 97
    · exact ⟨7, by decide, (show Value.int .u8 a0 = Value.int .u8 a0 ∧ (48 : Int) ≤ a0 ∧ a0 ≤ (97 : Int) ∧ (48 : Int) ≤ a0 ∧ a0 ≤ (97 : Int) from ⟨rfl, by omega, by omega, by omega, by omega⟩)⟩
    by_cases q8 : a0 ≤ 98
    · exact ⟨8, by decide, (show Value.int .u8 a0 = Value.int .u8 (.ofNat 98) from congrArg (Value.int .u8) (show a0 = 98 by omega))⟩
    by_cases q9 : a0 ≤ 99
    · exact ⟨9, by decide, (show Value.int .u8 a0 = Value.int .u8 (.ofNat 99) from congrArg (Value.int .u8) (show a0 = 99 by omega))⟩
    exact ⟨10, by decide, (show Value.int .u8 a0 = Value.int .u8 a0 ∧ (100 : Int) ≤ a0 ∧ a0 ≤ (255 : Int) ∧ (100 : Int) ≤ a0 ∧ a0 ≤ (255 : Int) from ⟨rfl, by omega, by omega, by omega, by omega⟩)⟩
  exact Go.Ev.calls_true mixed Go.Proofs.Le.lib_ok (fun _ _ h => h) (cases r0 a1 a2 h0) (args := #[.int .u8 a0, .bool a1, .bool a2]) (Go.Ev.VRs.cons e0 (Go.Ev.VRs.cons (show _ = _ from rfl) (Go.Ev.VRs.cons (show _ = _ from rfl) Go.Ev.VRs.nil))) W (Go.Proofs.Le.met W hG)
/-- What is listed. -/
def laidL : List (String × DataW Unit) := [("math/bits.deBruijn32tab", Rows.laid_math_bits_deBruijn32tab), ("math/bits.deBruijn64tab", Rows.laid_math_bits_deBruijn64tab), ("internal/strconv.uint64pow10", Rows.laid_internal_strconv_uint64pow10), ("unicode.White_Space", Rows.laid_unicode_White_Space), ("strings.asciiSpace", Rows.laid_strings_asciiSpace)]
theorem door_met (os : Os) (args : Array Value) : laidMetH Tryz.prog laidL ((World.doorLaid Tryz.prog 60 os).forCall (fun _ _ => 0) ⟨#[], args, []⟩).memory :=
  laidMetH_of_parts3 (fuel := 8) (laidMet_of_run' 8 (by kernel_rfl) (by kernel_rfl)) (by kernel_rfl) (by kernel_rfl)
set_option maxRecDepth 100000 in
theorem glob0 {W : World} (h : laidMetH Tryz.prog laidL W) : Go.Proofs.Le.Sps W := by
  rw [MakeChecks.laidMetH_plain _ _ _ (by kernel_rfl)] at h
  have h2 := (laidMet.tail (laidMet.tail (laidMet.tail (laidMet.tail (show laidMet Tryz.prog (("math/bits.deBruijn32tab", Rows.laid_math_bits_deBruijn32tab) :: ("math/bits.deBruijn64tab", Rows.laid_math_bits_deBruijn64tab) :: ("internal/strconv.uint64pow10", Rows.laid_internal_strconv_uint64pow10) :: ("unicode.White_Space", Rows.laid_unicode_White_Space) :: ("strings.asciiSpace", Rows.laid_strings_asciiSpace) :: []) W from h)))))
  exact Lib.tabIs_of_head (g := 0) (t := 272) (e := 5) (n := 256) (by kernel_rfl) (by kernel_rfl) Tryz.underlying272 Tryz.underlying5 (by kernel_rfl) (by kernel_rfl) (show laidMet Tryz.prog (("strings.asciiSpace", Lib.tabData .u8 Lib.asciiSpaceTab) :: []) W from h2)
set_option maxRecDepth 100000 in
theorem glob1 {W : World} (h : laidMetH Tryz.prog laidL W) : Go.Proofs.Le.Pow W := by
  rw [MakeChecks.laidMetH_plain _ _ _ (by kernel_rfl)] at h
  have h2 := (laidMet.tail (laidMet.tail (show laidMet Tryz.prog (("math/bits.deBruijn32tab", Rows.laid_math_bits_deBruijn32tab) :: ("math/bits.deBruijn64tab", Rows.laid_math_bits_deBruijn64tab) :: ("internal/strconv.uint64pow10", Rows.laid_internal_strconv_uint64pow10) :: ("unicode.White_Space", Rows.laid_unicode_White_Space) :: ("strings.asciiSpace", Rows.laid_strings_asciiSpace) :: []) W from h)))
  exact Lib.tabIs_of_head (g := 3) (t := 390) (e := 338) (n := 20) (by kernel_rfl) (by kernel_rfl) Tryz.underlying390 Tryz.underlying338 (by kernel_rfl) (by kernel_rfl) (show laidMet Tryz.prog (("internal/strconv.uint64pow10", Lib.tabData .u64 Lib.pow10Tab) :: ("unicode.White_Space", Rows.laid_unicode_White_Space) :: ("strings.asciiSpace", Rows.laid_strings_asciiSpace) :: []) W from h2)
theorem glob_of_laid {W : World} (h : laidMetH Tryz.prog laidL W) : Go.Proofs.Le.KnT W := ⟨glob0 h, glob1 h⟩
set_option maxRecDepth 100000 in
theorem lifted (os : Os) (started : os.Started) (H : Type) (enc : TypeId × Value → H) :
    ReturnsInHanded {} Tryz.checked os 3 .any (fun w args => (Rows.loopPromisesSpec.pre enc Tryz.prog Tryz.f3 Rows.loopPromisesRow.domain false w args ∧ laidMetH Tryz.prog laidL w) ∧ sizedMet enc Tryz.prog Tryz.f3 (OpenSpec.ofChange Rows.loopPromisesSpec) false w args)
      (Rows.loopPromisesSpec.post enc Tryz.prog Tryz.f3 false true false false) := by
  refine returnsInHanded_of_calls (C := Tryz.checked) own started (by kernel_rfl)
    (ChangeSpec.witness_shaped (enc := enc) (C := Tryz.checked) (os := os) (X := fun w _ => laidMetH Tryz.prog laidL w) false (World.doorLaid Tryz.prog 60 os) #[.int .u8 0, .bool false, .bool false] 8 rfl (World.shaped_of_RefB (by kernel_rfl) (by kernel_rfl)) (by kernel_rfl) (by kernel_rfl) (by kernel_rfl) (door_met os _)) ?_
  intro w tape i _ hsh _ hok hpre _
  obtain ⟨_, _, _, fn, hfn, _, _, _, _, hval0⟩ := hok
  obtain rfl : fn = Tryz.f3 := Option.some.inj (hfn.symm.trans Tryz.func3)
  obtain ⟨⟨⟨ds, gs, before, hW0, _⟩, hL0⟩, hsz0⟩ := hpre
  have hW := DataW.Whole.of_heap (w' := w.forCall tape i) (by rfl) hW0
  have hL : laidMetH Tryz.prog laidL (w.forCall tape i) := hL0.of_heap (by rfl)
  have hG := And.intro (glob_of_laid hL) (Tryz.laysM144.s1_3 _ hsh)
  generalize hbase : w.heap.size = base at hval0
  generalize hWd : w.forCall tape i = W at hval0 hW hL hG ⊢
  obtain ⟨args, hargs0⟩ : ∃ args, args = i.args := ⟨_, rfl⟩
  rw [← hargs0] at hval0 hW ⊢
  have hval : ∀ (j : Nat) t v, Tryz.f3.params[j]? = some t → args[j]? = some v → Value.okWide Tryz.prog W .any base t v := hval0
  have hW' := hW
  obtain ⟨p, q, hA0, hV, rfl, hfz, hnd⟩ := hW
  have hA : DataW.TrodAll enc Tryz.prog W 0 (fun _ => true) true Tryz.f3.params.toList args.toList ds p := hA0
  rw [Tryz.params3] at hA hval
  obtain ⟨v0, vs0, d0, ds0, p0, q0, hargs, rfl, rfl, h0, r0⟩ := trodAll_cons hA
  obtain ⟨v1, vs1, d1, ds1, p1, q1, rfl, rfl, rfl, h1, r1⟩ := trodAll_cons r0
  obtain ⟨v2, vs2, d2, ds2, p2, q2, rfl, rfl, rfl, h2, r2⟩ := trodAll_cons r1
  obtain ⟨rfl, rfl, rfl⟩ := trodAll_nil r2
  obtain rfl : args = #[v0, v1, v2] := by cases args; simp_all
  obtain ⟨rfl, rfl⟩ := trodVars_none hV
  obtain ⟨a0, rfl, rfl, rfl, w0⟩ := open_int Tryz.underlying5 (hval 0 5 v0 rfl rfl) h0
  obtain ⟨a1, rfl, rfl, rfl⟩ := open_bool Tryz.underlying4 (hval 1 4 v1 rfl rfl) h1
  obtain ⟨a2, rfl, rfl, rfl⟩ := open_bool Tryz.underlying4 (hval 2 4 v2 rfl rfl) h2
  refine (walk a0 a1 a2 W w0 hG).mono fun e W' ⟨he, bel⟩ => ?_
  subst he
  exact ChangeSpec.post_blind ⟨_, _, _, [], _, [], hW', trodAll_mk1 (shut_bool Tryz.underlying4 _), (trodAll_cons_mk (shut_int Tryz.underlying5 w0) (trodAll_cons_mk (shut_bool Tryz.underlying4 _) (trodAll_cons_mk (shut_bool Tryz.underlying4 _) trodAll_mk0))), rfl, bel.frame _, fun h => by cases h⟩
theorem jand {a b : Bool} (ha : a = true) (hb : b = true) : (a && b) = true := by rw [ha, hb]; rfl
theorem closed : joinedFacts Tryz.prog 3 Tryz.f3 Rows.loopPromisesSpec Rows.loopPromisesRow = true := by
  unfold joinedFacts
  refine jand (jand (jand (jand (jand (jand (jand (jand (jand (jand (jand (jand (jand (jand (jand (jand (jand (jand (jand (jand (jand (jand (jand (jand (jand (jand (jand (jand (jand (jand (jand (?_) j2) j3) ?_) ?_) ?_) j7) ?_) j9) j10) j11) j12) j13) ?_) ?_) ?_) ?_) ?_) ?_) ?_) ?_) ?_) j23) ?_) j25) j26) j27) j28) ?_) ?_) ?_) ?_
  all_goals kernel_rfl
theorem over : Rows.loopPromisesRow.holds Tryz.pinned (OpenSpec.ofChange Rows.loopPromisesSpec) :=
  OpenClaim.holds_of_wide 3 Tryz.f3 rfl rfl rfl rfl rfl rfl rfl ⟨rfl, rfl, rfl, rfl, rfl⟩ rfl rfl rfl rfl rfl (by kernel_rfl) Tryz.func3 closed
    (of_decide_eq_true (by kernel_rfl)) (by unfold Func.isWrapper; first | (rw [if_pos (by decide +kernel)]; kernel_rfl) | (rw [if_neg (by decide +kernel)]; exact ⟨rfl, rfl⟩))
    (fun os started H enc _ => lifted os started H enc)
theorem goes_none {P : Program} (h : P.funcs.toList.any Func.goes = false) (c : OpenClaim) : false = c.goesBy P := by
  have hg : ∀ g : FuncId, (P.funcs[g]?).any Func.goes = false := fun g => by
    cases hf : P.funcs[g]? with
    | none => rfl
    | some fn =>
      have hm : fn ∈ P.funcs.toList := Array.mem_toList_iff.2 (Array.mem_of_getElem? hf)
      have := List.any_eq_false.1 h fn hm
      simpa using this
  have hf : ∀ f, P.goes f = false := fun f => by
    unfold Program.goes
    have h2 : P.funcs.any Func.goes = false := by rw [← Array.any_toList]; exact h
    rw [h2]
    simp [hg]
  unfold OpenClaim.goesBy Program.goesAt Program.goesFrom
  have h3 : (P.funcNamed c.func).any P.goes = false := by cases P.funcNamed c.func <;> simp [hf]
  rw [h3]
  split <;> simp [hf]
theorem goes_all : Tryz.prog.funcs.toList.any Func.goes = false := by kernel_rfl
theorem card_g : false = Rows.loopPromisesRow.goesBy Tryz.prog := goes_none goes_all _
theorem card : Rows.LoopPromisesCardSaid :=
  Claim7.holds_tied_plain_at .later [] [.data, .data, .data, .listed, .data] true (true, "bd4b921bb951b8af390aec37d03cb42c3edb4e775ac681dc04882b6dd9cfb0c1") true
    over (fun _ h => by cases h) card_w (fun _ h => by cases h) loopPromises_row_tie rfl ⟨rfl, rfl⟩ card_m rfl
    (fun f fn hf hfn => by
      obtain rfl : f = 3 := Option.some.inj (card_n.symm.trans hf) |>.symm
      obtain rfl : fn = Tryz.f3 := (Option.some.inj (Tryz.func3.symm.trans hfn)).symm
      exact ⟨card_l, fun j t ht => by
        rw [Tryz.params3] at ht
        have hm : t ∈ [5, 4, 4] := by simpa using Array.mem_of_getElem? ht
        exact (show Tryz.prog.wantsStandIn t = false by simpa using List.all_eq_true.1 card_s t hm)⟩)
    card_g
theorem proved : Rows.LoopPromisesCardSaid := card
end Go.Proofs.YtanjjmgoangmdaaGreatDoor.loopPromises
namespace Go.Proofs.YtanjjmgoangmdaaGreatDoor
/-- The statement, under a short name, for the claim. -/
theorem loopPromises_holds : Rows.LoopPromisesCardSaid := loopPromises.proved
end Go.Proofs.YtanjjmgoangmdaaGreatDoor
