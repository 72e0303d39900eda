/- The statement of PrintTwice is proved: the law returns true for all arguments, by the evaluator's cases. Conditions: none but the statement's own. -/
import Derived.Test.YtoedfhnphnpbdaaGreatDoorFjPrintTwice
import Derived.Test.YtoedfhnphnpbdaaGreatDoorFkPrintTwice
import Derived.Test.YtoedfhnphnpbdaaGreatDoorRows
import Derived.Test.YtoedfhnphnpbdaaGreatDoorEvPrintTwicex0
import Derived.Test.YtoedfhnphnpbdaaGreatDoorEvPrintTwicex1
import Derived.Test.YtoedfhnphnpbdaaGreatDoorEvPrintTwicex2
import Derived.Test.YtoedfhnphnpbdaaGreatDoorEvPrintTwicex3
import Derived.Test.YtoedfhnphnpbdaaGreatDoorEvPrintTwicex4
import Derived.Test.YtoedfhnphnpbdaaGreatDoorEvPrintTwicex5
import Derived.Test.YtoedfhnphnpbdaaGreatDoorCards
import Derived.Test.YtoedfhnphnpbdaaGreatDoorTie
import Derived.WalkKit
import Derived.ProofKit
import Derived.OpenShut
import Derived.ShutString
import Derived.ChangeOld
import Derived.Below
import Derived.SizedLaws
import Derived.Lib.SmallJoins
import Derived.LaidMore
import Derived.Stop.LaidErr
import Derived.Lib.LaidTab
import Derived.Stop.Joined
import Derived.SevenTiedAt
namespace Go.Proofs.YtoedfhnphnpbdaaGreatDoor.printTwice
open Go.ChangeShapes Go.WideShapes Go.ChangeAt Go.RowKit
set_option linter.unusedVariables false
theorem own : ownKnob Tryz.prog.godebug = none := by kernel_rfl
theorem mixed : Tryz.prog.follows .mixedOrders = true := by kernel_rfl
def sv1 : Nat → Go.Ev.AV
  | 0 => .int .u16 (.ofNat 0)
  | 1 => .sym .u16 (.ofNat 1) (.ofNat 9) (.var 1 (.ofNat 1) (.ofNat 9))
  | 2 => .sym .u16 (.ofNat 10) (.ofNat 99) (.var 1 (.ofNat 10) (.ofNat 99))
  | 3 => .sym .u16 (.ofNat 100) (.ofNat 999) (.var 1 (.ofNat 100) (.ofNat 999))
  | 4 => .sym .u16 (.ofNat 1000) (.ofNat 9999) (.var 1 (.ofNat 1000) (.ofNat 9999))
  | 5 => .sym .u16 (.ofNat 10000) (.ofNat 65535) (.var 1 (.ofNat 10000) (.ofNat 65535))
  | _ => .nilp
theorem cases : ∀ (r0 : Nat) (r1 : Nat), r0 < 6 → r1 < 6 → Go.Ev.saysTrue (Go.Ev.ev Go.Proofs.Pr.lib (Go.Ev.compF Tryz.prog) 3000 150 4 [.res .u8 6 r0, sv1 r1] Go.Ev.H.empty) = true
  | 0, 0, _, _ => c_0_0
  | 0, 1, _, _ => c_0_1
  | 0, 2, _, _ => c_0_2
  | 0, 3, _, _ => c_0_3
  | 0, 4, _, _ => c_0_4
  | 0, 5, _, _ => c_0_5
  | 1, 0, _, _ => c_1_0
  | 1, 1, _, _ => c_1_1
  | 1, 2, _, _ => c_1_2
  | 1, 3, _, _ => c_1_3
  | 1, 4, _, _ => c_1_4
  | 1, 5, _, _ => c_1_5
  | 2, 0, _, _ => c_2_0
  | 2, 1, _, _ => c_2_1
  | 2, 2, _, _ => c_2_2
  | 2, 3, _, _ => c_2_3
  | 2, 4, _, _ => c_2_4
  | 2, 5, _, _ => c_2_5
  | 3, 0, _, _ => c_3_0
  | 3, 1, _, _ => c_3_1
  | 3, 2, _, _ => c_3_2
  | 3, 3, _, _ => c_3_3
  | 3, 4, _, _ => c_3_4
  | 3, 5, _, _ => c_3_5
  | 4, 0, _, _ => c_4_0
  | 4, 1, _, _ => c_4_1
  | 4, 2, _, _ => c_4_2
  | 4, 3, _, _ => c_4_3
  | 4, 4, _, _ => c_4_4
  | 4, 5, _, _ => c_4_5
  | 5, 0, _, _ => c_5_0
  | 5, 1, _, _ => c_5_1
  | 5, 2, _, _ => c_5_2
  | 5, 3, _, _ => c_5_3
  | 5, 4, _, _ => c_5_4
  | 5, 5, _, _ => c_5_5
  | (_ + 6), _, h, _ => absurd h (by omega)
  | _, (_ + 6), _, h => absurd h (by omega)
theorem walk (a0 : Int) (a1 : Int) (W : World) (w0 : (Lit.int .u8 a0).wf = true) (w1 : (Lit.int .u16 a1).wf = true) (hG : Go.Proofs.Pr.Kn W) : Calls Tryz.prog 4 #[.int .u8 a0, .int .u16 a1] W (fun e W' => e = .returned (.bool true) ∧ Below W.heap.size W W') := by
  letI : Go.Ev.Unk := ⟨fun i => match i with | 1 => a1 | _ => 0⟩
  obtain ⟨r0, h0, e0⟩ := Go.Ev.res_of w0 (m := 6) (by decide)
  have b1 : 0 ≤ a1 ∧ a1 ≤ 65535 := by simp [Lit.wf, IntKind.min, IntKind.max, IntKind.bits, IntKind.signed] at w1; omega
  obtain ⟨r1, h1, e1⟩ : ∃ r, r < 6 ∧ Go.Ev.VR (fun _ => none) (sv1 r) (.int .u16 a1) := by
    by_cases q0 : a1 ≤ 0
    · exact ⟨0, by decide, (show Value.int .u16 a1 = Value.int .u16 (.ofNat 0) from congrArg (Value.int .u16) (show a1 = 0 by omega))⟩
    by_cases q1 : a1 ≤ 9
    · exact ⟨1, by decide, (show Value.int .u16 a1 = Value.int .u16 a1 ∧ (1 : Int) ≤ a1 ∧ a1 ≤ (9 : Int) ∧ (1 : Int) ≤ a1 ∧ a1 ≤ (9 : Int) from ⟨rfl, by omega, by omega, by omega, by omega⟩)⟩
    by_cases q2 : a1 ≤ 99
    · exact ⟨2, by decide, (show Value.int .u16 a1 = Value.int .u16 a1 ∧ (10 : Int) ≤ a1 ∧ a1 ≤ (99 : Int) ∧ (10 : Int) ≤ a1 ∧ a1 ≤ (99 : Int) from ⟨rfl, by omega, by omega, by omega, by omega⟩)⟩
    by_cases q3 : a1 ≤ 999
    · exact ⟨3, by decide, (show Value.int .u16 a1 = Value.int .u16 a1 ∧ (100 : Int) ≤ a1 ∧ a1 ≤ (999 : Int) ∧ (100 : Int) ≤ a1 ∧ a1 ≤ (999 : Int) from ⟨rfl, by omega, by omega, by omega, by omega⟩)⟩
    by_cases q4 : a1 ≤ 9999
    · exact ⟨4, by decide, (show Value.int .u16 a1 = Value.int .u16 a1 ∧ (1000 : Int) ≤ a1 ∧ a1 ≤ (9999 : Int) ∧ (1000 : Int) ≤ a1 ∧ a1 ≤ (9999 : Int) from ⟨rfl, by omega, by omega, by omega, by omega⟩)⟩
    exact ⟨5, by decide, (show Value.int .u16 a1 = Value.int .u16 a1 ∧ (10000 : Int) ≤ a1 ∧ a1 ≤ (65535 : Int) ∧ (10000 : Int) ≤ a1 ∧ a1 ≤ (65535 : Int) from ⟨rfl, by omega, by omega, by omega, by omega⟩)⟩
  exact Go.Ev.calls_true mixed Go.Proofs.Pr.lib_ok (fun _ _ h => h) (cases r0 r1 h0 h1) (args := #[.int .u8 a0, .int .u16 a1]) (Go.Ev.VRs.cons e0 (Go.Ev.VRs.cons e1 Go.Ev.VRs.nil)) W (Go.Proofs.Pr.met W hG)
/-- What is listed. -/
def laidL : List (String × DataW Unit) := [("math/bits.deBruijn32tab", Rows.laid_math_bits_deBruijn32tab), ("math/bits.deBruijn64tab", Rows.laid_math_bits_deBruijn64tab), ("internal/strconv.uint64pow10", Rows.laid_internal_strconv_uint64pow10)]
theorem door_met (os : Os) (args : Array Value) : laidMetH Tryz.prog laidL ((World.doorLaid Tryz.prog 60 os).forCall (fun _ _ => 0) ⟨#[], args, []⟩).memory :=
  laidMetH_of_parts3 (fuel := 8) (laidMet_of_run' 8 (by kernel_rfl) (by kernel_rfl)) (by kernel_rfl) (by kernel_rfl)
set_option maxRecDepth 100000 in
theorem glob0 {W : World} (h : laidMetH Tryz.prog laidL W) : Go.Proofs.Pr.Pow W := by
  rw [MakeChecks.laidMetH_plain _ _ _ (by kernel_rfl)] at h
  have h2 := (laidMet.tail (laidMet.tail (show laidMet Tryz.prog (("math/bits.deBruijn32tab", Rows.laid_math_bits_deBruijn32tab) :: ("math/bits.deBruijn64tab", Rows.laid_math_bits_deBruijn64tab) :: ("internal/strconv.uint64pow10", Rows.laid_internal_strconv_uint64pow10) :: []) W from h)))
  exact Lib.tabIs_of_head (g := 0) (t := 141) (e := 120) (n := 20) (by kernel_rfl) (by kernel_rfl) Tryz.underlying141 Tryz.underlying120 (by kernel_rfl) (by kernel_rfl) (show laidMet Tryz.prog (("internal/strconv.uint64pow10", Lib.tabData .u64 Lib.pow10Tab) :: []) W from h2)
theorem glob_of_laid {W : World} (h : laidMetH Tryz.prog laidL W) : Go.Proofs.Pr.KnT W := glob0 h
set_option maxRecDepth 100000 in
theorem lifted (os : Os) (started : os.Started) (H : Type) (enc : TypeId × Value → H) :
    ReturnsInHanded {} Tryz.checked os 4 .any (fun w args => (Rows.printTwiceSpec.pre enc Tryz.prog Tryz.f4 Rows.printTwiceRow.domain false w args ∧ laidMetH Tryz.prog laidL w) ∧ sizedMet enc Tryz.prog Tryz.f4 (OpenSpec.ofChange Rows.printTwiceSpec) false w args)
      (Rows.printTwiceSpec.post enc Tryz.prog Tryz.f4 false true false false) := by
  refine returnsInHanded_of_change_and (C := Tryz.checked) (X := fun w _ => laidMetH Tryz.prog laidL w) (fun _ _ _ hh h => h.of_heap hh) own started (by kernel_rfl) Tryz.func4
    (ChangeSpec.witness_shaped (enc := enc) (C := Tryz.checked) (os := os) (X := fun w _ => laidMetH Tryz.prog laidL w) false (World.doorLaid Tryz.prog 60 os) #[.int .u8 0, .int .u16 0] 8 rfl (World.shaped_of_RefB (by kernel_rfl) (by kernel_rfl)) (by kernel_rfl) (by kernel_rfl) (by kernel_rfl) (door_met os _)) ?_
  intro W base args ds gs before hval0 hW _ hsz0 hL _
  have hG := glob_of_laid hL
  have hval : ∀ (j : Nat) t v, Tryz.f4.params[j]? = some t → args[j]? = some v → Value.okWide Tryz.prog W .any base t v := hval0
  have hW' := hW
  obtain ⟨p, q, hA0, hV, rfl, hfz, hnd⟩ := hW
  have hA : DataW.TrodAll enc Tryz.prog W 0 (fun _ => true) true Tryz.f4.params.toList args.toList ds p := hA0
  rw [Tryz.params4] at hA hval
  obtain ⟨v0, vs0, d0, ds0, p0, q0, hargs, rfl, rfl, h0, r0⟩ := trodAll_cons hA
  obtain ⟨v1, vs1, d1, ds1, p1, q1, rfl, rfl, rfl, h1, r1⟩ := trodAll_cons r0
  obtain ⟨rfl, rfl, rfl⟩ := trodAll_nil r1
  obtain rfl : args = #[v0, v1] := by cases args; simp_all
  obtain ⟨rfl, rfl⟩ := trodVars_none hV
  obtain ⟨a0, rfl, rfl, rfl, w0⟩ := open_int Tryz.underlying5 (hval 0 5 v0 rfl rfl) h0
  obtain ⟨a1, rfl, rfl, rfl, w1⟩ := open_int Tryz.underlying30 (hval 1 30 v1 rfl rfl) h1
  refine (walk a0 a1 W w0 w1 hG).mono fun e W' ⟨he, bel⟩ => ?_
  subst he
  exact ⟨_, rfl, _, _, _, [], _, [], hW', trodAll_mk1 (shut_bool Tryz.underlying4 _), (trodAll_cons_mk (shut_int Tryz.underlying5 w0) (trodAll_cons_mk (shut_int Tryz.underlying30 w1) trodAll_mk0)), rfl, bel.frame _, fun h => by cases h⟩
theorem jand {a b : Bool} (ha : a = true) (hb : b = true) : (a && b) = true := by rw [ha, hb]; rfl
theorem closed : joinedFacts Tryz.prog 4 Tryz.f4 Rows.printTwiceSpec Rows.printTwiceRow = true := by
  unfold joinedFacts
  refine jand (jand (jand (jand (jand (jand (jand (jand (jand (jand (jand (jand (jand (jand (jand (jand (jand (jand (jand (jand (jand (jand (jand (jand (jand (jand (jand (jand (jand (jand (jand (?_) j2) j3) ?_) ?_) ?_) j7) ?_) j9) j10) j11) j12) j13) ?_) ?_) ?_) ?_) ?_) ?_) ?_) ?_) ?_) j23) ?_) j25) j26) j27) j28) ?_) ?_) ?_) ?_
  all_goals kernel_rfl
theorem over : Rows.printTwiceRow.holds Tryz.pinned (OpenSpec.ofChange Rows.printTwiceSpec) :=
  OpenClaim.holds_of_wide 4 Tryz.f4 rfl rfl rfl rfl rfl rfl rfl ⟨rfl, rfl, rfl, rfl, rfl⟩ rfl rfl rfl rfl rfl (by kernel_rfl) Tryz.func4 closed
    (of_decide_eq_true (by kernel_rfl)) (by unfold Func.isWrapper; first | (rw [if_pos (by decide +kernel)]; kernel_rfl) | (rw [if_neg (by decide +kernel)]; exact ⟨rfl, rfl⟩))
    (fun os started H enc _ => lifted os started H enc)
theorem goes_none {P : Program} (h : P.funcs.toList.any Func.goes = false) (c : OpenClaim) : false = c.goesBy P := by
  have hg : ∀ g : FuncId, (P.funcs[g]?).any Func.goes = false := fun g => by
    cases hf : P.funcs[g]? with
    | none => rfl
    | some fn =>
      have hm : fn ∈ P.funcs.toList := Array.mem_toList_iff.2 (Array.mem_of_getElem? hf)
      have := List.any_eq_false.1 h fn hm
      simpa using this
  have hf : ∀ f, P.goes f = false := fun f => by
    unfold Program.goes
    have h2 : P.funcs.any Func.goes = false := by rw [← Array.any_toList]; exact h
    rw [h2]
    simp [hg]
  unfold OpenClaim.goesBy Program.goesAt Program.goesFrom
  have h3 : (P.funcNamed c.func).any P.goes = false := by cases P.funcNamed c.func <;> simp [hf]
  rw [h3]
  split <;> simp [hf]
theorem goes_all : Tryz.prog.funcs.toList.any Func.goes = false := by kernel_rfl
theorem card_g : false = Rows.printTwiceRow.goesBy Tryz.prog := goes_none goes_all _
theorem card : Rows.PrintTwiceCardSaid :=
  Claim7.holds_tied_plain_at .later [] [.data, .data, .data] true (true, "6c1c4ed2e63d374dcb3a2a32792e4210f47cc9fe6ef93ed95d91eb0b521a316f") true
    over (fun _ h => by cases h) card_w (fun _ h => by cases h) printTwice_row_tie rfl ⟨rfl, rfl⟩ card_m rfl
    (fun f fn hf hfn => by
      obtain rfl : f = 4 := Option.some.inj (card_n.symm.trans hf) |>.symm
      obtain rfl : fn = Tryz.f4 := (Option.some.inj (Tryz.func4.symm.trans hfn)).symm
      exact ⟨card_l, fun j t ht => by
        rw [Tryz.params4] at ht
        have hm : t ∈ [5, 30] := by simpa using Array.mem_of_getElem? ht
        exact (show Tryz.prog.wantsStandIn t = false by simpa using List.all_eq_true.1 card_s t hm)⟩)
    card_g
theorem proved : Rows.PrintTwiceCardSaid := card
end Go.Proofs.YtoedfhnphnpbdaaGreatDoor.printTwice
namespace Go.Proofs.YtoedfhnphnpbdaaGreatDoor
/-- The statement, under a short name, for the claim. -/
theorem printTwice_holds : Rows.PrintTwiceCardSaid := printTwice.proved
end Go.Proofs.YtoedfhnphnpbdaaGreatDoor
