/- The statement of ValueKinds is proved: the law returns true for all arguments, as the evaluator tells of values known in part. Conditions: none but the statement's own. -/
import Derived.Test.YtfijbgpegfnlbaaDoorRows
import Derived.Test.YtfijbgpegfnlbaaDoorVaBase
import Derived.Test.YtfijbgpegfnlbaaDoorVaL5
import Derived.Test.YtfijbgpegfnlbaaDoorCards
import Derived.Test.YtfijbgpegfnlbaaDoorTie
import Derived.WalkKit
import Derived.ProofKit
import Derived.OpenShut
import Derived.ShutString
import Derived.ChangeOld
import Derived.Below
import Derived.SizedLaws
import Derived.Lib.SmallJoins
import Derived.LaidMore
import Derived.Stop.LaidErr
import Derived.Lib.LaidTab
import Derived.Stop.Joined
import Derived.SevenTiedAt
namespace Go.Proofs.YtfijbgpegfnlbaaDoor.valueKinds
open Go.ChangeShapes Go.WideShapes Go.ChangeAt Go.RowKit
open Go.ChangeMaps (open_string shut_string)
open Go.Joins (open_agg2 open_agg3 open_agg4 shut_agg2 shut_agg3 shut_agg4)
set_option linter.unusedVariables false
theorem own : ownKnob Tryd.prog.godebug = none := by kernel_rfl
section
open Go.Ev Go.Proofs.Va
theorem z17 {k n : Int} {s : ByteArray} {h : H} (hc : mayP k n s = true) : k23 17 [.agg [.int .i64 k, .int .i64 n, .str s]] h = .ret (.str (textP k n s)) h := if_pos hc
theorem z19 {k n : Int} {s : ByteArray} {c : Int} {h : H} (hc : mayP k n s = true) : k23 19 [.agg [.int .i64 k, .int .i64 n, .str s], .int .i64 c] h = .ret (.str (typeP k c)) h := if_pos hc
theorem z22 {n : Int} {h : H} (hc : in64 n) : k23 22 [.int .i64 n] h = .ret (.str (itoaS n)) h := if_pos hc
theorem walk (a0 : Int) (a1 : ByteArray) (w0 : (Lit.int .i32 a0).wf = true) (W : World) (hG : Pow W) : Calls Tryd.prog 5 #[.int .i32 a0, .string a1] W (fun e W' => e = .returned (.bool true) ∧ Below W.heap.size W W') :=
  calls_says (FL := F5) (lookF_ok (by simp only [List.forall_mem_cons]; exact ⟨c5_ok, fun _ h => by cases h⟩)) (L5w a0 a1 w0 (fun _ _ _ _ => rfl) (fun _ _ _ _ => rfl) (fun _ _ _ hc _ => z17 hc) (fun _ _ _ _ hc _ => z19 hc) (fun _ _ _ _ _ _ _ => rfl) (fun _ hc _ => z22 hc) (fun _ => rfl)) (args := #[.int .i32 a0, .string a1]) (Go.Ev.VRs.cons (show _ = _ from rfl) (Go.Ev.VRs.cons (show _ = _ from rfl) Go.Ev.VRs.nil)) W hG
end
/-- What is listed. -/
def laidL : List (String × DataW Unit) := [("math/bits.deBruijn32tab", Rows.laid_math_bits_deBruijn32tab), ("math/bits.deBruijn64tab", Rows.laid_math_bits_deBruijn64tab), ("internal/strconv.uint64pow10", Rows.laid_internal_strconv_uint64pow10)]
theorem door_met (os : Os) (args : Array Value) : laidMetH Tryd.prog laidL ((World.doorLaid Tryd.prog 24 os).forCall (fun _ _ => 0) ⟨#[], args, []⟩).memory :=
  laidMetH_of_parts3 (fuel := 8) (laidMet_of_run' 8 (by kernel_rfl) (by kernel_rfl)) (by kernel_rfl) (by kernel_rfl)
theorem glob_of_laid {W : World} (h : laidMetH Tryd.prog laidL W) : Go.Proofs.Va.Pow W := by
  rw [MakeChecks.laidMetH_plain _ _ _ (by kernel_rfl)] at h
  have h2 := (laidMet.tail (laidMet.tail (show laidMet Tryd.prog (("math/bits.deBruijn32tab", Rows.laid_math_bits_deBruijn32tab) :: ("math/bits.deBruijn64tab", Rows.laid_math_bits_deBruijn64tab) :: ("internal/strconv.uint64pow10", Rows.laid_internal_strconv_uint64pow10) :: []) W from h)))
  exact Lib.tabIs_of_head (g := 0) (t := 75) (e := 68) (n := 20) (by kernel_rfl) (by kernel_rfl) Tryd.underlying75 Tryd.underlying68 (by kernel_rfl) (by kernel_rfl) (show laidMet Tryd.prog (("internal/strconv.uint64pow10", Lib.tabData .u64 Lib.pow10Tab) :: []) W from h2)
set_option maxRecDepth 100000 in
theorem lifted (os : Os) (started : os.Started) (H : Type) (enc : TypeId × Value → H) :
    ReturnsInHanded {} Tryd.checked os 5 .any (fun w args => (Rows.valueKindsSpec.pre enc Tryd.prog Tryd.f5 Rows.valueKindsRow.domain false w args ∧ laidMetH Tryd.prog laidL w) ∧ sizedMet enc Tryd.prog Tryd.f5 (OpenSpec.ofChange Rows.valueKindsSpec) false w args)
      (Rows.valueKindsSpec.post enc Tryd.prog Tryd.f5 false true false false) := by
  refine returnsInHanded_of_change_and (C := Tryd.checked) (X := fun w _ => laidMetH Tryd.prog laidL w) (fun _ _ _ hh h => h.of_heap hh) own started (by kernel_rfl) Tryd.func5
    (ChangeSpec.witness_shaped (enc := enc) (C := Tryd.checked) (os := os) (X := fun w _ => laidMetH Tryd.prog laidL w) false (World.doorLaid Tryd.prog 24 os) #[.int .i32 0, .string ByteArray.empty] 8 rfl (World.shaped_of_RefB (by kernel_rfl) (by kernel_rfl)) (by kernel_rfl) (by kernel_rfl) (by kernel_rfl) (door_met os _)) ?_
  intro W base args ds gs before hval0 hW _ hsz0 hL _
  have hG := glob_of_laid hL
  have hval : ∀ (j : Nat) t v, Tryd.f5.params[j]? = some t → args[j]? = some v → Value.okWide Tryd.prog W .any base t v := hval0
  have hW' := hW
  obtain ⟨p, q, hA0, hV, rfl, hfz, hnd⟩ := hW
  have hA : DataW.TrodAll enc Tryd.prog W 0 (fun _ => true) true Tryd.f5.params.toList args.toList ds p := hA0
  rw [Tryd.params5] at hA hval
  obtain ⟨v0, vs0, d0, ds0, p0, q0, hargs, rfl, rfl, h0, r0⟩ := trodAll_cons hA
  obtain ⟨v1, vs1, d1, ds1, p1, q1, rfl, rfl, rfl, h1, r1⟩ := trodAll_cons r0
  obtain ⟨rfl, rfl, rfl⟩ := trodAll_nil r1
  obtain rfl : args = #[v0, v1] := by cases args; simp_all
  obtain ⟨rfl, rfl⟩ := trodVars_none hV
  obtain ⟨a0, rfl, rfl, rfl, w0⟩ := open_int Tryd.underlying21 (hval 0 21 v0 rfl rfl) h0
  obtain ⟨a1, rfl, rfl, rfl, y1⟩ := open_string Tryd.underlying9 (hval 1 9 v1 rfl rfl) h1
  clear hA0 hval0 hsz0
  refine (walk a0 a1 w0 W hG).mono fun e W' ⟨he, bel⟩ => ?_
  subst he
  exact ⟨_, rfl, _, _, _, [], _, [], hW', trodAll_mk1 (shut_bool Tryd.underlying4 _), (trodAll_cons_mk (shut_int Tryd.underlying21 w0) (trodAll_cons_mk (shut_string Tryd.underlying9 y1) trodAll_mk0)), rfl, bel.frame _, fun h => by cases h⟩
theorem over : Rows.valueKindsRow.holds Tryd.pinned (OpenSpec.ofChange Rows.valueKindsSpec) :=
  OpenClaim.holds_of_wide 5 Tryd.f5 rfl rfl rfl rfl rfl rfl rfl ⟨rfl, rfl, rfl, rfl, rfl⟩ rfl rfl rfl rfl rfl (by kernel_rfl) Tryd.func5 (by kernel_rfl)
    (of_decide_eq_true (by kernel_rfl)) (by unfold Func.isWrapper; first | (rw [if_pos (by decide +kernel)]; kernel_rfl) | (rw [if_neg (by decide +kernel)]; exact ⟨rfl, rfl⟩))
    (fun os started H enc _ => lifted os started H enc)
theorem card : Rows.ValueKindsCardSaid :=
  Claim7.holds_tied_plain_at .later [] [.data, .data, .data] true (true, "b557755df34b325082a65fcabd2958195cdd641aec3c3af73290d20163be4633") false
    over (fun _ h => by cases h) (by kernel_rfl) (fun _ h => by cases h) valueKinds_row_tie rfl ⟨rfl, rfl⟩ (by kernel_rfl) rfl
    (fun f fn hf hfn => by
      obtain rfl : f = 5 := Option.some.inj ((show Tryd.prog.funcNamed "boomerang/boomeranglaw13.ValueKinds" = some 5 by kernel_rfl).symm.trans hf) |>.symm
      obtain rfl : fn = Tryd.f5 := (Option.some.inj (Tryd.func5.symm.trans hfn)).symm
      exact ⟨by kernel_rfl, fun j t ht => by
        rw [Tryd.params5] at ht
        have hm : t ∈ [21, 9] := by simpa using Array.mem_of_getElem? ht
        have hall : ([21, 9].all fun u => !Tryd.prog.wantsStandIn u) = true := by kernel_rfl
        exact (show Tryd.prog.wantsStandIn t = false by simpa using List.all_eq_true.1 hall t hm)⟩)
    (by kernel_rfl)
theorem proved : Rows.ValueKindsCardSaid := card
end Go.Proofs.YtfijbgpegfnlbaaDoor.valueKinds
namespace Go.Proofs.YtfijbgpegfnlbaaDoor
/-- The statement, under a short name, for the claim. -/
theorem valueKinds_holds : Rows.ValueKindsCardSaid := valueKinds.proved
end Go.Proofs.YtfijbgpegfnlbaaDoor
