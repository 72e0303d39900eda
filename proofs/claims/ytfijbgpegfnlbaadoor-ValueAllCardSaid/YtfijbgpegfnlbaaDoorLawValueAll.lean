/- The statement of ValueAll is proved: the law returns true for all arguments, as the evaluator tells of values known in part. Conditions: none but the statement's own. -/
import Derived.Test.YtfijbgpegfnlbaaDoorRows
import Derived.Test.YtfijbgpegfnlbaaDoorVaBase
import Derived.Test.YtfijbgpegfnlbaaDoorVaL4
import Derived.Test.YtfijbgpegfnlbaaDoorCards
import Derived.Test.YtfijbgpegfnlbaaDoorTie
import Derived.WalkKit
import Derived.ProofKit
import Derived.OpenShut
import Derived.ShutString
import Derived.ChangeOld
import Derived.Below
import Derived.SizedLaws
import Derived.Lib.SmallJoins
import Derived.LaidMore
import Derived.Stop.LaidErr
import Derived.Lib.LaidTab
import Derived.Stop.Joined
import Derived.SevenTiedAt
namespace Go.Proofs.YtfijbgpegfnlbaaDoor.valueAll
open Go.ChangeShapes Go.WideShapes Go.ChangeAt Go.RowKit
open Go.ChangeMaps (open_string shut_string)
open Go.Joins (open_agg2 open_agg3 open_agg4 shut_agg2 shut_agg3 shut_agg4)
set_option linter.unusedVariables false
theorem own : ownKnob Tryd.prog.godebug = none := by kernel_rfl
section
open Go.Ev Go.Proofs.Va
theorem z17 {k n : Int} {s : ByteArray} {h : H} (hc : mayP k n s = true) : k23 17 [.agg [.int .i64 k, .int .i64 n, .str s]] h = .ret (.str (textP k n s)) h := if_pos hc
theorem z18 {k n : Int} {s : ByteArray} {h : H} (hc : mayP k n s = true) : k23 18 [.agg [.int .i64 k, .int .i64 n, .str s]] h = .ret (.str (textP k n s)) h := if_pos hc
theorem z19 {k n : Int} {s : ByteArray} {c : Int} {h : H} (hc : mayP k n s = true) : k23 19 [.agg [.int .i64 k, .int .i64 n, .str s], .int .i64 c] h = .ret (.str (typeP k c)) h := if_pos hc
theorem z20 {k n : Int} {s : ByteArray} {c : Int} {h : H} (hc : mayP k n s = true) : k23 20 [.agg [.int .i64 k, .int .i64 n, .str s], .int .i64 c] h = .ret (.str (typeP k c)) h := if_pos hc
theorem walk (a0_0 : Int) (a0_1 : Int) (a0_2 : ByteArray) (a1_0 : Int) (a1_1 : Int) (a1_2 : ByteArray) (a2 : Int) (W : World) (hG : Pow W) : Calls Tryd.prog 4 #[.agg #[.int .i64 a0_0, .int .i64 a0_1, .string a0_2], .agg #[.int .i64 a1_0, .int .i64 a1_1, .string a1_2], .int .i64 a2] W (fun e W' => e = .returned (.bool true) ∧ Below W.heap.size W W') :=
  calls_tells (FL := F4) (lookF_ok (by simp only [List.forall_mem_cons]; exact ⟨c4_ok, fun _ h => by cases h⟩)) (L4 a0_0 a0_1 a0_2 a1_0 a1_1 a1_2 a2 (fun _ _ _ _ => rfl) (fun _ _ _ _ => rfl) (fun _ _ _ _ => rfl) (fun _ _ _ _ => rfl) (fun _ _ _ hc _ => z17 hc) (fun _ _ _ hc _ => z18 hc) (fun _ _ _ _ hc _ => z19 hc) (fun _ _ _ _ hc _ => z20 hc) (fun _ _ _ _ _ _ _ => rfl) (fun _ => rfl)) (args := #[.agg #[.int .i64 a0_0, .int .i64 a0_1, .string a0_2], .agg #[.int .i64 a1_0, .int .i64 a1_1, .string a1_2], .int .i64 a2]) (Go.Ev.VRs.cons (Go.Proofs.Va.vr_V _ _ _ _) (Go.Ev.VRs.cons (Go.Proofs.Va.vr_V _ _ _ _) (Go.Ev.VRs.cons (show _ = _ from rfl) Go.Ev.VRs.nil))) W hG
end
/-- What is listed. -/
def laidL : List (String × DataW Unit) := [("math/bits.deBruijn32tab", Rows.laid_math_bits_deBruijn32tab), ("math/bits.deBruijn64tab", Rows.laid_math_bits_deBruijn64tab), ("internal/strconv.uint64pow10", Rows.laid_internal_strconv_uint64pow10)]
theorem door_met (os : Os) (args : Array Value) : laidMetH Tryd.prog laidL ((World.doorLaid Tryd.prog 24 os).forCall (fun _ _ => 0) ⟨#[], args, []⟩).memory :=
  laidMetH_of_parts3 (fuel := 8) (laidMet_of_run' 8 (by kernel_rfl) (by kernel_rfl)) (by kernel_rfl) (by kernel_rfl)
theorem glob_of_laid {W : World} (h : laidMetH Tryd.prog laidL W) : Go.Proofs.Va.Pow W := by
  rw [MakeChecks.laidMetH_plain _ _ _ (by kernel_rfl)] at h
  have h2 := (laidMet.tail (laidMet.tail (show laidMet Tryd.prog (("math/bits.deBruijn32tab", Rows.laid_math_bits_deBruijn32tab) :: ("math/bits.deBruijn64tab", Rows.laid_math_bits_deBruijn64tab) :: ("internal/strconv.uint64pow10", Rows.laid_internal_strconv_uint64pow10) :: []) W from h)))
  exact Lib.tabIs_of_head (g := 0) (t := 75) (e := 68) (n := 20) (by kernel_rfl) (by kernel_rfl) Tryd.underlying75 Tryd.underlying68 (by kernel_rfl) (by kernel_rfl) (show laidMet Tryd.prog (("internal/strconv.uint64pow10", Lib.tabData .u64 Lib.pow10Tab) :: []) W from h2)
set_option maxRecDepth 100000 in
theorem lifted (os : Os) (started : os.Started) (H : Type) (enc : TypeId × Value → H) :
    ReturnsInHanded {} Tryd.checked os 4 .any (fun w args => (Rows.valueAllSpec.pre enc Tryd.prog Tryd.f4 Rows.valueAllRow.domain false w args ∧ laidMetH Tryd.prog laidL w) ∧ sizedMet enc Tryd.prog Tryd.f4 (OpenSpec.ofChange Rows.valueAllSpec) false w args)
      (Rows.valueAllSpec.post enc Tryd.prog Tryd.f4 false true false false) := by
  refine returnsInHanded_of_change_and (C := Tryd.checked) (X := fun w _ => laidMetH Tryd.prog laidL w) (fun _ _ _ hh h => h.of_heap hh) own started (by kernel_rfl) Tryd.func4
    (ChangeSpec.witness_shaped (enc := enc) (C := Tryd.checked) (os := os) (X := fun w _ => laidMetH Tryd.prog laidL w) false (World.doorLaid Tryd.prog 24 os) #[.agg #[.int .i64 0, .int .i64 0, .string ByteArray.empty], .agg #[.int .i64 0, .int .i64 0, .string ByteArray.empty], .int .i64 0] 8 rfl (World.shaped_of_RefB (by kernel_rfl) (by kernel_rfl)) (by kernel_rfl) (by kernel_rfl) (by kernel_rfl) (door_met os _)) ?_
  intro W base args ds gs before hval0 hW _ hsz0 hL _
  have hG := glob_of_laid hL
  have hval : ∀ (j : Nat) t v, Tryd.f4.params[j]? = some t → args[j]? = some v → Value.okWide Tryd.prog W .any base t v := hval0
  have hW' := hW
  obtain ⟨p, q, hA0, hV, rfl, hfz, hnd⟩ := hW
  have hA : DataW.TrodAll enc Tryd.prog W 0 (fun _ => true) true Tryd.f4.params.toList args.toList ds p := hA0
  rw [Tryd.params4] at hA hval
  obtain ⟨v0, vs0, d0, ds0, p0, q0, hargs, rfl, rfl, h0, r0⟩ := trodAll_cons hA
  obtain ⟨v1, vs1, d1, ds1, p1, q1, rfl, rfl, rfl, h1, r1⟩ := trodAll_cons r0
  obtain ⟨v2, vs2, d2, ds2, p2, q2, rfl, rfl, rfl, h2, r2⟩ := trodAll_cons r1
  obtain ⟨rfl, rfl, rfl⟩ := trodAll_nil r2
  obtain rfl : args = #[v0, v1, v2] := by cases args; simp_all
  obtain ⟨rfl, rfl⟩ := trodVars_none hV
  obtain ⟨c0_0, c0_1, c0_2, y0_0, y0_1, y0_2, m0, rfl, rfl, rfl, t0_0, t0_1, t0_2⟩ := open_agg3 Tryd.underlying24 (by kernel_rfl) (by kernel_rfl) (hval 0 24 v0 rfl rfl) h0
  obtain ⟨a0_0, e0_0, rfl, w0_0⟩ := DataW.trod_int Tryd.underlying3 t0_0
  simp only [List.cons.injEq, and_true] at e0_0
  subst e0_0
  obtain ⟨a0_1, e0_1, rfl, w0_1⟩ := DataW.trod_int Tryd.underlying3 t0_1
  simp only [List.cons.injEq, and_true] at e0_1
  subst e0_1
  obtain ⟨a0_2, e0_2, rfl, w0_2⟩ := DataW.trod_string Tryd.underlying9 t0_2
  simp only [List.cons.injEq, and_true] at e0_2
  subst e0_2
  obtain ⟨c1_0, c1_1, c1_2, y1_0, y1_1, y1_2, m1, rfl, rfl, rfl, t1_0, t1_1, t1_2⟩ := open_agg3 Tryd.underlying24 (by kernel_rfl) (by kernel_rfl) (hval 1 24 v1 rfl rfl) h1
  obtain ⟨a1_0, e1_0, rfl, w1_0⟩ := DataW.trod_int Tryd.underlying3 t1_0
  simp only [List.cons.injEq, and_true] at e1_0
  subst e1_0
  obtain ⟨a1_1, e1_1, rfl, w1_1⟩ := DataW.trod_int Tryd.underlying3 t1_1
  simp only [List.cons.injEq, and_true] at e1_1
  subst e1_1
  obtain ⟨a1_2, e1_2, rfl, w1_2⟩ := DataW.trod_string Tryd.underlying9 t1_2
  simp only [List.cons.injEq, and_true] at e1_2
  subst e1_2
  obtain ⟨a2, rfl, rfl, rfl, w2⟩ := open_int Tryd.underlying3 (hval 2 3 v2 rfl rfl) h2
  clear hA0 hval0 hsz0
  refine (walk a0_0 a0_1 a0_2 a1_0 a1_1 a1_2 a2 W hG).mono fun e W' ⟨he, bel⟩ => ?_
  subst he
  exact ⟨_, rfl, _, _, _, [], _, [], hW', trodAll_mk1 (shut_bool Tryd.underlying4 _), (trodAll_cons_mk (shut_agg3 (y0 := (.lit (.int .i64 a0_0), [])) (y1 := (.lit (.int .i64 a0_1), [])) (y2 := (.lit (.string a0_2.data.toList), [])) Tryd.underlying24 (by kernel_rfl) (by kernel_rfl) ⟨1, Go.Proofs.Va.trod_i Tryd.underlying3 w0_0⟩ ⟨1, Go.Proofs.Va.trod_i Tryd.underlying3 w0_1⟩ ⟨1, Go.Proofs.Va.trod_s Tryd.underlying9 w0_2⟩) (trodAll_cons_mk (shut_agg3 (y0 := (.lit (.int .i64 a1_0), [])) (y1 := (.lit (.int .i64 a1_1), [])) (y2 := (.lit (.string a1_2.data.toList), [])) Tryd.underlying24 (by kernel_rfl) (by kernel_rfl) ⟨1, Go.Proofs.Va.trod_i Tryd.underlying3 w1_0⟩ ⟨1, Go.Proofs.Va.trod_i Tryd.underlying3 w1_1⟩ ⟨1, Go.Proofs.Va.trod_s Tryd.underlying9 w1_2⟩) (trodAll_cons_mk (shut_int Tryd.underlying3 w2) trodAll_mk0))), rfl, bel.frame _, fun h => by cases h⟩
theorem over : Rows.valueAllRow.holds Tryd.pinned (OpenSpec.ofChange Rows.valueAllSpec) :=
  OpenClaim.holds_of_wide 4 Tryd.f4 rfl rfl rfl rfl rfl rfl rfl ⟨rfl, rfl, rfl, rfl, rfl⟩ rfl rfl rfl rfl rfl (by kernel_rfl) Tryd.func4 (by kernel_rfl)
    (of_decide_eq_true (by kernel_rfl)) (by unfold Func.isWrapper; first | (rw [if_pos (by decide +kernel)]; kernel_rfl) | (rw [if_neg (by decide +kernel)]; exact ⟨rfl, rfl⟩))
    (fun os started H enc _ => lifted os started H enc)
theorem card : Rows.ValueAllCardSaid :=
  Claim7.holds_tied_plain_at .later [] [.data, .data, .data] true (true, "b557755df34b325082a65fcabd2958195cdd641aec3c3af73290d20163be4633") false
    over (fun _ h => by cases h) (by kernel_rfl) (fun _ h => by cases h) valueAll_row_tie rfl ⟨rfl, rfl⟩ (by kernel_rfl) rfl
    (fun f fn hf hfn => by
      obtain rfl : f = 4 := Option.some.inj ((show Tryd.prog.funcNamed "boomerang/boomeranglaw13.ValueAll" = some 4 by kernel_rfl).symm.trans hf) |>.symm
      obtain rfl : fn = Tryd.f4 := (Option.some.inj (Tryd.func4.symm.trans hfn)).symm
      exact ⟨by kernel_rfl, fun j t ht => by
        rw [Tryd.params4] at ht
        have hm : t ∈ [24, 24, 3] := by simpa using Array.mem_of_getElem? ht
        have hall : ([24, 24, 3].all fun u => !Tryd.prog.wantsStandIn u) = true := by kernel_rfl
        exact (show Tryd.prog.wantsStandIn t = false by simpa using List.all_eq_true.1 hall t hm)⟩)
    (by kernel_rfl)
theorem proved : Rows.ValueAllCardSaid := card
end Go.Proofs.YtfijbgpegfnlbaaDoor.valueAll
namespace Go.Proofs.YtfijbgpegfnlbaaDoor
/-- The statement, under a short name, for the claim. -/
theorem valueAll_holds : Rows.ValueAllCardSaid := valueAll.proved
end Go.Proofs.YtfijbgpegfnlbaaDoor
