/- The statement of ArithAll is proved: the law returns true for all arguments, as the evaluator tells of values known in part. Conditions: none but the statement's own. -/
import Derived.Test.YtfijbgpegfnlbaaDoorRows
import Derived.Test.YtfijbgpegfnlbaaDoorVaBase
import Derived.Test.YtfijbgpegfnlbaaDoorVaL8
import Derived.Test.YtfijbgpegfnlbaaDoorCards
import Derived.Test.YtfijbgpegfnlbaaDoorTie
import Derived.WalkKit
import Derived.ProofKit
import Derived.OpenShut
import Derived.ShutString
import Derived.ChangeOld
import Derived.Below
import Derived.SizedLaws
import Derived.Lib.SmallJoins
import Derived.LaidMore
import Derived.Stop.LaidErr
import Derived.Lib.LaidTab
import Derived.Stop.Joined
import Derived.SevenTiedAt
namespace Go.Proofs.YtfijbgpegfnlbaaDoor.arithAll
open Go.ChangeShapes Go.WideShapes Go.ChangeAt Go.RowKit
open Go.ChangeMaps (open_string shut_string)
open Go.Joins (open_agg2 open_agg3 open_agg4 shut_agg2 shut_agg3 shut_agg4)
set_option linter.unusedVariables false
theorem own : ownKnob Tryd.prog.godebug = none := by kernel_rfl
section
open Go.Ev Go.Proofs.Va
theorem z25 {g : ByteArray} {k n : Int} {s : ByteArray} {k' n' : Int} {s' : ByteArray} {h : H} (hc : mayP k n s = true ∧ mayP k' n' s' = true) : k23 25 [.str g, .agg [.int .i64 k, .int .i64 n, .str s], .agg [.int .i64 k', .int .i64 n', .str s']] h = .ret (binV g k n s k' n' s') h := if_pos hc
theorem z27 {g : ByteArray} {k n : Int} {s : ByteArray} {h : H} (hc : mayP k n s = true) : k23 27 [.str g, .agg [.int .i64 k, .int .i64 n, .str s]] h = .ret (unV g k n s) h := if_pos hc
theorem z28 {g : ByteArray} {k n : Int} {s : ByteArray} {h : H} (hc : mayP k n s = true) : k23 28 [.str g, .agg [.int .i64 k, .int .i64 n, .str s]] h = .ret (flat (unV g k n s)) h := if_pos hc
theorem z29 {g : ByteArray} {k n : Int} {s : ByteArray} {k' n' : Int} {s' : ByteArray} {h : H} (hc : mayP k n s = true ∧ mayP k' n' s' = true) : k23 29 [.str g, .agg [.int .i64 k, .int .i64 n, .str s], .agg [.int .i64 k', .int .i64 n', .str s']] h = .ret (flat (binV g k n s k' n' s')) h := if_pos hc
theorem walk (a0 : ByteArray) (a1_0 : Int) (a1_1 : Int) (a1_2 : ByteArray) (a2_0 : Int) (a2_1 : Int) (a2_2 : ByteArray) (W : World) (hG : Pow W) : Calls Tryd.prog 8 #[.string a0, .agg #[.int .i64 a1_0, .int .i64 a1_1, .string a1_2], .agg #[.int .i64 a2_0, .int .i64 a2_1, .string a2_2]] W (fun e W' => e = .returned (.bool true) ∧ Below W.heap.size W W') :=
  calls_tells (FL := F8) (lookF_ok (by simp only [List.forall_mem_cons]; exact ⟨c8_ok, fun _ h => by cases h⟩)) (L8 a0 a1_0 a1_1 a1_2 a2_0 a2_1 a2_2 (fun _ _ _ _ => rfl) (fun _ _ _ _ _ _ _ hc hd _ => z25 ⟨hc, hd⟩) (fun _ _ _ _ hc _ => z27 hc) (fun _ _ _ _ hc _ => z28 hc) (fun _ _ _ _ _ _ _ hc hd _ => z29 ⟨hc, hd⟩) (fun _ _ => rfl) (fun _ => rfl)) (args := #[.string a0, .agg #[.int .i64 a1_0, .int .i64 a1_1, .string a1_2], .agg #[.int .i64 a2_0, .int .i64 a2_1, .string a2_2]]) (Go.Ev.VRs.cons (show _ = _ from rfl) (Go.Ev.VRs.cons (Go.Proofs.Va.vr_V _ _ _ _) (Go.Ev.VRs.cons (Go.Proofs.Va.vr_V _ _ _ _) Go.Ev.VRs.nil))) W hG
end
/-- What is listed. -/
def laidL : List (String × DataW Unit) := [("math/bits.deBruijn32tab", Rows.laid_math_bits_deBruijn32tab), ("math/bits.deBruijn64tab", Rows.laid_math_bits_deBruijn64tab), ("internal/strconv.uint64pow10", Rows.laid_internal_strconv_uint64pow10)]
theorem door_met (os : Os) (args : Array Value) : laidMetH Tryd.prog laidL ((World.doorLaid Tryd.prog 24 os).forCall (fun _ _ => 0) ⟨#[], args, []⟩).memory :=
  laidMetH_of_parts3 (fuel := 8) (laidMet_of_run' 8 (by kernel_rfl) (by kernel_rfl)) (by kernel_rfl) (by kernel_rfl)
theorem glob_of_laid {W : World} (h : laidMetH Tryd.prog laidL W) : Go.Proofs.Va.Pow W := by
  rw [MakeChecks.laidMetH_plain _ _ _ (by kernel_rfl)] at h
  have h2 := (laidMet.tail (laidMet.tail (show laidMet Tryd.prog (("math/bits.deBruijn32tab", Rows.laid_math_bits_deBruijn32tab) :: ("math/bits.deBruijn64tab", Rows.laid_math_bits_deBruijn64tab) :: ("internal/strconv.uint64pow10", Rows.laid_internal_strconv_uint64pow10) :: []) W from h)))
  exact Lib.tabIs_of_head (g := 0) (t := 75) (e := 68) (n := 20) (by kernel_rfl) (by kernel_rfl) Tryd.underlying75 Tryd.underlying68 (by kernel_rfl) (by kernel_rfl) (show laidMet Tryd.prog (("internal/strconv.uint64pow10", Lib.tabData .u64 Lib.pow10Tab) :: []) W from h2)
set_option maxRecDepth 100000 in
theorem lifted (os : Os) (started : os.Started) (H : Type) (enc : TypeId × Value → H) :
    ReturnsInHanded {} Tryd.checked os 8 .any (fun w args => (Rows.arithAllSpec.pre enc Tryd.prog Tryd.f8 Rows.arithAllRow.domain false w args ∧ laidMetH Tryd.prog laidL w) ∧ sizedMet enc Tryd.prog Tryd.f8 (OpenSpec.ofChange Rows.arithAllSpec) false w args)
      (Rows.arithAllSpec.post enc Tryd.prog Tryd.f8 false true false false) := by
  refine returnsInHanded_of_change_and (C := Tryd.checked) (X := fun w _ => laidMetH Tryd.prog laidL w) (fun _ _ _ hh h => h.of_heap hh) own started (by kernel_rfl) Tryd.func8
    (ChangeSpec.witness_shaped (enc := enc) (C := Tryd.checked) (os := os) (X := fun w _ => laidMetH Tryd.prog laidL w) false (World.doorLaid Tryd.prog 24 os) #[.string ByteArray.empty, .agg #[.int .i64 0, .int .i64 0, .string ByteArray.empty], .agg #[.int .i64 0, .int .i64 0, .string ByteArray.empty]] 8 rfl (World.shaped_of_RefB (by kernel_rfl) (by kernel_rfl)) (by kernel_rfl) (by kernel_rfl) (by kernel_rfl) (door_met os _)) ?_
  intro W base args ds gs before hval0 hW _ hsz0 hL _
  have hG := glob_of_laid hL
  have hval : ∀ (j : Nat) t v, Tryd.f8.params[j]? = some t → args[j]? = some v → Value.okWide Tryd.prog W .any base t v := hval0
  have hW' := hW
  obtain ⟨p, q, hA0, hV, rfl, hfz, hnd⟩ := hW
  have hA : DataW.TrodAll enc Tryd.prog W 0 (fun _ => true) true Tryd.f8.params.toList args.toList ds p := hA0
  rw [Tryd.params8] at hA hval
  obtain ⟨v0, vs0, d0, ds0, p0, q0, hargs, rfl, rfl, h0, r0⟩ := trodAll_cons hA
  obtain ⟨v1, vs1, d1, ds1, p1, q1, rfl, rfl, rfl, h1, r1⟩ := trodAll_cons r0
  obtain ⟨v2, vs2, d2, ds2, p2, q2, rfl, rfl, rfl, h2, r2⟩ := trodAll_cons r1
  obtain ⟨rfl, rfl, rfl⟩ := trodAll_nil r2
  obtain rfl : args = #[v0, v1, v2] := by cases args; simp_all
  obtain ⟨rfl, rfl⟩ := trodVars_none hV
  obtain ⟨a0, rfl, rfl, rfl, y0⟩ := open_string Tryd.underlying9 (hval 0 9 v0 rfl rfl) h0
  obtain ⟨c1_0, c1_1, c1_2, y1_0, y1_1, y1_2, m1, rfl, rfl, rfl, t1_0, t1_1, t1_2⟩ := open_agg3 Tryd.underlying24 (by kernel_rfl) (by kernel_rfl) (hval 1 24 v1 rfl rfl) h1
  obtain ⟨a1_0, e1_0, rfl, w1_0⟩ := DataW.trod_int Tryd.underlying3 t1_0
  simp only [List.cons.injEq, and_true] at e1_0
  subst e1_0
  obtain ⟨a1_1, e1_1, rfl, w1_1⟩ := DataW.trod_int Tryd.underlying3 t1_1
  simp only [List.cons.injEq, and_true] at e1_1
  subst e1_1
  obtain ⟨a1_2, e1_2, rfl, w1_2⟩ := DataW.trod_string Tryd.underlying9 t1_2
  simp only [List.cons.injEq, and_true] at e1_2
  subst e1_2
  obtain ⟨c2_0, c2_1, c2_2, y2_0, y2_1, y2_2, m2, rfl, rfl, rfl, t2_0, t2_1, t2_2⟩ := open_agg3 Tryd.underlying24 (by kernel_rfl) (by kernel_rfl) (hval 2 24 v2 rfl rfl) h2
  obtain ⟨a2_0, e2_0, rfl, w2_0⟩ := DataW.trod_int Tryd.underlying3 t2_0
  simp only [List.cons.injEq, and_true] at e2_0
  subst e2_0
  obtain ⟨a2_1, e2_1, rfl, w2_1⟩ := DataW.trod_int Tryd.underlying3 t2_1
  simp only [List.cons.injEq, and_true] at e2_1
  subst e2_1
  obtain ⟨a2_2, e2_2, rfl, w2_2⟩ := DataW.trod_string Tryd.underlying9 t2_2
  simp only [List.cons.injEq, and_true] at e2_2
  subst e2_2
  clear hA0 hval0 hsz0
  refine (walk a0 a1_0 a1_1 a1_2 a2_0 a2_1 a2_2 W hG).mono fun e W' ⟨he, bel⟩ => ?_
  subst he
  exact ⟨_, rfl, _, _, _, [], _, [], hW', trodAll_mk1 (shut_bool Tryd.underlying4 _), (trodAll_cons_mk (shut_string Tryd.underlying9 y0) (trodAll_cons_mk (shut_agg3 (y0 := (.lit (.int .i64 a1_0), [])) (y1 := (.lit (.int .i64 a1_1), [])) (y2 := (.lit (.string a1_2.data.toList), [])) Tryd.underlying24 (by kernel_rfl) (by kernel_rfl) ⟨1, Go.Proofs.Va.trod_i Tryd.underlying3 w1_0⟩ ⟨1, Go.Proofs.Va.trod_i Tryd.underlying3 w1_1⟩ ⟨1, Go.Proofs.Va.trod_s Tryd.underlying9 w1_2⟩) (trodAll_cons_mk (shut_agg3 (y0 := (.lit (.int .i64 a2_0), [])) (y1 := (.lit (.int .i64 a2_1), [])) (y2 := (.lit (.string a2_2.data.toList), [])) Tryd.underlying24 (by kernel_rfl) (by kernel_rfl) ⟨1, Go.Proofs.Va.trod_i Tryd.underlying3 w2_0⟩ ⟨1, Go.Proofs.Va.trod_i Tryd.underlying3 w2_1⟩ ⟨1, Go.Proofs.Va.trod_s Tryd.underlying9 w2_2⟩) trodAll_mk0))), rfl, bel.frame _, fun h => by cases h⟩
theorem over : Rows.arithAllRow.holds Tryd.pinned (OpenSpec.ofChange Rows.arithAllSpec) :=
  OpenClaim.holds_of_wide 8 Tryd.f8 rfl rfl rfl rfl rfl rfl rfl ⟨rfl, rfl, rfl, rfl, rfl⟩ rfl rfl rfl rfl rfl (by kernel_rfl) Tryd.func8 (by kernel_rfl)
    (of_decide_eq_true (by kernel_rfl)) (by unfold Func.isWrapper; first | (rw [if_pos (by decide +kernel)]; kernel_rfl) | (rw [if_neg (by decide +kernel)]; exact ⟨rfl, rfl⟩))
    (fun os started H enc _ => lifted os started H enc)
theorem card : Rows.ArithAllCardSaid :=
  Claim7.holds_tied_plain_at .later [] [.data, .data, .data] true (true, "b557755df34b325082a65fcabd2958195cdd641aec3c3af73290d20163be4633") false
    over (fun _ h => by cases h) (by kernel_rfl) (fun _ h => by cases h) arithAll_row_tie rfl ⟨rfl, rfl⟩ (by kernel_rfl) rfl
    (fun f fn hf hfn => by
      obtain rfl : f = 8 := Option.some.inj ((show Tryd.prog.funcNamed "boomerang/boomeranglaw14.ArithAll" = some 8 by kernel_rfl).symm.trans hf) |>.symm
      obtain rfl : fn = Tryd.f8 := (Option.some.inj (Tryd.func8.symm.trans hfn)).symm
      exact ⟨by kernel_rfl, fun j t ht => by
        rw [Tryd.params8] at ht
        have hm : t ∈ [9, 24, 24] := by simpa using Array.mem_of_getElem? ht
        have hall : ([9, 24, 24].all fun u => !Tryd.prog.wantsStandIn u) = true := by kernel_rfl
        exact (show Tryd.prog.wantsStandIn t = false by simpa using List.all_eq_true.1 hall t hm)⟩)
    (by kernel_rfl)
theorem proved : Rows.ArithAllCardSaid := card
end Go.Proofs.YtfijbgpegfnlbaaDoor.arithAll
namespace Go.Proofs.YtfijbgpegfnlbaaDoor
/-- The statement, under a short name, for the claim. -/
theorem arithAll_holds : Rows.ArithAllCardSaid := arithAll.proved
end Go.Proofs.YtfijbgpegfnlbaaDoor
