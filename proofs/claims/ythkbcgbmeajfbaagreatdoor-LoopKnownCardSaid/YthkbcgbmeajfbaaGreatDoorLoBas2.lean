/- Join of no texts at all, beside what LoBase knows. -/
import Derived.Test.YthkbcgbmeajfbaaGreatDoorLoBase
set_option linter.unusedVariables false
namespace Go.Proofs.Lo2
open Go.Ev Go.RowKit Go.Shelf Go.Proofs
set_option maxHeartbeats 1000000 in
set_option maxRecDepth 100000 in
theorem joinNil {P : Program} {ρ : Ren} (L : Lays.n156 P ρ) (p : Option Addr) (c : Nat) (sep : ByteArray) (w : World) :
    Calls P (ρ.f 156) #[.slice p 0 c, .string sep] w fun e w' => e = .returned (.string ⟨#[]⟩) ∧ w' = w := by
  have mixed := L.mixed
  have t31 := L.t31; have a31 := L.a31; have z31 := L.z31; have v31 := L.v31
  have t9 := L.t9; have a9 := L.a9; have z9 := L.z9; have v9 := L.v9
  have t3 := L.t3; have a3 := L.a3; have z3 := L.z3; have v3 := L.v3
  have t4 := L.t4; have a4 := L.a4; have z4 := L.z4; have v4 := L.v4
  go_enter L.f156, Body.n156_ntmps ρ
  go_wp2
  all_goals (go_ret; exact ⟨rfl, rfl⟩)
/-- strings.Join, of none too. -/
noncomputable def joinG : List AV → H → CR := fun xs h => match xs with
  | [.nils, .str _] => .ret (.str ⟨#[]⟩) h
  | _ => Lo.joinG xs h
theorem join_entry : Entry Lo.Γ Tryz.prog 358 joinG := ⟨Lo.body358, fun {xs h r} e hb {A w args} hh hg ha => by
  unfold joinG at e
  split at e
  · rename_i sep
    obtain ⟨y, ys, e1, h1, y2, ys2, e2, h3, h2⟩ := ha
    have h1 : y = .slice none 0 0 := h1
    have h3 : y2 = .string sep := h3
    have h2 : ys2 = [] := by simpa [VRs] using h2
    subst h1 h3 h2 e2
    obtain rfl : args = #[.slice none 0 0, .string sep] := by cases args; simp_all
    subst e
    refine told_pure (x := .string ⟨#[]⟩) hh rfl ?_
    refine (joinNil Tryz.lays156 none 0 sep w).mono ?_
    rintro e w' ⟨rfl, rfl⟩
    exact ⟨rfl, Below.refl _ _⟩
  · exact Lo.join_entry.told e hb hh hg ha⟩
noncomputable def lib : Lib := libOf [(124, Go.Proofs.Lo.fieldsG), (358, joinG), (266, Go.Proofs.Lo.itoaG), (318, Go.Proofs.Lo.mulG), (115, Go.Proofs.Lo.indexG), (129, Go.Proofs.Lo.containsG), (30, Go.Proofs.Lo.comG), (214, (Del.delG 8 [.int .i64 (.ofNat 0), .int .i64 (.ofNat 0), .str ⟨#[]⟩, .int .i64 (.ofNat 0), .int .i64 (.ofNat 0), .str ⟨#[]⟩, .int .i64 (.ofNat 0), .bool false])), (218, (Del.delG 5 [.int .i64 (.ofNat 0), .int .i64 (.ofNat 0), .int .i64 (.ofNat 0), .int .i64 (.ofNat 0), .str ⟨#[]⟩])), (220, (Del.delG 1 [.int .i64 (.ofNat 0)]))]
theorem lib_ok : CallsOk Go.Proofs.Lo.Γ Tryz.prog (libC lib) := libC_ok (libOf_ok (by
  simp only [List.forall_mem_cons]
  exact ⟨Go.Proofs.Lo.fields_entry, join_entry, Go.Proofs.Lo.itoa_entry, Go.Proofs.Lo.mul_entry, Go.Proofs.Lo.index_entry, Go.Proofs.Lo.contains_entry, Go.Proofs.Lo.com_entry, Go.Proofs.Lo.del_entry214, Go.Proofs.Lo.del_entry218, Go.Proofs.Lo.del_entry220, fun _ h => by cases h⟩))
theorem mixed : Tryz.prog.follows .mixedOrders = true := Lo.mixed
theorem met (W : World) (hG : Lo.Kn W) : Go.Proofs.Lo.Γ.Met A0 W := Lo.met W hG
end Go.Proofs.Lo2
