/- lex.next as an oracle of the evaluator. -/
import Derived.Test.YtgccmndndgbmkaaDoorPxLChain
import Derived.Test.YtgccmndndgbmkaaDoorEvMc
namespace Go.Proofs.Px
open Go.Ev
/-- A call that is known is an oracle. -/
theorem entry_of {Γ : Glob} {P : Program} {c : Calls'} (hc : CallsOk Γ P c) {f : FuncId} {g : List AV → H → CR} (hg : ∀ xs h, c f xs h = g xs h) (body : Callable P f) : Entry Γ P f g :=
  ⟨body, fun {xs h _} e hb {_ _ _} hh hm ha => (hc.spec ((hg xs h).trans e) hb).2 hh hm ha⟩
theorem body18 : Callable Tryd.prog 18 := ⟨_, Tryd.func18, by decide, rfl⟩
theorem next_entry : Entry Γ Tryd.prog 18 S21 := entry_of ok21 (fun _ _ => upd_hit _ _ _ _ _) body18
theorem libN_ok : CallsOk Γ Tryd.prog (libC (libOf [(18, S21), (50, fieldsG), (41, indexG), (55, containsG)])) := libC_ok (libOf_ok (by
  simp only [List.forall_mem_cons]
  exact ⟨next_entry, fields_entry, index_entry, contains_entry, fun _ h => by cases h⟩))
noncomputable def libN : Lib := libOf [(18, S21), (50, fieldsG), (41, indexG), (55, containsG)]
end Go.Proofs.Px
