/- step.next, whose range over slices.Chunk goes no round: the function as the evaluator tells what is around the range. -/
import Derived.Test.YtdfkioaoijmhbaaGreatDoorSkBas2
import Derived.Test.YtdfkioaoijmhbaaGreatDoorSkB
import Derived.Test.YtdfkioaoijmhbaaGreatDoorEvRange
import Derived.KernelRfl
import Derived.Tactics
import Derived.Tactics2
import Derived.RegionTactic
import Derived.RegionCalls
namespace Go.Proofs.Sn
open Go Go.Proofs Go.Ev Go.RowKit
set_option linter.unusedSectionVars false
set_option linter.unusedVariables false
variable [Unk]
set_option maxRecDepth 100000 in
set_option maxHeartbeats 1600000 in
/-- slices.Chunk's closure at a row of none. -/
theorem chunk0 (y v : Value) (a : Addr) (base : Option Addr) (cap : Nat) (w : World) (hc : w.cell? a = some (.slice base 0 cap)) :
    Calls Tryz.prog 289 #[y, .pointer (some a), v] w fun e w' => e = .returned (.tuple #[]) ∧ w' = w := by
  obtain ⟨b, o, q⟩ := a
  go_enter Tryz.func289, Tryz.ntmps289
  go_wp2
  refine wp_loop_once ?_
  go_wp2
  all_goals (first | (go_end0; exact ⟨rfl, rfl⟩) | (simp only [Exit.inBlock, Exit.then]; go_end0; exact ⟨rfl, rfl⟩))
theorem bodyC : Callable Tryz.prog 289 := ⟨_, Tryz.func289, by decide, rfl⟩
theorem le_ok {Γ : Glob} {P : Program} {c c' : Calls'} (hc : CallsOk Γ P c') (hl : Le c c') : CallsOk Γ P c :=
  .of_spec fun f l h r e hb => hc.spec (hl f l h r e hb) hb
/-- What next calls. -/
noncomputable def c1 : Calls' := sev Go.Proofs.Pq.lib (lookB Go.Proofs.SkB.tree) (compF Tryz.prog) 3000 60
theorem c1_ok : CallsOk Go.Proofs.Pq.Γ Tryz.prog c1 := le_ok (ev_ok Go.Proofs.Pq.mixed Go.Proofs.Pq.lib_ok (fun _ _ h => h) 3000 60) (sev_le Go.Proofs.SkB.tree_ok Go.Proofs.SkB.apart 60)
noncomputable def nextG : List AV → H → CR := rangeG Tryz.prog c1 3000 289 224 (Tryz.f224.body.getD .skip)
theorem next_entry : Entry Go.Proofs.Pq.Γ Tryz.prog 224 nextG :=
  range_told Go.Proofs.Pq.mixed c1_ok Tryz.func224 (c := Tryz.f224.body.getD .skip) rfl (by kernel_rfl) rfl (run_enter bodyC) chunk0
noncomputable def lib : Lib := fun f => match Nat.beq f 224 with | true => some nextG | false => Go.Proofs.Pq.lib f
theorem lib_entries (f : FuncId) (g : List AV → H → CR) (e : lib f = some g) : Entry Go.Proofs.Pq.Γ Tryz.prog f g := by
  unfold lib at e
  split at e
  · rename_i hf
    have := Nat.eq_of_beq_eq_true hf
    subst this
    rw [← Option.some.inj e]
    exact next_entry
  · exact Go.Proofs.Pq.lib_entries f g e
theorem lib_ok : CallsOk Go.Proofs.Pq.Γ Tryz.prog (libC lib) := libC_ok lib_entries
theorem mixed : Tryz.prog.follows .mixedOrders = true := Go.Proofs.Pq.mixed
theorem met (W : World) (hG : Go.Proofs.Pq.Kn W) : Go.Proofs.Pq.Γ.Met A0 W := Go.Proofs.Pq.met W hG
end Go.Proofs.Sn
