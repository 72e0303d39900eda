/- What is known of Go's library, with strings.Replacer's Replace. -/
import Derived.Test.YtdfkioaoijmhbaaGreatDoorSkRep
import Derived.Test.YtdfkioaoijmhbaaGreatDoorSkA
set_option linter.unusedVariables false
namespace Go.Proofs.Pq
open Go.Ev Go.RowKit
set_option linter.unusedSectionVars false
variable [Unk]
theorem le_ok {Γ : Glob} {P : Program} {c c' : Calls'} (hc : CallsOk Γ P c') (hl : Le c c') : CallsOk Γ P c :=
  .of_spec fun f l h r e hb => hc.spec (hl f l h r e hb) hb
noncomputable def c1 : Calls' := sev St.lib (lookB SkA.tree) (compF Tryz.prog) 3000 20
theorem c1_ok : CallsOk St.Γ Tryz.prog c1 := le_ok (ev_ok St.mixed St.lib_ok (fun _ _ h => h) 3000 20) (sev_le SkA.tree_ok SkA.apart 20)
noncomputable def lib : Lib := fun f => match Nat.beq f 338 with | true => some (Rp.repG c1) | false => St.lib f
theorem lib_entries (f : FuncId) (g : List AV → H → CR) (e : lib f = some g) : Entry St.Γ Tryz.prog f g := by
  unfold lib at e
  split at e
  · rename_i hf
    have := Nat.eq_of_beq_eq_true hf
    subst this
    rw [← Option.some.inj e]
    exact Rp.rep_entry c1_ok
  · exact St.lib_entries f g e
theorem lib_ok : CallsOk St.Γ Tryz.prog (libC lib) := libC_ok lib_entries
abbrev Γ := St.Γ
abbrev Kn := St.Kn
theorem mixed : Tryz.prog.follows .mixedOrders = true := St.mixed
theorem met (W : World) (hG : Kn W) : Γ.Met A0 W := St.met W hG
end Go.Proofs.Pq
