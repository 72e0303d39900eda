/- What is known of Go's library, with strings.Replacer's Replace. -/
import Derived.Test.YtoedfhnphnpbdaaGreatDoorPrRep
import Derived.Test.YtoedfhnphnpbdaaGreatDoorPrA
set_option linter.unusedVariables false
namespace Go.Proofs.Pq
open Go.Ev Go.RowKit
theorem le_ok {Γ : Glob} {P : Program} {c c' : Calls'} (hc : CallsOk Γ P c') (hl : Le c c') : CallsOk Γ P c :=
  .of_spec fun f l h r e hb => hc.spec (hl f l h r e hb) hb
noncomputable def c1 : Calls' := sev Pr.lib (lookB PrA.tree) (compF Tryz.prog) 3000 20
theorem c1_ok : CallsOk Pr.Γ Tryz.prog c1 := le_ok (ev_ok Pr.mixed Pr.lib_ok (fun _ _ h => h) 3000 20) (sev_le PrA.tree_ok PrA.apart 20)
noncomputable def lib : Lib := fun f => match Nat.beq f 65 with | true => some (Rp.repG c1) | false => Pr.lib f
theorem lib_ok : CallsOk Pr.Γ Tryz.prog (libC lib) := libC_ok fun f g e => by
  unfold lib at e
  split at e
  · rename_i hf
    have := Nat.eq_of_beq_eq_true hf
    subst this
    cases e
    exact Rp.rep_entry c1_ok
  · exact Pr.lib_entries f g e
theorem met (W : World) (hG : Pr.Kn W) : Pr.Γ.Met A0 W := Pr.met W hG
end Go.Proofs.Pq
