/-
  DERIVED. GIVEN WITH THE SEED: THE CARDS: each row of YtdggmjiojhkbgaaGreatDoorRows.lean that lists a variable, with what it lists TIED to the program's text (the seventh form; the later family's looks); each row that meets fmt, with fmt's text TOLD by the authors' own Lean function (tested against real Go, not proved from fmt's source: count such statements apart). THE CARD IS WHAT COUNTS. Prove the row's statement (the work); the ties are given (YtdggmjiojhkbgaaGreatDoorTie.lean); close each card by the builder's one call (the guide's Derived/Test/ToyasCard.lean, 'card_holds'). Laid BY PROGRAM, IN A SANDBOX (cutbox-door.mjs). By AI agents, Wed Nov 11 2026. No macro, syntax, notation, axiom, sorry.
-/
import Derived.Test.YtdggmjiojhkbgaaGreatDoorRows
import GoSem.ClaimSeven
namespace Go.Proofs.YtdggmjiojhkbgaaGreatDoor
namespace Rows

/-- THE TIED CARD OF 'boomeranglaw20.LoopEvents'. -/
def loopEventsCard : Claim7 := { stood := { row := loopEventsRow, standIns := [], harness := (true, "a0763c1d2d853fe0fb030c75f2a5f90797104992a5daf62df01d4b95979fdf45"), looks := true }, kinds := [], alts := [], laidByText := true, laidKinds := [.data, .data, .data, .listed, .data], laidTests := true, laidLooks := .later }
def LoopEventsCardSaid : Prop := Claim7.holds Tryz.pinned (.plain (OpenSpec.ofChange loopEventsSpec)) loopEventsCard

/-- THE SECOND FORM's CARD OF 'boomeranglaw20.LoopEvents'. -/
def loopEventsUptoCard : Claim7 := { stood := { row := loopEventsUptoRow, standIns := [], harness := (true, "a0763c1d2d853fe0fb030c75f2a5f90797104992a5daf62df01d4b95979fdf45"), looks := true }, kinds := [], alts := [], laidByText := true, laidKinds := [.data, .data, .data, .listed, .data], laidTests := true, laidLooks := .later }
def LoopEventsUptoCardSaid : Prop := Claim7.holds Tryz.pinned (.plain (OpenSpec.upto loopEventsSpec)) loopEventsUptoCard
end Rows
end Go.Proofs.YtdggmjiojhkbgaaGreatDoor
