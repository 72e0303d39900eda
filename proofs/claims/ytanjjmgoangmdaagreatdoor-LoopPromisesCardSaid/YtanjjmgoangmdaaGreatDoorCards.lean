/-
  DERIVED. GIVEN WITH THE SEED: THE CARDS: each row of YtanjjmgoangmdaaGreatDoorRows.lean that lists a variable, with what it lists TIED to the program's text (the seventh form; the later family's looks); each row that meets fmt, with fmt's text TOLD by the authors' own Lean function (tested against real Go, not proved from fmt's source: count such statements apart). THE CARD IS WHAT COUNTS. Prove the row's statement (the work); the ties are given (YtanjjmgoangmdaaGreatDoorTie.lean); close each card by the builder's one call (the guide's Derived/Test/ToyasCard.lean, 'card_holds'). Laid BY PROGRAM, IN A SANDBOX (cutbox-door.mjs). By AI agents, Wed Nov 11 2026. No macro, syntax, notation, axiom, sorry.
-/
import Derived.Test.YtanjjmgoangmdaaGreatDoorRows
import GoSem.ClaimSeven
namespace Go.Proofs.YtanjjmgoangmdaaGreatDoor
namespace Rows

/-- THE TIED CARD OF 'boomeranglaw20.LoopPromises'. -/
def loopPromisesCard : Claim7 := { stood := { row := loopPromisesRow, standIns := [], harness := (true, "bd4b921bb951b8af390aec37d03cb42c3edb4e775ac681dc04882b6dd9cfb0c1"), looks := true }, kinds := [], alts := [], laidByText := true, laidKinds := [.data, .data, .data, .listed, .data], laidTests := true, laidLooks := .later }
def LoopPromisesCardSaid : Prop := Claim7.holds Tryz.pinned (.plain (OpenSpec.ofChange loopPromisesSpec)) loopPromisesCard

/-- THE SECOND FORM's CARD OF 'boomeranglaw20.LoopPromises'. -/
def loopPromisesUptoCard : Claim7 := { stood := { row := loopPromisesUptoRow, standIns := [], harness := (true, "bd4b921bb951b8af390aec37d03cb42c3edb4e775ac681dc04882b6dd9cfb0c1"), looks := true }, kinds := [], alts := [], laidByText := true, laidKinds := [.data, .data, .data, .listed, .data], laidTests := true, laidLooks := .later }
def LoopPromisesUptoCardSaid : Prop := Claim7.holds Tryz.pinned (.plain (OpenSpec.upto loopPromisesSpec)) loopPromisesUptoCard
end Rows
end Go.Proofs.YtanjjmgoangmdaaGreatDoor
