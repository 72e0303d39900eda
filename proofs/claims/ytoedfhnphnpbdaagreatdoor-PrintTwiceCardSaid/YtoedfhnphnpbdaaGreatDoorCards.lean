/-
  DERIVED. GIVEN WITH THE SEED: THE CARDS: each row of YtoedfhnphnpbdaaGreatDoorRows.lean that lists a variable, with what it lists TIED to the program's text (the seventh form; the later family's looks); each row that meets fmt, with fmt's text TOLD by the authors' own Lean function (tested against real Go, not proved from fmt's source: count such statements apart). THE CARD IS WHAT COUNTS. Prove the row's statement (the work); the ties are given (YtoedfhnphnpbdaaGreatDoorTie.lean); close each card by the builder's one call (the guide's Derived/Test/ToyasCard.lean, 'card_holds'). Laid BY PROGRAM, IN A SANDBOX (cutbox-door.mjs). By AI agents, Wed Nov 11 2026. No macro, syntax, notation, axiom, sorry.
-/
import Derived.Test.YtoedfhnphnpbdaaGreatDoorRows
import GoSem.ClaimSeven
namespace Go.Proofs.YtoedfhnphnpbdaaGreatDoor
namespace Rows

/-- THE TIED CARD OF 'boomeranglaw9.PrintKnown'. -/
def printKnownCard : Claim7 := { stood := { row := printKnownRow, standIns := [], harness := (true, "6c1c4ed2e63d374dcb3a2a32792e4210f47cc9fe6ef93ed95d91eb0b521a316f"), looks := true }, kinds := [], alts := [], laidByText := true, laidKinds := [.data, .data, .data], laidTests := true, laidLooks := .later }
def PrintKnownCardSaid : Prop := Claim7.holds Tryz.pinned (.plain (OpenSpec.ofChange printKnownSpec)) printKnownCard

/-- THE TIED CARD OF 'boomeranglaw9.PrintTwice'. -/
def printTwiceCard : Claim7 := { stood := { row := printTwiceRow, standIns := [], harness := (true, "6c1c4ed2e63d374dcb3a2a32792e4210f47cc9fe6ef93ed95d91eb0b521a316f"), looks := true }, kinds := [], alts := [], laidByText := true, laidKinds := [.data, .data, .data], laidTests := true, laidLooks := .later }
def PrintTwiceCardSaid : Prop := Claim7.holds Tryz.pinned (.plain (OpenSpec.ofChange printTwiceSpec)) printTwiceCard

/-- THE SECOND FORM's CARD OF 'boomeranglaw9.PrintKnown'. -/
def printKnownUptoCard : Claim7 := { stood := { row := printKnownUptoRow, standIns := [], harness := (true, "6c1c4ed2e63d374dcb3a2a32792e4210f47cc9fe6ef93ed95d91eb0b521a316f"), looks := true }, kinds := [], alts := [], laidByText := true, laidKinds := [.data, .data, .data], laidTests := true, laidLooks := .later }
def PrintKnownUptoCardSaid : Prop := Claim7.holds Tryz.pinned (.plain (OpenSpec.upto printKnownSpec)) printKnownUptoCard

/-- THE SECOND FORM's CARD OF 'boomeranglaw9.PrintTwice'. -/
def printTwiceUptoCard : Claim7 := { stood := { row := printTwiceUptoRow, standIns := [], harness := (true, "6c1c4ed2e63d374dcb3a2a32792e4210f47cc9fe6ef93ed95d91eb0b521a316f"), looks := true }, kinds := [], alts := [], laidByText := true, laidKinds := [.data, .data, .data], laidTests := true, laidLooks := .later }
def PrintTwiceUptoCardSaid : Prop := Claim7.holds Tryz.pinned (.plain (OpenSpec.upto printTwiceSpec)) printTwiceUptoCard
end Rows
end Go.Proofs.YtoedfhnphnpbdaaGreatDoor
