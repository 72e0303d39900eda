/-
  DERIVED. GIVEN WITH THE SEED: THE CARDS: each row of YthkbcgbmeajfbaaGreatDoorRows.lean that lists a variable, with what it lists TIED to the program's text (the seventh form; the later family's looks); each row that meets fmt, with fmt's text TOLD by the authors' own Lean function (tested against real Go, not proved from fmt's source: count such statements apart). THE CARD IS WHAT COUNTS. Prove the row's statement (the work); the ties are given (YthkbcgbmeajfbaaGreatDoorTie.lean); close each card by the builder's one call (the guide's Derived/Test/ToyasCard.lean, 'card_holds'). Laid BY PROGRAM, IN A SANDBOX (cutbox-door.mjs). By AI agents, Wed Nov 11 2026. No macro, syntax, notation, axiom, sorry.
-/
import Derived.Test.YthkbcgbmeajfbaaGreatDoorRows
import GoSem.ClaimSeven
namespace Go.Proofs.YthkbcgbmeajfbaaGreatDoor
namespace Rows

/-- THE TIED CARD OF 'boomeranglaw20.LoopKnown'. -/
def loopKnownCard : Claim7 := { stood := { row := loopKnownRow, standIns := [], harness := (true, "9db8a851a85c6af4d437589a683bd98720a3f3cf5216faedb905621f777ebcae"), looks := true }, kinds := [], alts := [], laidByText := true, laidKinds := [.data, .data, .data, .listed, .data], laidTests := true, laidLooks := .later }
def LoopKnownCardSaid : Prop := Claim7.holds Tryz.pinned (.plain (OpenSpec.ofChange loopKnownSpec)) loopKnownCard

/-- THE TIED CARD OF 'boomeranglaw20.LoopWrong'. -/
def loopWrongCard : Claim7 := { stood := { row := loopWrongRow, standIns := [], harness := (true, "9db8a851a85c6af4d437589a683bd98720a3f3cf5216faedb905621f777ebcae"), looks := true }, kinds := [], alts := [], laidByText := true, laidKinds := [.data, .data, .data, .listed, .data], laidTests := true, laidLooks := .later }
def LoopWrongCardSaid : Prop := Claim7.holds Tryz.pinned (.plain (OpenSpec.ofChange loopWrongSpec)) loopWrongCard

/-- THE SECOND FORM's CARD OF 'boomeranglaw20.LoopKnown'. -/
def loopKnownUptoCard : Claim7 := { stood := { row := loopKnownUptoRow, standIns := [], harness := (true, "9db8a851a85c6af4d437589a683bd98720a3f3cf5216faedb905621f777ebcae"), looks := true }, kinds := [], alts := [], laidByText := true, laidKinds := [.data, .data, .data, .listed, .data], laidTests := true, laidLooks := .later }
def LoopKnownUptoCardSaid : Prop := Claim7.holds Tryz.pinned (.plain (OpenSpec.upto loopKnownSpec)) loopKnownUptoCard

/-- THE SECOND FORM's CARD OF 'boomeranglaw20.LoopWrong'. -/
def loopWrongUptoCard : Claim7 := { stood := { row := loopWrongUptoRow, standIns := [], harness := (true, "9db8a851a85c6af4d437589a683bd98720a3f3cf5216faedb905621f777ebcae"), looks := true }, kinds := [], alts := [], laidByText := true, laidKinds := [.data, .data, .data, .listed, .data], laidTests := true, laidLooks := .later }
def LoopWrongUptoCardSaid : Prop := Claim7.holds Tryz.pinned (.plain (OpenSpec.upto loopWrongSpec)) loopWrongUptoCard
end Rows
end Go.Proofs.YthkbcgbmeajfbaaGreatDoor
