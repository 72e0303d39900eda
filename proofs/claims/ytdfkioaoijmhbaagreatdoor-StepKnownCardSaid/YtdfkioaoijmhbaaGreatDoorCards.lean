/-
  DERIVED. GIVEN WITH THE SEED: THE CARDS: each row of YtdfkioaoijmhbaaGreatDoorRows.lean that lists a variable, with what it lists TIED to the program's text (the seventh form; the later family's looks); each row that meets fmt, with fmt's text TOLD by the authors' own Lean function (tested against real Go, not proved from fmt's source: count such statements apart). THE CARD IS WHAT COUNTS. Prove the row's statement (the work); the ties are given (YtdfkioaoijmhbaaGreatDoorTie.lean); close each card by the builder's one call (the guide's Derived/Test/ToyasCard.lean, 'card_holds'). Laid BY PROGRAM, IN A SANDBOX (cutbox-door.mjs). By AI agents, Wed Nov 11 2026. No macro, syntax, notation, axiom, sorry.
-/
import Derived.Test.YtdfkioaoijmhbaaGreatDoorRows
import GoSem.ClaimSeven
namespace Go.Proofs.YtdfkioaoijmhbaaGreatDoor
namespace Rows

/-- THE TIED CARD OF 'boomeranglaw19.StepKnown'. -/
def stepKnownCard : Claim7 := { stood := { row := stepKnownRow, standIns := [], harness := (true, "75903c0a64576ae13c8e63148e2e2b5d7fb22af3bd602d106719dedeb55be897"), looks := true }, kinds := [], alts := [], laidByText := true, laidKinds := [.data, .data, .data, .listed, .data], laidTests := true, laidLooks := .later }
def StepKnownCardSaid : Prop := Claim7.holds Tryz.pinned (.plain (OpenSpec.ofChange stepKnownSpec)) stepKnownCard

/-- THE TIED CARD OF 'boomeranglaw19.StepInputs'. -/
def stepInputsCard : Claim7 := { stood := { row := stepInputsRow, standIns := [], harness := (true, "75903c0a64576ae13c8e63148e2e2b5d7fb22af3bd602d106719dedeb55be897"), looks := true }, kinds := [], alts := [], laidByText := true, laidKinds := [.data, .data, .data, .listed, .data], laidTests := true, laidLooks := .later }
def StepInputsCardSaid : Prop := Claim7.holds Tryz.pinned (.plain (OpenSpec.ofChange stepInputsSpec)) stepInputsCard

/-- THE TIED CARD OF 'boomeranglaw19.StepGens'. -/
def stepGensCard : Claim7 := { stood := { row := stepGensRow, standIns := [], harness := (true, "75903c0a64576ae13c8e63148e2e2b5d7fb22af3bd602d106719dedeb55be897"), looks := true }, kinds := [], alts := [], laidByText := true, laidKinds := [.data, .data, .data, .listed, .data], laidTests := true, laidLooks := .later }
def StepGensCardSaid : Prop := Claim7.holds Tryz.pinned (.plain (OpenSpec.ofChange stepGensSpec)) stepGensCard

/-- THE TIED CARD OF 'boomeranglaw19.StepArith'. -/
def stepArithCard : Claim7 := { stood := { row := stepArithRow, standIns := [], harness := (true, "75903c0a64576ae13c8e63148e2e2b5d7fb22af3bd602d106719dedeb55be897"), looks := true }, kinds := [], alts := [], laidByText := true, laidKinds := [.data, .data, .data, .listed, .data], laidTests := true, laidLooks := .later }
def StepArithCardSaid : Prop := Claim7.holds Tryz.pinned (.plain (OpenSpec.ofChange stepArithSpec)) stepArithCard

/-- THE SECOND FORM's CARD OF 'boomeranglaw19.StepKnown'. -/
def stepKnownUptoCard : Claim7 := { stood := { row := stepKnownUptoRow, standIns := [], harness := (true, "75903c0a64576ae13c8e63148e2e2b5d7fb22af3bd602d106719dedeb55be897"), looks := true }, kinds := [], alts := [], laidByText := true, laidKinds := [.data, .data, .data, .listed, .data], laidTests := true, laidLooks := .later }
def StepKnownUptoCardSaid : Prop := Claim7.holds Tryz.pinned (.plain (OpenSpec.upto stepKnownSpec)) stepKnownUptoCard

/-- THE SECOND FORM's CARD OF 'boomeranglaw19.StepInputs'. -/
def stepInputsUptoCard : Claim7 := { stood := { row := stepInputsUptoRow, standIns := [], harness := (true, "75903c0a64576ae13c8e63148e2e2b5d7fb22af3bd602d106719dedeb55be897"), looks := true }, kinds := [], alts := [], laidByText := true, laidKinds := [.data, .data, .data, .listed, .data], laidTests := true, laidLooks := .later }
def StepInputsUptoCardSaid : Prop := Claim7.holds Tryz.pinned (.plain (OpenSpec.upto stepInputsSpec)) stepInputsUptoCard

/-- THE SECOND FORM's CARD OF 'boomeranglaw19.StepGens'. -/
def stepGensUptoCard : Claim7 := { stood := { row := stepGensUptoRow, standIns := [], harness := (true, "75903c0a64576ae13c8e63148e2e2b5d7fb22af3bd602d106719dedeb55be897"), looks := true }, kinds := [], alts := [], laidByText := true, laidKinds := [.data, .data, .data, .listed, .data], laidTests := true, laidLooks := .later }
def StepGensUptoCardSaid : Prop := Claim7.holds Tryz.pinned (.plain (OpenSpec.upto stepGensSpec)) stepGensUptoCard

/-- THE SECOND FORM's CARD OF 'boomeranglaw19.StepArith'. -/
def stepArithUptoCard : Claim7 := { stood := { row := stepArithUptoRow, standIns := [], harness := (true, "75903c0a64576ae13c8e63148e2e2b5d7fb22af3bd602d106719dedeb55be897"), looks := true }, kinds := [], alts := [], laidByText := true, laidKinds := [.data, .data, .data, .listed, .data], laidTests := true, laidLooks := .later }
def StepArithUptoCardSaid : Prop := Claim7.holds Tryz.pinned (.plain (OpenSpec.upto stepArithSpec)) stepArithUptoCard
end Rows
end Go.Proofs.YtdfkioaoijmhbaaGreatDoor
