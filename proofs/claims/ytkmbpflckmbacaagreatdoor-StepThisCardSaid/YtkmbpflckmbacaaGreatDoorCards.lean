/-
  DERIVED. GIVEN WITH THE SEED: THE CARDS: each row of YtkmbpflckmbacaaGreatDoorRows.lean that lists a variable, with what it lists TIED to the program's text (the seventh form; the later family's looks); each row that meets fmt, with fmt's text TOLD by the authors' own Lean function (tested against real Go, not proved from fmt's source: count such statements apart). THE CARD IS WHAT COUNTS. Prove the row's statement (the work); the ties are given (YtkmbpflckmbacaaGreatDoorTie.lean); close each card by the builder's one call (the guide's Derived/Test/ToyasCard.lean, 'card_holds'). Laid BY PROGRAM, IN A SANDBOX (cutbox-door.mjs). By AI agents, Wed Nov 11 2026. No macro, syntax, notation, axiom, sorry.
-/
import Derived.Test.YtkmbpflckmbacaaGreatDoorRows
import GoSem.ClaimSeven
namespace Go.Proofs.YtkmbpflckmbacaaGreatDoor
namespace Rows

/-- THE TIED CARD OF 'boomeranglaw19.StepJumps'. -/
def stepJumpsCard : Claim7 := { stood := { row := stepJumpsRow, standIns := [], harness := (true, "5a3d00ba45e52054d04116efd7a3346baf621e17c49d919a0a4adbdc7180512d"), looks := true }, kinds := [], alts := [], laidByText := true, laidKinds := [.data, .data, .data, .listed, .data], laidTests := true, laidLooks := .later }
def StepJumpsCardSaid : Prop := Claim7.holds Tryz.pinned (.plain (OpenSpec.ofChange stepJumpsSpec)) stepJumpsCard

/-- THE TIED CARD OF 'boomeranglaw19.StepScopes'. -/
def stepScopesCard : Claim7 := { stood := { row := stepScopesRow, standIns := [], harness := (true, "5a3d00ba45e52054d04116efd7a3346baf621e17c49d919a0a4adbdc7180512d"), looks := true }, kinds := [], alts := [], laidByText := true, laidKinds := [.data, .data, .data, .listed, .data], laidTests := true, laidLooks := .later }
def StepScopesCardSaid : Prop := Claim7.holds Tryz.pinned (.plain (OpenSpec.ofChange stepScopesSpec)) stepScopesCard

/-- THE TIED CARD OF 'boomeranglaw19.StepTries'. -/
def stepTriesCard : Claim7 := { stood := { row := stepTriesRow, standIns := [], harness := (true, "5a3d00ba45e52054d04116efd7a3346baf621e17c49d919a0a4adbdc7180512d"), looks := true }, kinds := [], alts := [], laidByText := true, laidKinds := [.data, .data, .data, .listed, .data], laidTests := true, laidLooks := .later }
def StepTriesCardSaid : Prop := Claim7.holds Tryz.pinned (.plain (OpenSpec.ofChange stepTriesSpec)) stepTriesCard

/-- THE TIED CARD OF 'boomeranglaw19.StepThis'. -/
def stepThisCard : Claim7 := { stood := { row := stepThisRow, standIns := [], harness := (true, "5a3d00ba45e52054d04116efd7a3346baf621e17c49d919a0a4adbdc7180512d"), looks := true }, kinds := [], alts := [], laidByText := true, laidKinds := [.data, .data, .data, .listed, .data], laidTests := true, laidLooks := .later }
def StepThisCardSaid : Prop := Claim7.holds Tryz.pinned (.plain (OpenSpec.ofChange stepThisSpec)) stepThisCard

/-- THE TIED CARD OF 'boomeranglaw19.StepKnown'. -/
def stepKnownCard : Claim7 := { stood := { row := stepKnownRow, standIns := [], harness := (true, "5a3d00ba45e52054d04116efd7a3346baf621e17c49d919a0a4adbdc7180512d"), looks := true }, kinds := [], alts := [], laidByText := true, laidKinds := [.data, .data, .data, .listed, .data], laidTests := true, laidLooks := .later }
def StepKnownCardSaid : Prop := Claim7.holds Tryz.pinned (.plain (OpenSpec.ofChange stepKnownSpec)) stepKnownCard

/-- THE TIED CARD OF 'boomeranglaw19.StepGens'. -/
def stepGensCard : Claim7 := { stood := { row := stepGensRow, standIns := [], harness := (true, "5a3d00ba45e52054d04116efd7a3346baf621e17c49d919a0a4adbdc7180512d"), looks := true }, kinds := [], alts := [], laidByText := true, laidKinds := [.data, .data, .data, .listed, .data], laidTests := true, laidLooks := .later }
def StepGensCardSaid : Prop := Claim7.holds Tryz.pinned (.plain (OpenSpec.ofChange stepGensSpec)) stepGensCard

/-- THE SECOND FORM's CARD OF 'boomeranglaw19.StepJumps'. -/
def stepJumpsUptoCard : Claim7 := { stood := { row := stepJumpsUptoRow, standIns := [], harness := (true, "5a3d00ba45e52054d04116efd7a3346baf621e17c49d919a0a4adbdc7180512d"), looks := true }, kinds := [], alts := [], laidByText := true, laidKinds := [.data, .data, .data, .listed, .data], laidTests := true, laidLooks := .later }
def StepJumpsUptoCardSaid : Prop := Claim7.holds Tryz.pinned (.plain (OpenSpec.upto stepJumpsSpec)) stepJumpsUptoCard

/-- THE SECOND FORM's CARD OF 'boomeranglaw19.StepScopes'. -/
def stepScopesUptoCard : Claim7 := { stood := { row := stepScopesUptoRow, standIns := [], harness := (true, "5a3d00ba45e52054d04116efd7a3346baf621e17c49d919a0a4adbdc7180512d"), looks := true }, kinds := [], alts := [], laidByText := true, laidKinds := [.data, .data, .data, .listed, .data], laidTests := true, laidLooks := .later }
def StepScopesUptoCardSaid : Prop := Claim7.holds Tryz.pinned (.plain (OpenSpec.upto stepScopesSpec)) stepScopesUptoCard

/-- THE SECOND FORM's CARD OF 'boomeranglaw19.StepTries'. -/
def stepTriesUptoCard : Claim7 := { stood := { row := stepTriesUptoRow, standIns := [], harness := (true, "5a3d00ba45e52054d04116efd7a3346baf621e17c49d919a0a4adbdc7180512d"), looks := true }, kinds := [], alts := [], laidByText := true, laidKinds := [.data, .data, .data, .listed, .data], laidTests := true, laidLooks := .later }
def StepTriesUptoCardSaid : Prop := Claim7.holds Tryz.pinned (.plain (OpenSpec.upto stepTriesSpec)) stepTriesUptoCard

/-- THE SECOND FORM's CARD OF 'boomeranglaw19.StepThis'. -/
def stepThisUptoCard : Claim7 := { stood := { row := stepThisUptoRow, standIns := [], harness := (true, "5a3d00ba45e52054d04116efd7a3346baf621e17c49d919a0a4adbdc7180512d"), looks := true }, kinds := [], alts := [], laidByText := true, laidKinds := [.data, .data, .data, .listed, .data], laidTests := true, laidLooks := .later }
def StepThisUptoCardSaid : Prop := Claim7.holds Tryz.pinned (.plain (OpenSpec.upto stepThisSpec)) stepThisUptoCard

/-- THE SECOND FORM's CARD OF 'boomeranglaw19.StepKnown'. -/
def stepKnownUptoCard : Claim7 := { stood := { row := stepKnownUptoRow, standIns := [], harness := (true, "5a3d00ba45e52054d04116efd7a3346baf621e17c49d919a0a4adbdc7180512d"), looks := true }, kinds := [], alts := [], laidByText := true, laidKinds := [.data, .data, .data, .listed, .data], laidTests := true, laidLooks := .later }
def StepKnownUptoCardSaid : Prop := Claim7.holds Tryz.pinned (.plain (OpenSpec.upto stepKnownSpec)) stepKnownUptoCard

/-- THE SECOND FORM's CARD OF 'boomeranglaw19.StepGens'. -/
def stepGensUptoCard : Claim7 := { stood := { row := stepGensUptoRow, standIns := [], harness := (true, "5a3d00ba45e52054d04116efd7a3346baf621e17c49d919a0a4adbdc7180512d"), looks := true }, kinds := [], alts := [], laidByText := true, laidKinds := [.data, .data, .data, .listed, .data], laidTests := true, laidLooks := .later }
def StepGensUptoCardSaid : Prop := Claim7.holds Tryz.pinned (.plain (OpenSpec.upto stepGensSpec)) stepGensUptoCard
end Rows
end Go.Proofs.YtkmbpflckmbacaaGreatDoor
