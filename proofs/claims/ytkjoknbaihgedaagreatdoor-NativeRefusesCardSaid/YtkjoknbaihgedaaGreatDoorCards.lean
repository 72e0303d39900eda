/-
  DERIVED. GIVEN WITH THE SEED: THE CARDS: each row of YtkjoknbaihgedaaGreatDoorRows.lean that lists a variable, with what it lists TIED to the program's text (the seventh form; the later family's looks); each row that meets fmt, with fmt's text TOLD by the authors' own Lean function (tested against real Go, not proved from fmt's source: count such statements apart). THE CARD IS WHAT COUNTS. Prove the row's statement (the work); the ties are given (YtkjoknbaihgedaaGreatDoorTie.lean); close each card by the builder's one call (the guide's Derived/Test/ToyasCard.lean, 'card_holds'). Laid BY PROGRAM, IN A SANDBOX (cutbox-door.mjs). By AI agents, Wed Nov 11 2026. No macro, syntax, notation, axiom, sorry.
-/
import Derived.Test.YtkjoknbaihgedaaGreatDoorRows
import GoSem.ClaimSeven
namespace Go.Proofs.YtkjoknbaihgedaaGreatDoor
namespace Rows

/-- THE TIED CARD OF 'boomeranglaw17.NativeRefuses'. -/
def nativeRefusesCard : Claim7 := { stood := { row := nativeRefusesRow, standIns := [], harness := (true, "8633000d0e7ad0e747abbad0866e4723ee3c385ef1d90ef0645fe96071be5b4e"), looks := true }, kinds := [], alts := [], laidByText := true, laidKinds := [.data, .data, .data, .listed, .data], laidTests := true, laidLooks := .later }
def NativeRefusesCardSaid : Prop := Claim7.holds Tryz.pinned (.plain (OpenSpec.ofChange nativeRefusesSpec)) nativeRefusesCard

/-- THE SECOND FORM's CARD OF 'boomeranglaw17.NativeRefuses'. -/
def nativeRefusesUptoCard : Claim7 := { stood := { row := nativeRefusesUptoRow, standIns := [], harness := (true, "8633000d0e7ad0e747abbad0866e4723ee3c385ef1d90ef0645fe96071be5b4e"), looks := true }, kinds := [], alts := [], laidByText := true, laidKinds := [.data, .data, .data, .listed, .data], laidTests := true, laidLooks := .later }
def NativeRefusesUptoCardSaid : Prop := Claim7.holds Tryz.pinned (.plain (OpenSpec.upto nativeRefusesSpec)) nativeRefusesUptoCard
end Rows
end Go.Proofs.YtkjoknbaihgedaaGreatDoor
