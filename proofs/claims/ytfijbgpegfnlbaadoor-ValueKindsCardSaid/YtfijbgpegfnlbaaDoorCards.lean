/-
  DERIVED. GIVEN WITH THE SEED: THE CARDS: each row of YtfijbgpegfnlbaaDoorRows.lean that lists a variable, with what it lists TIED to the program's text (the seventh form; the later family's looks); each row that meets fmt, with fmt's text TOLD by the authors' own Lean function (tested against real Go, not proved from fmt's source: count such statements apart). THE CARD IS WHAT COUNTS. Prove the row's statement (the work); the ties are given (YtfijbgpegfnlbaaDoorTie.lean); close each card by the builder's one call (the guide's Derived/Test/ToyasCard.lean, 'card_holds'). Laid BY PROGRAM, IN A SANDBOX (cutbox-door.mjs). By AI agents, Wed Nov 11 2026. No macro, syntax, notation, axiom, sorry.
-/
import Derived.Test.YtfijbgpegfnlbaaDoorRows
import GoSem.ClaimSeven
namespace Go.Proofs.YtfijbgpegfnlbaaDoor
namespace Rows

/-- THE TIED CARD OF 'boomeranglaw13.ValueRefuses'. -/
def valueRefusesCard : Claim7 := { stood := { row := valueRefusesRow, standIns := [], harness := (true, "b557755df34b325082a65fcabd2958195cdd641aec3c3af73290d20163be4633"), looks := false }, kinds := [], alts := [], laidByText := true, laidKinds := [.data, .data, .data], laidTests := true, laidLooks := .later }
def ValueRefusesCardSaid : Prop := Claim7.holds Tryd.pinned (.plain (OpenSpec.ofChange valueRefusesSpec)) valueRefusesCard

/-- THE TIED CARD OF 'boomeranglaw13.ValueAll'. -/
def valueAllCard : Claim7 := { stood := { row := valueAllRow, standIns := [], harness := (true, "b557755df34b325082a65fcabd2958195cdd641aec3c3af73290d20163be4633"), looks := false }, kinds := [], alts := [], laidByText := true, laidKinds := [.data, .data, .data], laidTests := true, laidLooks := .later }
def ValueAllCardSaid : Prop := Claim7.holds Tryd.pinned (.plain (OpenSpec.ofChange valueAllSpec)) valueAllCard

/-- THE TIED CARD OF 'boomeranglaw13.ValueKinds'. -/
def valueKindsCard : Claim7 := { stood := { row := valueKindsRow, standIns := [], harness := (true, "b557755df34b325082a65fcabd2958195cdd641aec3c3af73290d20163be4633"), looks := false }, kinds := [], alts := [], laidByText := true, laidKinds := [.data, .data, .data], laidTests := true, laidLooks := .later }
def ValueKindsCardSaid : Prop := Claim7.holds Tryd.pinned (.plain (OpenSpec.ofChange valueKindsSpec)) valueKindsCard

/-- THE TIED CARD OF 'boomeranglaw14.ArithOrders'. -/
def arithOrdersCard : Claim7 := { stood := { row := arithOrdersRow, standIns := [], harness := (true, "b557755df34b325082a65fcabd2958195cdd641aec3c3af73290d20163be4633"), looks := false }, kinds := [], alts := [], laidByText := true, laidKinds := [.data, .data, .data], laidTests := true, laidLooks := .later }
def ArithOrdersCardSaid : Prop := Claim7.holds Tryd.pinned (.plain (OpenSpec.ofChange arithOrdersSpec)) arithOrdersCard

/-- THE TIED CARD OF 'boomeranglaw14.ArithTexts'. -/
def arithTextsCard : Claim7 := { stood := { row := arithTextsRow, standIns := [], harness := (true, "b557755df34b325082a65fcabd2958195cdd641aec3c3af73290d20163be4633"), looks := false }, kinds := [], alts := [], laidByText := true, laidKinds := [.data, .data, .data], laidTests := true, laidLooks := .later }
def ArithTextsCardSaid : Prop := Claim7.holds Tryd.pinned (.plain (OpenSpec.ofChange arithTextsSpec)) arithTextsCard

/-- THE TIED CARD OF 'boomeranglaw14.ArithAll'. -/
def arithAllCard : Claim7 := { stood := { row := arithAllRow, standIns := [], harness := (true, "b557755df34b325082a65fcabd2958195cdd641aec3c3af73290d20163be4633"), looks := false }, kinds := [], alts := [], laidByText := true, laidKinds := [.data, .data, .data], laidTests := true, laidLooks := .later }
def ArithAllCardSaid : Prop := Claim7.holds Tryd.pinned (.plain (OpenSpec.ofChange arithAllSpec)) arithAllCard

/-- THE TIED CARD OF 'boomeranglaw14.ArithNumbers'. -/
def arithNumbersCard : Claim7 := { stood := { row := arithNumbersRow, standIns := [], harness := (true, "b557755df34b325082a65fcabd2958195cdd641aec3c3af73290d20163be4633"), looks := false }, kinds := [], alts := [], laidByText := true, laidKinds := [.data, .data, .data], laidTests := true, laidLooks := .later }
def ArithNumbersCardSaid : Prop := Claim7.holds Tryd.pinned (.plain (OpenSpec.ofChange arithNumbersSpec)) arithNumbersCard

/-- THE TIED CARD OF 'boomeranglaw14.ArithSame'. -/
def arithSameCard : Claim7 := { stood := { row := arithSameRow, standIns := [], harness := (true, "b557755df34b325082a65fcabd2958195cdd641aec3c3af73290d20163be4633"), looks := false }, kinds := [], alts := [], laidByText := true, laidKinds := [.data, .data, .data], laidTests := true, laidLooks := .later }
def ArithSameCardSaid : Prop := Claim7.holds Tryd.pinned (.plain (OpenSpec.ofChange arithSameSpec)) arithSameCard

/-- THE TIED CARD OF 'boomeranglaw14.ArithKinds'. -/
def arithKindsCard : Claim7 := { stood := { row := arithKindsRow, standIns := [], harness := (true, "b557755df34b325082a65fcabd2958195cdd641aec3c3af73290d20163be4633"), looks := false }, kinds := [], alts := [], laidByText := true, laidKinds := [.data, .data, .data], laidTests := true, laidLooks := .later }
def ArithKindsCardSaid : Prop := Claim7.holds Tryd.pinned (.plain (OpenSpec.ofChange arithKindsSpec)) arithKindsCard

/-- THE SECOND FORM's CARD OF 'boomeranglaw13.ValueRefuses'. -/
def valueRefusesUptoCard : Claim7 := { stood := { row := valueRefusesUptoRow, standIns := [], harness := (true, "b557755df34b325082a65fcabd2958195cdd641aec3c3af73290d20163be4633"), looks := false }, kinds := [], alts := [], laidByText := true, laidKinds := [.data, .data, .data], laidTests := true, laidLooks := .later }
def ValueRefusesUptoCardSaid : Prop := Claim7.holds Tryd.pinned (.plain (OpenSpec.upto valueRefusesSpec)) valueRefusesUptoCard

/-- THE SECOND FORM's CARD OF 'boomeranglaw13.ValueAll'. -/
def valueAllUptoCard : Claim7 := { stood := { row := valueAllUptoRow, standIns := [], harness := (true, "b557755df34b325082a65fcabd2958195cdd641aec3c3af73290d20163be4633"), looks := false }, kinds := [], alts := [], laidByText := true, laidKinds := [.data, .data, .data], laidTests := true, laidLooks := .later }
def ValueAllUptoCardSaid : Prop := Claim7.holds Tryd.pinned (.plain (OpenSpec.upto valueAllSpec)) valueAllUptoCard

/-- THE SECOND FORM's CARD OF 'boomeranglaw13.ValueKinds'. -/
def valueKindsUptoCard : Claim7 := { stood := { row := valueKindsUptoRow, standIns := [], harness := (true, "b557755df34b325082a65fcabd2958195cdd641aec3c3af73290d20163be4633"), looks := false }, kinds := [], alts := [], laidByText := true, laidKinds := [.data, .data, .data], laidTests := true, laidLooks := .later }
def ValueKindsUptoCardSaid : Prop := Claim7.holds Tryd.pinned (.plain (OpenSpec.upto valueKindsSpec)) valueKindsUptoCard

/-- THE SECOND FORM's CARD OF 'boomeranglaw14.ArithOrders'. -/
def arithOrdersUptoCard : Claim7 := { stood := { row := arithOrdersUptoRow, standIns := [], harness := (true, "b557755df34b325082a65fcabd2958195cdd641aec3c3af73290d20163be4633"), looks := false }, kinds := [], alts := [], laidByText := true, laidKinds := [.data, .data, .data], laidTests := true, laidLooks := .later }
def ArithOrdersUptoCardSaid : Prop := Claim7.holds Tryd.pinned (.plain (OpenSpec.upto arithOrdersSpec)) arithOrdersUptoCard

/-- THE SECOND FORM's CARD OF 'boomeranglaw14.ArithTexts'. -/
def arithTextsUptoCard : Claim7 := { stood := { row := arithTextsUptoRow, standIns := [], harness := (true, "b557755df34b325082a65fcabd2958195cdd641aec3c3af73290d20163be4633"), looks := false }, kinds := [], alts := [], laidByText := true, laidKinds := [.data, .data, .data], laidTests := true, laidLooks := .later }
def ArithTextsUptoCardSaid : Prop := Claim7.holds Tryd.pinned (.plain (OpenSpec.upto arithTextsSpec)) arithTextsUptoCard

/-- THE SECOND FORM's CARD OF 'boomeranglaw14.ArithAll'. -/
def arithAllUptoCard : Claim7 := { stood := { row := arithAllUptoRow, standIns := [], harness := (true, "b557755df34b325082a65fcabd2958195cdd641aec3c3af73290d20163be4633"), looks := false }, kinds := [], alts := [], laidByText := true, laidKinds := [.data, .data, .data], laidTests := true, laidLooks := .later }
def ArithAllUptoCardSaid : Prop := Claim7.holds Tryd.pinned (.plain (OpenSpec.upto arithAllSpec)) arithAllUptoCard

/-- THE SECOND FORM's CARD OF 'boomeranglaw14.ArithNumbers'. -/
def arithNumbersUptoCard : Claim7 := { stood := { row := arithNumbersUptoRow, standIns := [], harness := (true, "b557755df34b325082a65fcabd2958195cdd641aec3c3af73290d20163be4633"), looks := false }, kinds := [], alts := [], laidByText := true, laidKinds := [.data, .data, .data], laidTests := true, laidLooks := .later }
def ArithNumbersUptoCardSaid : Prop := Claim7.holds Tryd.pinned (.plain (OpenSpec.upto arithNumbersSpec)) arithNumbersUptoCard

/-- THE SECOND FORM's CARD OF 'boomeranglaw14.ArithSame'. -/
def arithSameUptoCard : Claim7 := { stood := { row := arithSameUptoRow, standIns := [], harness := (true, "b557755df34b325082a65fcabd2958195cdd641aec3c3af73290d20163be4633"), looks := false }, kinds := [], alts := [], laidByText := true, laidKinds := [.data, .data, .data], laidTests := true, laidLooks := .later }
def ArithSameUptoCardSaid : Prop := Claim7.holds Tryd.pinned (.plain (OpenSpec.upto arithSameSpec)) arithSameUptoCard

/-- THE SECOND FORM's CARD OF 'boomeranglaw14.ArithKinds'. -/
def arithKindsUptoCard : Claim7 := { stood := { row := arithKindsUptoRow, standIns := [], harness := (true, "b557755df34b325082a65fcabd2958195cdd641aec3c3af73290d20163be4633"), looks := false }, kinds := [], alts := [], laidByText := true, laidKinds := [.data, .data, .data], laidTests := true, laidLooks := .later }
def ArithKindsUptoCardSaid : Prop := Claim7.holds Tryd.pinned (.plain (OpenSpec.upto arithKindsSpec)) arithKindsUptoCard
end Rows
end Go.Proofs.YtfijbgpegfnlbaaDoor
