/-
  DERIVED. GIVEN WITH THE SEED: THE CARDS: each row of YtlbooinipoaapaaDoorRows.lean that lists a variable, with what it lists TIED to the program's text (the seventh form; the later family's looks); each row that meets fmt, with fmt's text TOLD by the authors' own Lean function (tested against real Go, not proved from fmt's source: count such statements apart). THE CARD IS WHAT COUNTS. Prove the row's statement (the work); the ties are given (YtlbooinipoaapaaDoorTie.lean); close each card by the builder's one call (the guide's Derived/Test/ToyasCard.lean, 'card_holds'). Laid BY PROGRAM, IN A SANDBOX (cutbox-door.mjs). By AI agents, Wed Nov 11 2026. No macro, syntax, notation, axiom, sorry.
-/
import Derived.Test.YtlbooinipoaapaaDoorRows
import GoSem.ClaimSeven
namespace Go.Proofs.YtlbooinipoaapaaDoor
namespace Rows

/-- THE TIED CARD OF 'boomeranglaw7.LexTexts'. -/
def lexTextsCard : Claim7 := { stood := { row := lexTextsRow, standIns := [], harness := (true, "81b1a532aea496cf18ef9cb32143a52f5414bd40a5248096d3584e76d76d5d84"), looks := false }, kinds := [], alts := [], laidByText := true, laidKinds := [.listed, .data], laidTests := true, laidLooks := .later }
def LexTextsCardSaid : Prop := Claim7.holds Tryd.pinned (.plain (OpenSpec.ofChange lexTextsSpec)) lexTextsCard

/-- THE TIED CARD OF 'boomeranglaw7.LexNumbers'. -/
def lexNumbersCard : Claim7 := { stood := { row := lexNumbersRow, standIns := [], harness := (true, "81b1a532aea496cf18ef9cb32143a52f5414bd40a5248096d3584e76d76d5d84"), looks := false }, kinds := [], alts := [], laidByText := true, laidKinds := [.listed, .data], laidTests := true, laidLooks := .later }
def LexNumbersCardSaid : Prop := Claim7.holds Tryd.pinned (.plain (OpenSpec.ofChange lexNumbersSpec)) lexNumbersCard

/-- THE TIED CARD OF 'boomeranglaw7.LexBlanks'. -/
def lexBlanksCard : Claim7 := { stood := { row := lexBlanksRow, standIns := [], harness := (true, "81b1a532aea496cf18ef9cb32143a52f5414bd40a5248096d3584e76d76d5d84"), looks := false }, kinds := [], alts := [], laidByText := true, laidKinds := [.listed, .data], laidTests := true, laidLooks := .later }
def LexBlanksCardSaid : Prop := Claim7.holds Tryd.pinned (.plain (OpenSpec.ofChange lexBlanksSpec)) lexBlanksCard

/-- THE TIED CARD OF 'boomeranglaw7.LexSigns'. -/
def lexSignsCard : Claim7 := { stood := { row := lexSignsRow, standIns := [], harness := (true, "81b1a532aea496cf18ef9cb32143a52f5414bd40a5248096d3584e76d76d5d84"), looks := false }, kinds := [], alts := [], laidByText := true, laidKinds := [.listed, .data], laidTests := true, laidLooks := .later }
def LexSignsCardSaid : Prop := Claim7.holds Tryd.pinned (.plain (OpenSpec.ofChange lexSignsSpec)) lexSignsCard

/-- THE TIED CARD OF 'boomeranglaw7.LexAll'. -/
def lexAllCard : Claim7 := { stood := { row := lexAllRow, standIns := [], harness := (true, "81b1a532aea496cf18ef9cb32143a52f5414bd40a5248096d3584e76d76d5d84"), looks := false }, kinds := [], alts := [], laidByText := true, laidKinds := [.listed, .data], laidTests := true, laidLooks := .later }
def LexAllCardSaid : Prop := Claim7.holds Tryd.pinned (.plain (OpenSpec.ofChange lexAllSpec)) lexAllCard

/-- THE TIED CARD OF 'boomeranglaw7.LexMade'. -/
def lexMadeCard : Claim7 := { stood := { row := lexMadeRow, standIns := [], harness := (true, "81b1a532aea496cf18ef9cb32143a52f5414bd40a5248096d3584e76d76d5d84"), looks := false }, kinds := [], alts := [], laidByText := true, laidKinds := [.listed, .data], laidTests := true, laidLooks := .later }
def LexMadeCardSaid : Prop := Claim7.holds Tryd.pinned (.plain (OpenSpec.ofChange lexMadeSpec)) lexMadeCard

/-- THE TIED CARD OF 'boomeranglaw7.LexRows'. -/
def lexRowsCard : Claim7 := { stood := { row := lexRowsRow, standIns := [], harness := (true, "81b1a532aea496cf18ef9cb32143a52f5414bd40a5248096d3584e76d76d5d84"), looks := false }, kinds := [], alts := [], laidByText := true, laidKinds := [.listed, .data], laidTests := true, laidLooks := .later }
def LexRowsCardSaid : Prop := Claim7.holds Tryd.pinned (.plain (OpenSpec.ofChange lexRowsSpec)) lexRowsCard

/-- THE SECOND FORM's CARD OF 'boomeranglaw7.LexTexts'. -/
def lexTextsUptoCard : Claim7 := { stood := { row := lexTextsUptoRow, standIns := [], harness := (true, "81b1a532aea496cf18ef9cb32143a52f5414bd40a5248096d3584e76d76d5d84"), looks := false }, kinds := [], alts := [], laidByText := true, laidKinds := [.listed, .data], laidTests := true, laidLooks := .later }
def LexTextsUptoCardSaid : Prop := Claim7.holds Tryd.pinned (.plain (OpenSpec.upto lexTextsSpec)) lexTextsUptoCard

/-- THE SECOND FORM's CARD OF 'boomeranglaw7.LexNumbers'. -/
def lexNumbersUptoCard : Claim7 := { stood := { row := lexNumbersUptoRow, standIns := [], harness := (true, "81b1a532aea496cf18ef9cb32143a52f5414bd40a5248096d3584e76d76d5d84"), looks := false }, kinds := [], alts := [], laidByText := true, laidKinds := [.listed, .data], laidTests := true, laidLooks := .later }
def LexNumbersUptoCardSaid : Prop := Claim7.holds Tryd.pinned (.plain (OpenSpec.upto lexNumbersSpec)) lexNumbersUptoCard

/-- THE SECOND FORM's CARD OF 'boomeranglaw7.LexBlanks'. -/
def lexBlanksUptoCard : Claim7 := { stood := { row := lexBlanksUptoRow, standIns := [], harness := (true, "81b1a532aea496cf18ef9cb32143a52f5414bd40a5248096d3584e76d76d5d84"), looks := false }, kinds := [], alts := [], laidByText := true, laidKinds := [.listed, .data], laidTests := true, laidLooks := .later }
def LexBlanksUptoCardSaid : Prop := Claim7.holds Tryd.pinned (.plain (OpenSpec.upto lexBlanksSpec)) lexBlanksUptoCard

/-- THE SECOND FORM's CARD OF 'boomeranglaw7.LexSigns'. -/
def lexSignsUptoCard : Claim7 := { stood := { row := lexSignsUptoRow, standIns := [], harness := (true, "81b1a532aea496cf18ef9cb32143a52f5414bd40a5248096d3584e76d76d5d84"), looks := false }, kinds := [], alts := [], laidByText := true, laidKinds := [.listed, .data], laidTests := true, laidLooks := .later }
def LexSignsUptoCardSaid : Prop := Claim7.holds Tryd.pinned (.plain (OpenSpec.upto lexSignsSpec)) lexSignsUptoCard

/-- THE SECOND FORM's CARD OF 'boomeranglaw7.LexAll'. -/
def lexAllUptoCard : Claim7 := { stood := { row := lexAllUptoRow, standIns := [], harness := (true, "81b1a532aea496cf18ef9cb32143a52f5414bd40a5248096d3584e76d76d5d84"), looks := false }, kinds := [], alts := [], laidByText := true, laidKinds := [.listed, .data], laidTests := true, laidLooks := .later }
def LexAllUptoCardSaid : Prop := Claim7.holds Tryd.pinned (.plain (OpenSpec.upto lexAllSpec)) lexAllUptoCard

/-- THE SECOND FORM's CARD OF 'boomeranglaw7.LexMade'. -/
def lexMadeUptoCard : Claim7 := { stood := { row := lexMadeUptoRow, standIns := [], harness := (true, "81b1a532aea496cf18ef9cb32143a52f5414bd40a5248096d3584e76d76d5d84"), looks := false }, kinds := [], alts := [], laidByText := true, laidKinds := [.listed, .data], laidTests := true, laidLooks := .later }
def LexMadeUptoCardSaid : Prop := Claim7.holds Tryd.pinned (.plain (OpenSpec.upto lexMadeSpec)) lexMadeUptoCard

/-- THE SECOND FORM's CARD OF 'boomeranglaw7.LexRows'. -/
def lexRowsUptoCard : Claim7 := { stood := { row := lexRowsUptoRow, standIns := [], harness := (true, "81b1a532aea496cf18ef9cb32143a52f5414bd40a5248096d3584e76d76d5d84"), looks := false }, kinds := [], alts := [], laidByText := true, laidKinds := [.listed, .data], laidTests := true, laidLooks := .later }
def LexRowsUptoCardSaid : Prop := Claim7.holds Tryd.pinned (.plain (OpenSpec.upto lexRowsSpec)) lexRowsUptoCard
end Rows
end Go.Proofs.YtlbooinipoaapaaDoor
