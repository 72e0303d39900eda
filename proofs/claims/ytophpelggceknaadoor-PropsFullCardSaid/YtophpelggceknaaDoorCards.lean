/-
  DERIVED. GIVEN WITH THE SEED: THE CARDS: each row of YtophpelggceknaaDoorRows.lean that lists a variable, with what it lists TIED to the program's text (the seventh form; the later family's looks); each row that meets fmt, with fmt's text TOLD by the authors' own Lean function (tested against real Go, not proved from fmt's source: count such statements apart). THE CARD IS WHAT COUNTS. Prove the row's statement (the work); the ties are given (YtophpelggceknaaDoorTie.lean); close each card by the builder's one call (the guide's Derived/Test/ToyasCard.lean, 'card_holds'). Laid BY PROGRAM, IN A SANDBOX (cutbox-door.mjs). By AI agents, Wed Nov 11 2026. No macro, syntax, notation, axiom, sorry.
-/
import Derived.Test.YtophpelggceknaaDoorRows
import GoSem.ClaimSeven
namespace Go.Proofs.YtophpelggceknaaDoor
namespace Rows

/-- THE TIED CARD OF 'boomeranglaw15.PropsArrays'. -/
def propsArraysCard : Claim7 := { stood := { row := propsArraysRow, standIns := [], harness := (true, "b2280ed3e1eaceb95f91366fa8330d8151e133558abcf15e28d332a1820bdc5d"), looks := false }, kinds := [], alts := [], laidByText := true, laidKinds := [.data, .data, .data], laidTests := true, laidLooks := .later }
def PropsArraysCardSaid : Prop := Claim7.holds Tryd.pinned (.plain (OpenSpec.ofChange propsArraysSpec)) propsArraysCard

/-- THE TIED CARD OF 'boomeranglaw15.PropsKinds'. -/
def propsKindsCard : Claim7 := { stood := { row := propsKindsRow, standIns := [], harness := (true, "b2280ed3e1eaceb95f91366fa8330d8151e133558abcf15e28d332a1820bdc5d"), looks := false }, kinds := [], alts := [], laidByText := true, laidKinds := [.data, .data, .data], laidTests := true, laidLooks := .later }
def PropsKindsCardSaid : Prop := Claim7.holds Tryd.pinned (.plain (OpenSpec.ofChange propsKindsSpec)) propsKindsCard

/-- THE TIED CARD OF 'boomeranglaw15.PropsFull'. -/
def propsFullCard : Claim7 := { stood := { row := propsFullRow, standIns := [], harness := (true, "b2280ed3e1eaceb95f91366fa8330d8151e133558abcf15e28d332a1820bdc5d"), looks := false }, kinds := [], alts := [], laidByText := true, laidKinds := [.data, .data, .data], laidTests := true, laidLooks := .later }
def PropsFullCardSaid : Prop := Claim7.holds Tryd.pinned (.plain (OpenSpec.ofChange propsFullSpec)) propsFullCard

/-- THE TIED CARD OF 'boomeranglaw15.PropsMade'. -/
def propsMadeCard : Claim7 := { stood := { row := propsMadeRow, standIns := [], harness := (true, "b2280ed3e1eaceb95f91366fa8330d8151e133558abcf15e28d332a1820bdc5d"), looks := false }, kinds := [], alts := [], laidByText := true, laidKinds := [.data, .data, .data], laidTests := true, laidLooks := .later }
def PropsMadeCardSaid : Prop := Claim7.holds Tryd.pinned (.plain (OpenSpec.ofChange propsMadeSpec)) propsMadeCard

/-- THE SECOND FORM's CARD OF 'boomeranglaw15.PropsArrays'. -/
def propsArraysUptoCard : Claim7 := { stood := { row := propsArraysUptoRow, standIns := [], harness := (true, "b2280ed3e1eaceb95f91366fa8330d8151e133558abcf15e28d332a1820bdc5d"), looks := false }, kinds := [], alts := [], laidByText := true, laidKinds := [.data, .data, .data], laidTests := true, laidLooks := .later }
def PropsArraysUptoCardSaid : Prop := Claim7.holds Tryd.pinned (.plain (OpenSpec.upto propsArraysSpec)) propsArraysUptoCard

/-- THE SECOND FORM's CARD OF 'boomeranglaw15.PropsKinds'. -/
def propsKindsUptoCard : Claim7 := { stood := { row := propsKindsUptoRow, standIns := [], harness := (true, "b2280ed3e1eaceb95f91366fa8330d8151e133558abcf15e28d332a1820bdc5d"), looks := false }, kinds := [], alts := [], laidByText := true, laidKinds := [.data, .data, .data], laidTests := true, laidLooks := .later }
def PropsKindsUptoCardSaid : Prop := Claim7.holds Tryd.pinned (.plain (OpenSpec.upto propsKindsSpec)) propsKindsUptoCard

/-- THE SECOND FORM's CARD OF 'boomeranglaw15.PropsFull'. -/
def propsFullUptoCard : Claim7 := { stood := { row := propsFullUptoRow, standIns := [], harness := (true, "b2280ed3e1eaceb95f91366fa8330d8151e133558abcf15e28d332a1820bdc5d"), looks := false }, kinds := [], alts := [], laidByText := true, laidKinds := [.data, .data, .data], laidTests := true, laidLooks := .later }
def PropsFullUptoCardSaid : Prop := Claim7.holds Tryd.pinned (.plain (OpenSpec.upto propsFullSpec)) propsFullUptoCard

/-- THE SECOND FORM's CARD OF 'boomeranglaw15.PropsMade'. -/
def propsMadeUptoCard : Claim7 := { stood := { row := propsMadeUptoRow, standIns := [], harness := (true, "b2280ed3e1eaceb95f91366fa8330d8151e133558abcf15e28d332a1820bdc5d"), looks := false }, kinds := [], alts := [], laidByText := true, laidKinds := [.data, .data, .data], laidTests := true, laidLooks := .later }
def PropsMadeUptoCardSaid : Prop := Claim7.holds Tryd.pinned (.plain (OpenSpec.upto propsMadeSpec)) propsMadeUptoCard
end Rows
end Go.Proofs.YtophpelggceknaaDoor
