/-
  DERIVED. GIVEN WITH THE SEED: THE CARDS: each row of YtheihhjlkefhgaaDoorRows.lean that lists a variable, with what it lists TIED to the program's text (the seventh form; the later family's looks); each row that meets fmt, with fmt's text TOLD by the authors' own Lean function (tested against real Go, not proved from fmt's source: count such statements apart). THE CARD IS WHAT COUNTS. Prove the row's statement (the work); the ties are given (YtheihhjlkefhgaaDoorTie.lean); close each card by the builder's one call (the guide's Derived/Test/ToyasCard.lean, 'card_holds'). Laid BY PROGRAM, IN A SANDBOX (cutbox-door.mjs). By AI agents, Wed Nov 11 2026. No macro, syntax, notation, axiom, sorry.
-/
import Derived.Test.YtheihhjlkefhgaaDoorRows
import GoSem.ClaimSeven
namespace Go.Proofs.YtheihhjlkefhgaaDoor
namespace Rows

/-- THE TIED CARD OF 'corsnedlaw11.KeysStored'. -/
def keysStoredCard : Claim7 := { stood := { row := keysStoredRow, standIns := [], harness := (true, "638442a3f9b3981a52440c38dac5f7201387fc978d983465cbac641e1432540a"), looks := false }, kinds := [], alts := [], laidByText := true, laidKinds := [.data, .data], laidTests := true, laidLooks := .later }
def KeysStoredCardSaid : Prop := Claim7.holds Tryd.pinned (.plain (OpenSpec.ofChange keysStoredSpec)) keysStoredCard

/-- THE SECOND FORM's CARD OF 'corsnedlaw11.KeysStored'. -/
def keysStoredUptoCard : Claim7 := { stood := { row := keysStoredUptoRow, standIns := [], harness := (true, "638442a3f9b3981a52440c38dac5f7201387fc978d983465cbac641e1432540a"), looks := false }, kinds := [], alts := [], laidByText := true, laidKinds := [.data, .data], laidTests := true, laidLooks := .later }
def KeysStoredUptoCardSaid : Prop := Claim7.holds Tryd.pinned (.plain (OpenSpec.upto keysStoredSpec)) keysStoredUptoCard
end Rows
end Go.Proofs.YtheihhjlkefhgaaDoor
