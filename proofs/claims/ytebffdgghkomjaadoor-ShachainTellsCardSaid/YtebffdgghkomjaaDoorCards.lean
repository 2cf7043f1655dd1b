/-
  DERIVED. GIVEN WITH THE SEED: THE CARDS: each row of YtebffdgghkomjaaDoorRows.lean that lists a variable, with what it lists TIED to the program's text (the seventh form; the later family's looks); each row that meets fmt, with fmt's text TOLD by the authors' own Lean function (tested against real Go, not proved from fmt's source: count such statements apart). THE CARD IS WHAT COUNTS. Prove the row's statement (the work); the ties are given (YtebffdgghkomjaaDoorTie.lean); close each card by the builder's one call (the guide's Derived/Test/ToyasCard.lean, 'card_holds'). Laid BY PROGRAM, IN A SANDBOX (cutbox-door.mjs). By AI agents, Wed Nov 11 2026. No macro, syntax, notation, axiom, sorry.
-/
import Derived.Test.YtebffdgghkomjaaDoorRows
import GoSem.ClaimSeven
namespace Go.Proofs.YtebffdgghkomjaaDoor
namespace Rows

/-- THE TIED CARD OF 'corsnedlaw10.ShachainTells'. -/
def shachainTellsCard : Claim7 := { stood := { row := shachainTellsRow, standIns := [], harness := (true, "a880e3b42ce20eae65314dc0ab92b6ee865a019c25c715cc013bc4fbb2b721f5"), looks := false }, kinds := [], alts := [], laidByText := true, laidKinds := [.data, .data], laidTests := true, laidLooks := .later }
def ShachainTellsCardSaid : Prop := Claim7.holds Tryd.pinned (.plain (OpenSpec.ofChange shachainTellsSpec)) shachainTellsCard

/-- THE TIED CARD OF 'corsnedlaw10.ShachainKeeps'. -/
def shachainKeepsCard : Claim7 := { stood := { row := shachainKeepsRow, standIns := [], harness := (true, "a880e3b42ce20eae65314dc0ab92b6ee865a019c25c715cc013bc4fbb2b721f5"), looks := false }, kinds := [], alts := [], laidByText := true, laidKinds := [.data, .data], laidTests := true, laidLooks := .later }
def ShachainKeepsCardSaid : Prop := Claim7.holds Tryd.pinned (.plain (OpenSpec.ofChange shachainKeepsSpec)) shachainKeepsCard

/-- THE TIED CARD OF 'corsnedlaw10.ShachainTwo'. -/
def shachainTwoCard : Claim7 := { stood := { row := shachainTwoRow, standIns := [], harness := (true, "a880e3b42ce20eae65314dc0ab92b6ee865a019c25c715cc013bc4fbb2b721f5"), looks := false }, kinds := [], alts := [], laidByText := true, laidKinds := [.data, .data], laidTests := true, laidLooks := .later }
def ShachainTwoCardSaid : Prop := Claim7.holds Tryd.pinned (.plain (OpenSpec.ofChange shachainTwoSpec)) shachainTwoCard

/-- THE TIED CARD OF 'corsnedlaw10.ShachainOnce'. -/
def shachainOnceCard : Claim7 := { stood := { row := shachainOnceRow, standIns := [], harness := (true, "a880e3b42ce20eae65314dc0ab92b6ee865a019c25c715cc013bc4fbb2b721f5"), looks := false }, kinds := [], alts := [], laidByText := true, laidKinds := [.data, .data], laidTests := true, laidLooks := .later }
def ShachainOnceCardSaid : Prop := Claim7.holds Tryd.pinned (.plain (OpenSpec.ofChange shachainOnceSpec)) shachainOnceCard

/-- THE TIED CARD OF 'corsnedlaw10.ShachainPairs'. -/
def shachainPairsCard : Claim7 := { stood := { row := shachainPairsRow, standIns := [], harness := (true, "a880e3b42ce20eae65314dc0ab92b6ee865a019c25c715cc013bc4fbb2b721f5"), looks := false }, kinds := [], alts := [], laidByText := true, laidKinds := [.data, .data], laidTests := true, laidLooks := .later }
def ShachainPairsCardSaid : Prop := Claim7.holds Tryd.pinned (.plain (OpenSpec.ofChange shachainPairsSpec)) shachainPairsCard

/-- THE SECOND FORM's CARD OF 'corsnedlaw10.ShachainTells'. -/
def shachainTellsUptoCard : Claim7 := { stood := { row := shachainTellsUptoRow, standIns := [], harness := (true, "a880e3b42ce20eae65314dc0ab92b6ee865a019c25c715cc013bc4fbb2b721f5"), looks := false }, kinds := [], alts := [], laidByText := true, laidKinds := [.data, .data], laidTests := true, laidLooks := .later }
def ShachainTellsUptoCardSaid : Prop := Claim7.holds Tryd.pinned (.plain (OpenSpec.upto shachainTellsSpec)) shachainTellsUptoCard

/-- THE SECOND FORM's CARD OF 'corsnedlaw10.ShachainKeeps'. -/
def shachainKeepsUptoCard : Claim7 := { stood := { row := shachainKeepsUptoRow, standIns := [], harness := (true, "a880e3b42ce20eae65314dc0ab92b6ee865a019c25c715cc013bc4fbb2b721f5"), looks := false }, kinds := [], alts := [], laidByText := true, laidKinds := [.data, .data], laidTests := true, laidLooks := .later }
def ShachainKeepsUptoCardSaid : Prop := Claim7.holds Tryd.pinned (.plain (OpenSpec.upto shachainKeepsSpec)) shachainKeepsUptoCard

/-- THE SECOND FORM's CARD OF 'corsnedlaw10.ShachainTwo'. -/
def shachainTwoUptoCard : Claim7 := { stood := { row := shachainTwoUptoRow, standIns := [], harness := (true, "a880e3b42ce20eae65314dc0ab92b6ee865a019c25c715cc013bc4fbb2b721f5"), looks := false }, kinds := [], alts := [], laidByText := true, laidKinds := [.data, .data], laidTests := true, laidLooks := .later }
def ShachainTwoUptoCardSaid : Prop := Claim7.holds Tryd.pinned (.plain (OpenSpec.upto shachainTwoSpec)) shachainTwoUptoCard

/-- THE SECOND FORM's CARD OF 'corsnedlaw10.ShachainOnce'. -/
def shachainOnceUptoCard : Claim7 := { stood := { row := shachainOnceUptoRow, standIns := [], harness := (true, "a880e3b42ce20eae65314dc0ab92b6ee865a019c25c715cc013bc4fbb2b721f5"), looks := false }, kinds := [], alts := [], laidByText := true, laidKinds := [.data, .data], laidTests := true, laidLooks := .later }
def ShachainOnceUptoCardSaid : Prop := Claim7.holds Tryd.pinned (.plain (OpenSpec.upto shachainOnceSpec)) shachainOnceUptoCard

/-- THE SECOND FORM's CARD OF 'corsnedlaw10.ShachainPairs'. -/
def shachainPairsUptoCard : Claim7 := { stood := { row := shachainPairsUptoRow, standIns := [], harness := (true, "a880e3b42ce20eae65314dc0ab92b6ee865a019c25c715cc013bc4fbb2b721f5"), looks := false }, kinds := [], alts := [], laidByText := true, laidKinds := [.data, .data], laidTests := true, laidLooks := .later }
def ShachainPairsUptoCardSaid : Prop := Claim7.holds Tryd.pinned (.plain (OpenSpec.upto shachainPairsSpec)) shachainPairsUptoCard
end Rows
end Go.Proofs.YtebffdgghkomjaaDoor
