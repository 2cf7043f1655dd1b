/-
  DERIVED. GIVEN WITH THE SEED: THE CARDS: each row of YtaohpdhhbnempaaDoorRows.lean that lists a variable, with what it lists TIED to the program's text (the seventh form; the later family's looks); each row that meets fmt, with fmt's text TOLD by the authors' own Lean function (tested against real Go, not proved from fmt's source: count such statements apart). THE CARD IS WHAT COUNTS. Prove the row's statement (the work); the ties are given (YtaohpdhhbnempaaDoorTie.lean); close each card by the builder's one call (the guide's Derived/Test/ToyasCard.lean, 'card_holds'). Laid BY PROGRAM, IN A SANDBOX (cutbox-door.mjs). By AI agents, Wed Nov 11 2026. No macro, syntax, notation, axiom, sorry.
-/
import Derived.Test.YtaohpdhhbnempaaDoorRows
import GoSem.ClaimSeven
namespace Go.Proofs.YtaohpdhhbnempaaDoor
namespace Rows

/-- THE TIED CARD OF 'corsnedlaw44.LogSecrets'. -/
def logSecretsCard : Claim7 := { stood := { row := logSecretsRow, standIns := [], harness := (true, "7144ba4286538b496a5e308c13eb8052c10cc3c15fbf6dbd950a624ccfcfceef"), looks := false }, kinds := [], alts := [], laidByText := true, laidKinds := [.data, .data], laidTests := true, laidLooks := .later }
def LogSecretsCardSaid : Prop := Claim7.holds Tryd.pinned (.plain (OpenSpec.ofChange logSecretsSpec)) logSecretsCard

/-- THE SECOND FORM's CARD OF 'corsnedlaw44.LogSecrets'. -/
def logSecretsUptoCard : Claim7 := { stood := { row := logSecretsUptoRow, standIns := [], harness := (true, "7144ba4286538b496a5e308c13eb8052c10cc3c15fbf6dbd950a624ccfcfceef"), looks := false }, kinds := [], alts := [], laidByText := true, laidKinds := [.data, .data], laidTests := true, laidLooks := .later }
def LogSecretsUptoCardSaid : Prop := Claim7.holds Tryd.pinned (.plain (OpenSpec.upto logSecretsSpec)) logSecretsUptoCard
end Rows
end Go.Proofs.YtaohpdhhbnempaaDoor
