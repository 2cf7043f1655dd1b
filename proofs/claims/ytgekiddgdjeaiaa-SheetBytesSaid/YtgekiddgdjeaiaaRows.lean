/-
  No cell of these rows narrows 'for every input' (looked for: loops, veiled, ifaces, maps, wideKeys, modest, calm, conditions, laid).
  DERIVED. THE GIVEN ROWS OF THIS SEAT. 6 by the template 'for every input the law returns true; each argument reads behind the call as it read before'; 0 by the template 'total and deterministic' (their statements: YtgekiddgdjeaiaaTotals.lean).
  GIVEN WITH THE SEED: the statements are not yours to turn. If you find one false, say at which input.
  Laid BY PROGRAM, IN A SANDBOX (cutbox-rows.mjs): the forced cells as the released guide's own fill.sh prints them over the translation 5597a96e3ab50065… (all of the seat's roots in one cut). By AI agents, Wed Nov 11 2026. No macro, syntax, notation, axiom, sorry.
-/
import Derived.Test.YtgekiddgdjeaiaaChecked
import GoSem.Claim
import GoSem.ClaimJoined
import GoSem.ClaimMapViews
import Derived.JoinedTies
import Derived.KernelRfl
namespace Go.Proofs.Ytgekiddgdjeaiaa
/- THE CELL 'sum', in the pinned program and in every row, IS THE sha256 OF THE DUMP (.gsa) THAT YtgekiddgdjeaiaaProg.lean LOADS. Nothing in Lean hashes anything: it is a label: what it is worth is what the hold of that sum in a sandbox is worth. -/
noncomputable def Try.pinned : Pinned := { name := "ytgekiddgdjeaiaa", sum := "5597a96e3ab50065f9701fc7f0784b9f8c0e9a5300a972067247635a64489013", checked := Try.checked }
namespace Rows
def none {H : Type} : Left H := { results := [], args := [] }

/-- 'corsnedlaw20.SheetBack': WHATEVER THE INPUT: true; the input reads as it did. -/
def sheetBackSpec : ChangeSpec := { name := "sheetBack", fn := fun _ => fun
  | [d1, d2, d3, d4] => { results := [.lit (.bool true)], args := [d1, d2, d3, d4] }
  | _ => none }
def sheetBackRow : OpenClaim := { program := "ytgekiddgdjeaiaa", sum := "5597a96e3ab50065f9701fc7f0784b9f8c0e9a5300a972067247635a64489013", func := "corsned/corsnedlaw20.SheetBack", spec := "sheetBack", inPlace := ["slices.overlaps[corsned/api.Cond]"], unfollowed := true, recurses := true, named := ["math/bits.divideError", "math/bits.overflowError"], apart := false }
def SheetBackSaid : Prop := sheetBackRow.holds Try.pinned (OpenSpec.ofChange sheetBackSpec)

/-- ITS FALSE NEIGHBOUR: 'it returns false'. Refute it at one input. -/
def sheetBackWrong : ChangeSpec := { name := "sheetBack", fn := fun _ => fun
  | [d1, d2, d3, d4] => { results := [.lit (.bool false)], args := [d1, d2, d3, d4] }
  | _ => none }
def SheetBackWrongFalsely : Prop := sheetBackRow.holds Try.pinned (OpenSpec.ofChange sheetBackWrong)

/-- 'corsnedlaw20.SheetAsks': WHATEVER THE INPUT: true; the input reads as it did. -/
def sheetAsksSpec : ChangeSpec := { name := "sheetAsks", fn := fun _ => fun
  | [d1, d2, d3] => { results := [.lit (.bool true)], args := [d1, d2, d3] }
  | _ => none }
def sheetAsksRow : OpenClaim := { program := "ytgekiddgdjeaiaa", sum := "5597a96e3ab50065f9701fc7f0784b9f8c0e9a5300a972067247635a64489013", func := "corsned/corsnedlaw20.SheetAsks", spec := "sheetAsks", inPlace := ["slices.overlaps[corsned/api.Cond]"], unfollowed := true, recurses := true, named := ["math/bits.divideError", "math/bits.overflowError"], apart := false }
def SheetAsksSaid : Prop := sheetAsksRow.holds Try.pinned (OpenSpec.ofChange sheetAsksSpec)

/-- ITS FALSE NEIGHBOUR: 'it returns false'. Refute it at one input. -/
def sheetAsksWrong : ChangeSpec := { name := "sheetAsks", fn := fun _ => fun
  | [d1, d2, d3] => { results := [.lit (.bool false)], args := [d1, d2, d3] }
  | _ => none }
def SheetAsksWrongFalsely : Prop := sheetAsksRow.holds Try.pinned (OpenSpec.ofChange sheetAsksWrong)

/-- 'corsnedlaw20.SheetHolds': WHATEVER THE INPUT: true; the input reads as it did. -/
def sheetHoldsSpec : ChangeSpec := { name := "sheetHolds", fn := fun _ => fun
  | [d1, d2, d3] => { results := [.lit (.bool true)], args := [d1, d2, d3] }
  | _ => none }
def sheetHoldsRow : OpenClaim := { program := "ytgekiddgdjeaiaa", sum := "5597a96e3ab50065f9701fc7f0784b9f8c0e9a5300a972067247635a64489013", func := "corsned/corsnedlaw20.SheetHolds", spec := "sheetHolds", inPlace := ["slices.overlaps[corsned/api.Cond]"], unfollowed := true, recurses := true, named := ["math/bits.divideError", "math/bits.overflowError"], apart := false }
def SheetHoldsSaid : Prop := sheetHoldsRow.holds Try.pinned (OpenSpec.ofChange sheetHoldsSpec)

/-- ITS FALSE NEIGHBOUR: 'it returns false'. Refute it at one input. -/
def sheetHoldsWrong : ChangeSpec := { name := "sheetHolds", fn := fun _ => fun
  | [d1, d2, d3] => { results := [.lit (.bool false)], args := [d1, d2, d3] }
  | _ => none }
def SheetHoldsWrongFalsely : Prop := sheetHoldsRow.holds Try.pinned (OpenSpec.ofChange sheetHoldsWrong)

/-- 'corsnedlaw20.SheetMoves': WHATEVER THE INPUT: true; the input reads as it did. -/
def sheetMovesSpec : ChangeSpec := { name := "sheetMoves", fn := fun _ => fun
  | [d1, d2, d3] => { results := [.lit (.bool true)], args := [d1, d2, d3] }
  | _ => none }
def sheetMovesRow : OpenClaim := { program := "ytgekiddgdjeaiaa", sum := "5597a96e3ab50065f9701fc7f0784b9f8c0e9a5300a972067247635a64489013", func := "corsned/corsnedlaw20.SheetMoves", spec := "sheetMoves", inPlace := ["slices.overlaps[corsned/api.Cond]"], unfollowed := true, recurses := true, named := ["math/bits.divideError", "math/bits.overflowError"], apart := false }
def SheetMovesSaid : Prop := sheetMovesRow.holds Try.pinned (OpenSpec.ofChange sheetMovesSpec)

/-- ITS FALSE NEIGHBOUR: 'it returns false'. Refute it at one input. -/
def sheetMovesWrong : ChangeSpec := { name := "sheetMoves", fn := fun _ => fun
  | [d1, d2, d3] => { results := [.lit (.bool false)], args := [d1, d2, d3] }
  | _ => none }
def SheetMovesWrongFalsely : Prop := sheetMovesRow.holds Try.pinned (OpenSpec.ofChange sheetMovesWrong)

/-- 'corsnedlaw20.SheetTurns': WHATEVER THE INPUT: true; the input reads as it did. -/
def sheetTurnsSpec : ChangeSpec := { name := "sheetTurns", fn := fun _ => fun
  | [d1, d2, d3, d4] => { results := [.lit (.bool true)], args := [d1, d2, d3, d4] }
  | _ => none }
def sheetTurnsRow : OpenClaim := { program := "ytgekiddgdjeaiaa", sum := "5597a96e3ab50065f9701fc7f0784b9f8c0e9a5300a972067247635a64489013", func := "corsned/corsnedlaw20.SheetTurns", spec := "sheetTurns", inPlace := ["slices.overlaps[corsned/api.Cond]"], unfollowed := true, recurses := true, named := ["math/bits.divideError", "math/bits.overflowError"], apart := false }
def SheetTurnsSaid : Prop := sheetTurnsRow.holds Try.pinned (OpenSpec.ofChange sheetTurnsSpec)

/-- ITS FALSE NEIGHBOUR: 'it returns false'. Refute it at one input. -/
def sheetTurnsWrong : ChangeSpec := { name := "sheetTurns", fn := fun _ => fun
  | [d1, d2, d3, d4] => { results := [.lit (.bool false)], args := [d1, d2, d3, d4] }
  | _ => none }
def SheetTurnsWrongFalsely : Prop := sheetTurnsRow.holds Try.pinned (OpenSpec.ofChange sheetTurnsWrong)

/-- 'corsnedlaw20.SheetBytes': WHATEVER THE INPUT: true; the input reads as it did. -/
def sheetBytesSpec : ChangeSpec := { name := "sheetBytes", fn := fun _ => fun
  | [d1, d2] => { results := [.lit (.bool true)], args := [d1, d2] }
  | _ => none }
def sheetBytesRow : OpenClaim := { program := "ytgekiddgdjeaiaa", sum := "5597a96e3ab50065f9701fc7f0784b9f8c0e9a5300a972067247635a64489013", func := "corsned/corsnedlaw20.SheetBytes", spec := "sheetBytes", inPlace := ["slices.overlaps[corsned/api.Cond]"], unfollowed := true, recurses := true, named := ["math/bits.divideError", "math/bits.overflowError"], apart := false }
def SheetBytesSaid : Prop := sheetBytesRow.holds Try.pinned (OpenSpec.ofChange sheetBytesSpec)

/-- ITS FALSE NEIGHBOUR: 'it returns false'. Refute it at one input. -/
def sheetBytesWrong : ChangeSpec := { name := "sheetBytes", fn := fun _ => fun
  | [d1, d2] => { results := [.lit (.bool false)], args := [d1, d2] }
  | _ => none }
def SheetBytesWrongFalsely : Prop := sheetBytesRow.holds Try.pinned (OpenSpec.ofChange sheetBytesWrong)

/- THE SECOND FORM. 'bulk': how many values and letters a reading holds, each counted each time it is reached (what is shared counts as often as it is met; a slice's spare places count too). A statement '..UptoSaid' is the law's where the arguments, and the package variables that the reading takes, are together of bulk at most 1048576: NARROWER than '..Said'. Prove '..Said' where nothing that the law and all that it calls make is longer than what came in: it says more and counts as full. Else prove '..UptoSaid'. A law counts once. -/
mutual
def uptoBulk {H : Type} : DataW H → Nat
  | .lit (.string bytes) => bytes.length + 1
  | .lit _ => 1
  | .nil => 1
  | .ptr d => uptoBulk d + 1
  | .slice elems spare => uptoBulkAll elems + uptoBulkAll spare + 1
  | .agg parts => uptoBulkAll parts + 1
  | .iface _ d => uptoBulk d + 1
  | .map entries => uptoBulkEntries entries + 1
  | .held _ => 1
def uptoBulkAll {H : Type} : List (DataW H) → Nat
  | [] => 0
  | d :: r => uptoBulk d + uptoBulkAll r
def uptoBulkEntries {H : Type} : List (Lit × DataW H) → Nat
  | [] => 0
  | x :: r => uptoBulkEntry x + uptoBulkEntries r
def uptoBulkEntry {H : Type} : Lit × DataW H → Nat
  | (.string bytes, d) => bytes.length + uptoBulk d + 1
  | (_, d) => uptoBulk d + 1
 end
def uptoSmall : (H : Type) → List (DataW H) → Bool := fun _ ds => decide (uptoBulkAll ds ≤ 1048576)
def OpenSpec.upto (s : _root_.Go.ChangeSpec) : _root_.Go.OpenSpec := { _root_.Go.OpenSpec.ofChange s with cond := some uptoSmall }

/-- 'corsnedlaw20.SheetBack', WHERE WHAT IT READS IS OF BULK AT MOST 1048576: true; the input reads as it did. -/
def sheetBackUptoRow : OpenClaim := { program := "ytgekiddgdjeaiaa", sum := "5597a96e3ab50065f9701fc7f0784b9f8c0e9a5300a972067247635a64489013", func := "corsned/corsnedlaw20.SheetBack", spec := "sheetBack", inPlace := ["slices.overlaps[corsned/api.Cond]"], unfollowed := true, recurses := true, named := ["math/bits.divideError", "math/bits.overflowError"], apart := false, narrowed := true }
def SheetBackUptoSaid : Prop := sheetBackUptoRow.holds Try.pinned (OpenSpec.upto sheetBackSpec)

/-- 'corsnedlaw20.SheetAsks', WHERE WHAT IT READS IS OF BULK AT MOST 1048576: true; the input reads as it did. -/
def sheetAsksUptoRow : OpenClaim := { program := "ytgekiddgdjeaiaa", sum := "5597a96e3ab50065f9701fc7f0784b9f8c0e9a5300a972067247635a64489013", func := "corsned/corsnedlaw20.SheetAsks", spec := "sheetAsks", inPlace := ["slices.overlaps[corsned/api.Cond]"], unfollowed := true, recurses := true, named := ["math/bits.divideError", "math/bits.overflowError"], apart := false, narrowed := true }
def SheetAsksUptoSaid : Prop := sheetAsksUptoRow.holds Try.pinned (OpenSpec.upto sheetAsksSpec)

/-- 'corsnedlaw20.SheetHolds', WHERE WHAT IT READS IS OF BULK AT MOST 1048576: true; the input reads as it did. -/
def sheetHoldsUptoRow : OpenClaim := { program := "ytgekiddgdjeaiaa", sum := "5597a96e3ab50065f9701fc7f0784b9f8c0e9a5300a972067247635a64489013", func := "corsned/corsnedlaw20.SheetHolds", spec := "sheetHolds", inPlace := ["slices.overlaps[corsned/api.Cond]"], unfollowed := true, recurses := true, named := ["math/bits.divideError", "math/bits.overflowError"], apart := false, narrowed := true }
def SheetHoldsUptoSaid : Prop := sheetHoldsUptoRow.holds Try.pinned (OpenSpec.upto sheetHoldsSpec)

/-- 'corsnedlaw20.SheetMoves', WHERE WHAT IT READS IS OF BULK AT MOST 1048576: true; the input reads as it did. -/
def sheetMovesUptoRow : OpenClaim := { program := "ytgekiddgdjeaiaa", sum := "5597a96e3ab50065f9701fc7f0784b9f8c0e9a5300a972067247635a64489013", func := "corsned/corsnedlaw20.SheetMoves", spec := "sheetMoves", inPlace := ["slices.overlaps[corsned/api.Cond]"], unfollowed := true, recurses := true, named := ["math/bits.divideError", "math/bits.overflowError"], apart := false, narrowed := true }
def SheetMovesUptoSaid : Prop := sheetMovesUptoRow.holds Try.pinned (OpenSpec.upto sheetMovesSpec)

/-- 'corsnedlaw20.SheetTurns', WHERE WHAT IT READS IS OF BULK AT MOST 1048576: true; the input reads as it did. -/
def sheetTurnsUptoRow : OpenClaim := { program := "ytgekiddgdjeaiaa", sum := "5597a96e3ab50065f9701fc7f0784b9f8c0e9a5300a972067247635a64489013", func := "corsned/corsnedlaw20.SheetTurns", spec := "sheetTurns", inPlace := ["slices.overlaps[corsned/api.Cond]"], unfollowed := true, recurses := true, named := ["math/bits.divideError", "math/bits.overflowError"], apart := false, narrowed := true }
def SheetTurnsUptoSaid : Prop := sheetTurnsUptoRow.holds Try.pinned (OpenSpec.upto sheetTurnsSpec)

/-- 'corsnedlaw20.SheetBytes', WHERE WHAT IT READS IS OF BULK AT MOST 1048576: true; the input reads as it did. -/
def sheetBytesUptoRow : OpenClaim := { program := "ytgekiddgdjeaiaa", sum := "5597a96e3ab50065f9701fc7f0784b9f8c0e9a5300a972067247635a64489013", func := "corsned/corsnedlaw20.SheetBytes", spec := "sheetBytes", inPlace := ["slices.overlaps[corsned/api.Cond]"], unfollowed := true, recurses := true, named := ["math/bits.divideError", "math/bits.overflowError"], apart := false, narrowed := true }
def SheetBytesUptoSaid : Prop := sheetBytesUptoRow.holds Try.pinned (OpenSpec.upto sheetBytesSpec)

end Rows
end Go.Proofs.Ytgekiddgdjeaiaa
