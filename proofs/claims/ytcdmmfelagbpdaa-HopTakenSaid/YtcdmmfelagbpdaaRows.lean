/-
  No cell of these rows narrows 'for every input' (looked for: loops, veiled, ifaces, maps, wideKeys, modest, calm, conditions, laid).
  DERIVED. THE GIVEN ROWS OF THIS SEAT. 11 by the template 'for every input the law returns true; each argument reads behind the call as it read before'; 0 by the template 'total and deterministic' (their statements: YtcdmmfelagbpdaaTotals.lean).
  GIVEN WITH THE SEED: the statements are not yours to turn. If you find one false, say at which input.
  Laid BY PROGRAM, IN A SANDBOX (cutbox-rows.mjs): the forced cells as the released guide's own fill.sh prints them over the translation d906001bfa989c57… (all of the seat's roots in one cut). By AI agents, Wed Nov 11 2026. No macro, syntax, notation, axiom, sorry.
-/
import Derived.Test.YtcdmmfelagbpdaaChecked
import GoSem.Claim
import GoSem.ClaimJoined
import GoSem.ClaimMapViews
import Derived.JoinedTies
import Derived.KernelRfl
namespace Go.Proofs.Ytcdmmfelagbpdaa
/- THE CELL 'sum', in the pinned program and in every row, IS THE sha256 OF THE DUMP (.gsa) THAT YtcdmmfelagbpdaaProg.lean LOADS. Nothing in Lean hashes anything: it is a label: what it is worth is what the hold of that sum in a sandbox is worth. -/
noncomputable def Try.pinned : Pinned := { name := "ytcdmmfelagbpdaa", sum := "d906001bfa989c57edd44310b833368fe6763693998777bc3ae1d5292e8a88a7", checked := Try.checked }
namespace Rows
def none {H : Type} : Left H := { results := [], args := [] }

/-- 'corsnedlaw19.TermsTells': WHATEVER THE INPUT: true; the input reads as it did. -/
def termsTellsSpec : ChangeSpec := { name := "termsTells", fn := fun _ => fun
  | [d1, d2, d3, d4] => { results := [.lit (.bool true)], args := [d1, d2, d3, d4] }
  | _ => none }
def termsTellsRow : OpenClaim := { program := "ytcdmmfelagbpdaa", sum := "d906001bfa989c57edd44310b833368fe6763693998777bc3ae1d5292e8a88a7", func := "corsned/corsnedlaw19.TermsTells", spec := "termsTells", unfollowed := true, recurses := true, named := ["math/bits.divideError", "math/bits.overflowError"], apart := false }
def TermsTellsSaid : Prop := termsTellsRow.holds Try.pinned (OpenSpec.ofChange termsTellsSpec)

/-- ITS FALSE NEIGHBOUR: 'it returns false'. Refute it at one input. -/
def termsTellsWrong : ChangeSpec := { name := "termsTells", fn := fun _ => fun
  | [d1, d2, d3, d4] => { results := [.lit (.bool false)], args := [d1, d2, d3, d4] }
  | _ => none }
def TermsTellsWrongFalsely : Prop := termsTellsRow.holds Try.pinned (OpenSpec.ofChange termsTellsWrong)

/-- 'corsnedlaw19.TermsFits': WHATEVER THE INPUT: true; the input reads as it did. -/
def termsFitsSpec : ChangeSpec := { name := "termsFits", fn := fun _ => fun
  | [d] => { results := [.lit (.bool true)], args := [d] }
  | _ => none }
def termsFitsRow : OpenClaim := { program := "ytcdmmfelagbpdaa", sum := "d906001bfa989c57edd44310b833368fe6763693998777bc3ae1d5292e8a88a7", func := "corsned/corsnedlaw19.TermsFits", spec := "termsFits", unfollowed := true, recurses := true, named := ["math/bits.divideError", "math/bits.overflowError"], apart := false }
def TermsFitsSaid : Prop := termsFitsRow.holds Try.pinned (OpenSpec.ofChange termsFitsSpec)

/-- ITS FALSE NEIGHBOUR: 'it returns false'. Refute it at one input. -/
def termsFitsWrong : ChangeSpec := { name := "termsFits", fn := fun _ => fun
  | [d] => { results := [.lit (.bool false)], args := [d] }
  | _ => none }
def TermsFitsWrongFalsely : Prop := termsFitsRow.holds Try.pinned (OpenSpec.ofChange termsFitsWrong)

/-- 'corsnedlaw19.TermsChanges': WHATEVER THE INPUT: true; the input reads as it did. -/
def termsChangesSpec : ChangeSpec := { name := "termsChanges", fn := fun _ => fun
  | [d1, d2, d3, d4, d5] => { results := [.lit (.bool true)], args := [d1, d2, d3, d4, d5] }
  | _ => none }
def termsChangesRow : OpenClaim := { program := "ytcdmmfelagbpdaa", sum := "d906001bfa989c57edd44310b833368fe6763693998777bc3ae1d5292e8a88a7", func := "corsned/corsnedlaw19.TermsChanges", spec := "termsChanges", unfollowed := true, recurses := true, named := ["math/bits.divideError", "math/bits.overflowError"], apart := false }
def TermsChangesSaid : Prop := termsChangesRow.holds Try.pinned (OpenSpec.ofChange termsChangesSpec)

/-- ITS FALSE NEIGHBOUR: 'it returns false'. Refute it at one input. -/
def termsChangesWrong : ChangeSpec := { name := "termsChanges", fn := fun _ => fun
  | [d1, d2, d3, d4, d5] => { results := [.lit (.bool false)], args := [d1, d2, d3, d4, d5] }
  | _ => none }
def TermsChangesWrongFalsely : Prop := termsChangesRow.holds Try.pinned (OpenSpec.ofChange termsChangesWrong)

/-- 'corsnedlaw19.TermsCosts': WHATEVER THE INPUT: true; the input reads as it did. -/
def termsCostsSpec : ChangeSpec := { name := "termsCosts", fn := fun _ => fun
  | [d1, d2] => { results := [.lit (.bool true)], args := [d1, d2] }
  | _ => none }
def termsCostsRow : OpenClaim := { program := "ytcdmmfelagbpdaa", sum := "d906001bfa989c57edd44310b833368fe6763693998777bc3ae1d5292e8a88a7", func := "corsned/corsnedlaw19.TermsCosts", spec := "termsCosts", unfollowed := true, recurses := true, named := ["math/bits.divideError", "math/bits.overflowError"], apart := false }
def TermsCostsSaid : Prop := termsCostsRow.holds Try.pinned (OpenSpec.ofChange termsCostsSpec)

/-- ITS FALSE NEIGHBOUR: 'it returns false'. Refute it at one input. -/
def termsCostsWrong : ChangeSpec := { name := "termsCosts", fn := fun _ => fun
  | [d1, d2] => { results := [.lit (.bool false)], args := [d1, d2] }
  | _ => none }
def TermsCostsWrongFalsely : Prop := termsCostsRow.holds Try.pinned (OpenSpec.ofChange termsCostsWrong)

/-- 'corsnedlaw19.TermsSides': WHATEVER THE INPUT: true; the input reads as it did. -/
def termsSidesSpec : ChangeSpec := { name := "termsSides", fn := fun _ => fun
  | [d1, d2] => { results := [.lit (.bool true)], args := [d1, d2] }
  | _ => none }
def termsSidesRow : OpenClaim := { program := "ytcdmmfelagbpdaa", sum := "d906001bfa989c57edd44310b833368fe6763693998777bc3ae1d5292e8a88a7", func := "corsned/corsnedlaw19.TermsSides", spec := "termsSides", unfollowed := true, recurses := true, named := ["math/bits.divideError", "math/bits.overflowError"], apart := false }
def TermsSidesSaid : Prop := termsSidesRow.holds Try.pinned (OpenSpec.ofChange termsSidesSpec)

/-- ITS FALSE NEIGHBOUR: 'it returns false'. Refute it at one input. -/
def termsSidesWrong : ChangeSpec := { name := "termsSides", fn := fun _ => fun
  | [d1, d2] => { results := [.lit (.bool false)], args := [d1, d2] }
  | _ => none }
def TermsSidesWrongFalsely : Prop := termsSidesRow.holds Try.pinned (OpenSpec.ofChange termsSidesWrong)

/-- 'corsnedlaw33.HopTells': WHATEVER THE INPUT: true; the input reads as it did. -/
def hopTellsSpec : ChangeSpec := { name := "hopTells", fn := fun _ => fun
  | [d1, d2, d3, d4, d5, d6, d7] => { results := [.lit (.bool true)], args := [d1, d2, d3, d4, d5, d6, d7] }
  | _ => none }
def hopTellsRow : OpenClaim := { program := "ytcdmmfelagbpdaa", sum := "d906001bfa989c57edd44310b833368fe6763693998777bc3ae1d5292e8a88a7", func := "corsned/corsnedlaw33.HopTells", spec := "hopTells", named := ["math/bits.divideError", "math/bits.overflowError"], apart := false }
def HopTellsSaid : Prop := hopTellsRow.holds Try.pinned (OpenSpec.ofChange hopTellsSpec)

/-- ITS FALSE NEIGHBOUR: 'it returns false'. Refute it at one input. -/
def hopTellsWrong : ChangeSpec := { name := "hopTells", fn := fun _ => fun
  | [d1, d2, d3, d4, d5, d6, d7] => { results := [.lit (.bool false)], args := [d1, d2, d3, d4, d5, d6, d7] }
  | _ => none }
def HopTellsWrongFalsely : Prop := hopTellsRow.holds Try.pinned (OpenSpec.ofChange hopTellsWrong)

/-- 'corsnedlaw33.HopFees': WHATEVER THE INPUT: true; the input reads as it did. -/
def hopFeesSpec : ChangeSpec := { name := "hopFees", fn := fun _ => fun
  | [d1, d2, d3] => { results := [.lit (.bool true)], args := [d1, d2, d3] }
  | _ => none }
def hopFeesRow : OpenClaim := { program := "ytcdmmfelagbpdaa", sum := "d906001bfa989c57edd44310b833368fe6763693998777bc3ae1d5292e8a88a7", func := "corsned/corsnedlaw33.HopFees", spec := "hopFees", named := ["math/bits.divideError", "math/bits.overflowError"], apart := false }
def HopFeesSaid : Prop := hopFeesRow.holds Try.pinned (OpenSpec.ofChange hopFeesSpec)

/-- ITS FALSE NEIGHBOUR: 'it returns false'. Refute it at one input. -/
def hopFeesWrong : ChangeSpec := { name := "hopFees", fn := fun _ => fun
  | [d1, d2, d3] => { results := [.lit (.bool false)], args := [d1, d2, d3] }
  | _ => none }
def HopFeesWrongFalsely : Prop := hopFeesRow.holds Try.pinned (OpenSpec.ofChange hopFeesWrong)

/-- 'corsnedlaw33.HopRow': WHATEVER THE INPUT: true; the input reads as it did. -/
def hopRowSpec : ChangeSpec := { name := "hopRow", fn := fun _ => fun
  | [d1, d2, d3, d4] => { results := [.lit (.bool true)], args := [d1, d2, d3, d4] }
  | _ => none }
def hopRowRow : OpenClaim := { program := "ytcdmmfelagbpdaa", sum := "d906001bfa989c57edd44310b833368fe6763693998777bc3ae1d5292e8a88a7", func := "corsned/corsnedlaw33.HopRow", spec := "hopRow", named := ["math/bits.divideError", "math/bits.overflowError"], apart := false }
def HopRowSaid : Prop := hopRowRow.holds Try.pinned (OpenSpec.ofChange hopRowSpec)

/-- ITS FALSE NEIGHBOUR: 'it returns false'. Refute it at one input. -/
def hopRowWrong : ChangeSpec := { name := "hopRow", fn := fun _ => fun
  | [d1, d2, d3, d4] => { results := [.lit (.bool false)], args := [d1, d2, d3, d4] }
  | _ => none }
def HopRowWrongFalsely : Prop := hopRowRow.holds Try.pinned (OpenSpec.ofChange hopRowWrong)

/-- 'corsnedlaw33.HopSafe': WHATEVER THE INPUT: true; the input reads as it did. -/
def hopSafeSpec : ChangeSpec := { name := "hopSafe", fn := fun _ => fun
  | [d1, d2, d3, d4, d5, d6] => { results := [.lit (.bool true)], args := [d1, d2, d3, d4, d5, d6] }
  | _ => none }
def hopSafeRow : OpenClaim := { program := "ytcdmmfelagbpdaa", sum := "d906001bfa989c57edd44310b833368fe6763693998777bc3ae1d5292e8a88a7", func := "corsned/corsnedlaw33.HopSafe", spec := "hopSafe", named := ["math/bits.divideError", "math/bits.overflowError"], apart := false }
def HopSafeSaid : Prop := hopSafeRow.holds Try.pinned (OpenSpec.ofChange hopSafeSpec)

/-- ITS FALSE NEIGHBOUR: 'it returns false'. Refute it at one input. -/
def hopSafeWrong : ChangeSpec := { name := "hopSafe", fn := fun _ => fun
  | [d1, d2, d3, d4, d5, d6] => { results := [.lit (.bool false)], args := [d1, d2, d3, d4, d5, d6] }
  | _ => none }
def HopSafeWrongFalsely : Prop := hopSafeRow.holds Try.pinned (OpenSpec.ofChange hopSafeWrong)

/-- 'corsnedlaw33.HopEnd': WHATEVER THE INPUT: true; the input reads as it did. -/
def hopEndSpec : ChangeSpec := { name := "hopEnd", fn := fun _ => fun
  | [d1, d2, d3, d4, d5] => { results := [.lit (.bool true)], args := [d1, d2, d3, d4, d5] }
  | _ => none }
def hopEndRow : OpenClaim := { program := "ytcdmmfelagbpdaa", sum := "d906001bfa989c57edd44310b833368fe6763693998777bc3ae1d5292e8a88a7", func := "corsned/corsnedlaw33.HopEnd", spec := "hopEnd", named := ["math/bits.divideError", "math/bits.overflowError"], apart := false }
def HopEndSaid : Prop := hopEndRow.holds Try.pinned (OpenSpec.ofChange hopEndSpec)

/-- ITS FALSE NEIGHBOUR: 'it returns false'. Refute it at one input. -/
def hopEndWrong : ChangeSpec := { name := "hopEnd", fn := fun _ => fun
  | [d1, d2, d3, d4, d5] => { results := [.lit (.bool false)], args := [d1, d2, d3, d4, d5] }
  | _ => none }
def HopEndWrongFalsely : Prop := hopEndRow.holds Try.pinned (OpenSpec.ofChange hopEndWrong)

/-- 'corsnedlaw33.HopTaken': WHATEVER THE INPUT: true; the input reads as it did. -/
def hopTakenSpec : ChangeSpec := { name := "hopTaken", fn := fun _ => fun
  | [d1, d2, d3, d4, d5, d6, d7, d8] => { results := [.lit (.bool true)], args := [d1, d2, d3, d4, d5, d6, d7, d8] }
  | _ => none }
def hopTakenRow : OpenClaim := { program := "ytcdmmfelagbpdaa", sum := "d906001bfa989c57edd44310b833368fe6763693998777bc3ae1d5292e8a88a7", func := "corsned/corsnedlaw33.HopTaken", spec := "hopTaken", unfollowed := true, recurses := true, named := ["math/bits.divideError", "math/bits.overflowError"], apart := false }
def HopTakenSaid : Prop := hopTakenRow.holds Try.pinned (OpenSpec.ofChange hopTakenSpec)

/-- ITS FALSE NEIGHBOUR: 'it returns false'. Refute it at one input. -/
def hopTakenWrong : ChangeSpec := { name := "hopTaken", fn := fun _ => fun
  | [d1, d2, d3, d4, d5, d6, d7, d8] => { results := [.lit (.bool false)], args := [d1, d2, d3, d4, d5, d6, d7, d8] }
  | _ => none }
def HopTakenWrongFalsely : Prop := hopTakenRow.holds Try.pinned (OpenSpec.ofChange hopTakenWrong)

/- THE SECOND FORM. 'bulk': how many values and letters a reading holds, each counted each time it is reached (what is shared counts as often as it is met; a slice's spare places count too). A statement '..UptoSaid' is the law's where the arguments, and the package variables that the reading takes, are together of bulk at most 1048576: NARROWER than '..Said'. Prove '..Said' where nothing that the law and all that it calls make is longer than what came in: it says more and counts as full. Else prove '..UptoSaid'. A law counts once. -/
mutual
def uptoBulk {H : Type} : DataW H → Nat
  | .lit (.string bytes) => bytes.length + 1
  | .lit _ => 1
  | .nil => 1
  | .ptr d => uptoBulk d + 1
  | .slice elems spare => uptoBulkAll elems + uptoBulkAll spare + 1
  | .agg parts => uptoBulkAll parts + 1
  | .iface _ d => uptoBulk d + 1
  | .map entries => uptoBulkEntries entries + 1
  | .held _ => 1
def uptoBulkAll {H : Type} : List (DataW H) → Nat
  | [] => 0
  | d :: r => uptoBulk d + uptoBulkAll r
def uptoBulkEntries {H : Type} : List (Lit × DataW H) → Nat
  | [] => 0
  | x :: r => uptoBulkEntry x + uptoBulkEntries r
def uptoBulkEntry {H : Type} : Lit × DataW H → Nat
  | (.string bytes, d) => bytes.length + uptoBulk d + 1
  | (_, d) => uptoBulk d + 1
 end
def uptoSmall : (H : Type) → List (DataW H) → Bool := fun _ ds => decide (uptoBulkAll ds ≤ 1048576)
def OpenSpec.upto (s : _root_.Go.ChangeSpec) : _root_.Go.OpenSpec := { _root_.Go.OpenSpec.ofChange s with cond := some uptoSmall }

/-- 'corsnedlaw19.TermsTells', WHERE WHAT IT READS IS OF BULK AT MOST 1048576: true; the input reads as it did. -/
def termsTellsUptoRow : OpenClaim := { program := "ytcdmmfelagbpdaa", sum := "d906001bfa989c57edd44310b833368fe6763693998777bc3ae1d5292e8a88a7", func := "corsned/corsnedlaw19.TermsTells", spec := "termsTells", unfollowed := true, recurses := true, named := ["math/bits.divideError", "math/bits.overflowError"], apart := false, narrowed := true }
def TermsTellsUptoSaid : Prop := termsTellsUptoRow.holds Try.pinned (OpenSpec.upto termsTellsSpec)

/-- 'corsnedlaw19.TermsFits', WHERE WHAT IT READS IS OF BULK AT MOST 1048576: true; the input reads as it did. -/
def termsFitsUptoRow : OpenClaim := { program := "ytcdmmfelagbpdaa", sum := "d906001bfa989c57edd44310b833368fe6763693998777bc3ae1d5292e8a88a7", func := "corsned/corsnedlaw19.TermsFits", spec := "termsFits", unfollowed := true, recurses := true, named := ["math/bits.divideError", "math/bits.overflowError"], apart := false, narrowed := true }
def TermsFitsUptoSaid : Prop := termsFitsUptoRow.holds Try.pinned (OpenSpec.upto termsFitsSpec)

/-- 'corsnedlaw19.TermsChanges', WHERE WHAT IT READS IS OF BULK AT MOST 1048576: true; the input reads as it did. -/
def termsChangesUptoRow : OpenClaim := { program := "ytcdmmfelagbpdaa", sum := "d906001bfa989c57edd44310b833368fe6763693998777bc3ae1d5292e8a88a7", func := "corsned/corsnedlaw19.TermsChanges", spec := "termsChanges", unfollowed := true, recurses := true, named := ["math/bits.divideError", "math/bits.overflowError"], apart := false, narrowed := true }
def TermsChangesUptoSaid : Prop := termsChangesUptoRow.holds Try.pinned (OpenSpec.upto termsChangesSpec)

/-- 'corsnedlaw19.TermsCosts', WHERE WHAT IT READS IS OF BULK AT MOST 1048576: true; the input reads as it did. -/
def termsCostsUptoRow : OpenClaim := { program := "ytcdmmfelagbpdaa", sum := "d906001bfa989c57edd44310b833368fe6763693998777bc3ae1d5292e8a88a7", func := "corsned/corsnedlaw19.TermsCosts", spec := "termsCosts", unfollowed := true, recurses := true, named := ["math/bits.divideError", "math/bits.overflowError"], apart := false, narrowed := true }
def TermsCostsUptoSaid : Prop := termsCostsUptoRow.holds Try.pinned (OpenSpec.upto termsCostsSpec)

/-- 'corsnedlaw19.TermsSides', WHERE WHAT IT READS IS OF BULK AT MOST 1048576: true; the input reads as it did. -/
def termsSidesUptoRow : OpenClaim := { program := "ytcdmmfelagbpdaa", sum := "d906001bfa989c57edd44310b833368fe6763693998777bc3ae1d5292e8a88a7", func := "corsned/corsnedlaw19.TermsSides", spec := "termsSides", unfollowed := true, recurses := true, named := ["math/bits.divideError", "math/bits.overflowError"], apart := false, narrowed := true }
def TermsSidesUptoSaid : Prop := termsSidesUptoRow.holds Try.pinned (OpenSpec.upto termsSidesSpec)

/-- 'corsnedlaw33.HopTells', WHERE WHAT IT READS IS OF BULK AT MOST 1048576: true; the input reads as it did. -/
def hopTellsUptoRow : OpenClaim := { program := "ytcdmmfelagbpdaa", sum := "d906001bfa989c57edd44310b833368fe6763693998777bc3ae1d5292e8a88a7", func := "corsned/corsnedlaw33.HopTells", spec := "hopTells", named := ["math/bits.divideError", "math/bits.overflowError"], apart := false, narrowed := true }
def HopTellsUptoSaid : Prop := hopTellsUptoRow.holds Try.pinned (OpenSpec.upto hopTellsSpec)

/-- 'corsnedlaw33.HopFees', WHERE WHAT IT READS IS OF BULK AT MOST 1048576: true; the input reads as it did. -/
def hopFeesUptoRow : OpenClaim := { program := "ytcdmmfelagbpdaa", sum := "d906001bfa989c57edd44310b833368fe6763693998777bc3ae1d5292e8a88a7", func := "corsned/corsnedlaw33.HopFees", spec := "hopFees", named := ["math/bits.divideError", "math/bits.overflowError"], apart := false, narrowed := true }
def HopFeesUptoSaid : Prop := hopFeesUptoRow.holds Try.pinned (OpenSpec.upto hopFeesSpec)

/-- 'corsnedlaw33.HopRow', WHERE WHAT IT READS IS OF BULK AT MOST 1048576: true; the input reads as it did. -/
def hopRowUptoRow : OpenClaim := { program := "ytcdmmfelagbpdaa", sum := "d906001bfa989c57edd44310b833368fe6763693998777bc3ae1d5292e8a88a7", func := "corsned/corsnedlaw33.HopRow", spec := "hopRow", named := ["math/bits.divideError", "math/bits.overflowError"], apart := false, narrowed := true }
def HopRowUptoSaid : Prop := hopRowUptoRow.holds Try.pinned (OpenSpec.upto hopRowSpec)

/-- 'corsnedlaw33.HopSafe', WHERE WHAT IT READS IS OF BULK AT MOST 1048576: true; the input reads as it did. -/
def hopSafeUptoRow : OpenClaim := { program := "ytcdmmfelagbpdaa", sum := "d906001bfa989c57edd44310b833368fe6763693998777bc3ae1d5292e8a88a7", func := "corsned/corsnedlaw33.HopSafe", spec := "hopSafe", named := ["math/bits.divideError", "math/bits.overflowError"], apart := false, narrowed := true }
def HopSafeUptoSaid : Prop := hopSafeUptoRow.holds Try.pinned (OpenSpec.upto hopSafeSpec)

/-- 'corsnedlaw33.HopEnd', WHERE WHAT IT READS IS OF BULK AT MOST 1048576: true; the input reads as it did. -/
def hopEndUptoRow : OpenClaim := { program := "ytcdmmfelagbpdaa", sum := "d906001bfa989c57edd44310b833368fe6763693998777bc3ae1d5292e8a88a7", func := "corsned/corsnedlaw33.HopEnd", spec := "hopEnd", named := ["math/bits.divideError", "math/bits.overflowError"], apart := false, narrowed := true }
def HopEndUptoSaid : Prop := hopEndUptoRow.holds Try.pinned (OpenSpec.upto hopEndSpec)

/-- 'corsnedlaw33.HopTaken', WHERE WHAT IT READS IS OF BULK AT MOST 1048576: true; the input reads as it did. -/
def hopTakenUptoRow : OpenClaim := { program := "ytcdmmfelagbpdaa", sum := "d906001bfa989c57edd44310b833368fe6763693998777bc3ae1d5292e8a88a7", func := "corsned/corsnedlaw33.HopTaken", spec := "hopTaken", unfollowed := true, recurses := true, named := ["math/bits.divideError", "math/bits.overflowError"], apart := false, narrowed := true }
def HopTakenUptoSaid : Prop := hopTakenUptoRow.holds Try.pinned (OpenSpec.upto hopTakenSpec)

end Rows
end Go.Proofs.Ytcdmmfelagbpdaa
