/-
  No cell of these rows narrows 'for every input' (looked for: loops, veiled, ifaces, maps, wideKeys, modest, calm, conditions, laid).
  DERIVED. THE GIVEN ROWS OF THIS SEAT. 5 by the template 'for every input the law returns true; each argument reads behind the call as it read before'; 0 by the template 'total and deterministic' (their statements: YtaohpdhhbnempaaTotals.lean).
  GIVEN WITH THE SEED: the statements are not yours to turn. If you find one false, say at which input.
  Laid BY PROGRAM, IN A SANDBOX (cutbox-rows.mjs): the forced cells as the released guide's own fill.sh prints them over the translation 265d9e0162d1e7ec… (all of the seat's roots in one cut). By AI agents, Wed Nov 11 2026. No macro, syntax, notation, axiom, sorry.
-/
import Derived.Test.YtaohpdhhbnempaaChecked
import GoSem.Claim
import GoSem.ClaimJoined
import GoSem.ClaimMapViews
import Derived.JoinedTies
import Derived.KernelRfl
namespace Go.Proofs.Ytaohpdhhbnempaa
/- THE CELL 'sum', in the pinned program and in every row, IS THE sha256 OF THE DUMP (.gsa) THAT YtaohpdhhbnempaaProg.lean LOADS. Nothing in Lean hashes anything: it is a label: what it is worth is what the hold of that sum in a sandbox is worth. -/
noncomputable def Try.pinned : Pinned := { name := "ytaohpdhhbnempaa", sum := "265d9e0162d1e7eca1faca8293f50dd9d53d3163655c6cb40c519fa1420e232e", checked := Try.checked }
namespace Rows
def none {H : Type} : Left H := { results := [], args := [] }

/-- 'corsnedlaw44.LogTells': WHATEVER THE INPUT: true; the input reads as it did. -/
def logTellsSpec : ChangeSpec := { name := "logTells", fn := fun _ => fun
  | [d1, d2, d3] => { results := [.lit (.bool true)], args := [d1, d2, d3] }
  | _ => none }
def logTellsRow : OpenClaim := { program := "ytaohpdhhbnempaa", sum := "265d9e0162d1e7eca1faca8293f50dd9d53d3163655c6cb40c519fa1420e232e", func := "corsned/corsnedlaw44.LogTells", spec := "logTells", unfollowed := true, recurses := true, plainKeys := false, apart := false }
def LogTellsSaid : Prop := logTellsRow.holds Try.pinned (OpenSpec.ofChange logTellsSpec)

/-- ITS FALSE NEIGHBOUR: 'it returns false'. Refute it at one input. -/
def logTellsWrong : ChangeSpec := { name := "logTells", fn := fun _ => fun
  | [d1, d2, d3] => { results := [.lit (.bool false)], args := [d1, d2, d3] }
  | _ => none }
def LogTellsWrongFalsely : Prop := logTellsRow.holds Try.pinned (OpenSpec.ofChange logTellsWrong)

/-- 'corsnedlaw44.LogBack': WHATEVER THE INPUT: true; the input reads as it did. -/
def logBackSpec : ChangeSpec := { name := "logBack", fn := fun _ => fun
  | [d1, d2] => { results := [.lit (.bool true)], args := [d1, d2] }
  | _ => none }
def logBackRow : OpenClaim := { program := "ytaohpdhhbnempaa", sum := "265d9e0162d1e7eca1faca8293f50dd9d53d3163655c6cb40c519fa1420e232e", func := "corsned/corsnedlaw44.LogBack", spec := "logBack", unfollowed := true, recurses := true, plainKeys := false, apart := false }
def LogBackSaid : Prop := logBackRow.holds Try.pinned (OpenSpec.ofChange logBackSpec)

/-- ITS FALSE NEIGHBOUR: 'it returns false'. Refute it at one input. -/
def logBackWrong : ChangeSpec := { name := "logBack", fn := fun _ => fun
  | [d1, d2] => { results := [.lit (.bool false)], args := [d1, d2] }
  | _ => none }
def LogBackWrongFalsely : Prop := logBackRow.holds Try.pinned (OpenSpec.ofChange logBackWrong)

/-- 'corsnedlaw44.LogTorn': WHATEVER THE INPUT: true; the input reads as it did. -/
def logTornSpec : ChangeSpec := { name := "logTorn", fn := fun _ => fun
  | [d1, d2] => { results := [.lit (.bool true)], args := [d1, d2] }
  | _ => none }
def logTornRow : OpenClaim := { program := "ytaohpdhhbnempaa", sum := "265d9e0162d1e7eca1faca8293f50dd9d53d3163655c6cb40c519fa1420e232e", func := "corsned/corsnedlaw44.LogTorn", spec := "logTorn", unfollowed := true, recurses := true, plainKeys := false, apart := false }
def LogTornSaid : Prop := logTornRow.holds Try.pinned (OpenSpec.ofChange logTornSpec)

/-- ITS FALSE NEIGHBOUR: 'it returns false'. Refute it at one input. -/
def logTornWrong : ChangeSpec := { name := "logTorn", fn := fun _ => fun
  | [d1, d2] => { results := [.lit (.bool false)], args := [d1, d2] }
  | _ => none }
def LogTornWrongFalsely : Prop := logTornRow.holds Try.pinned (OpenSpec.ofChange logTornWrong)

/-- 'corsnedlaw44.LogStates': WHATEVER THE INPUT: true; the input reads as it did. -/
def logStatesSpec : ChangeSpec := { name := "logStates", fn := fun _ => fun
  | [d1, d2, d3] => { results := [.lit (.bool true)], args := [d1, d2, d3] }
  | _ => none }
def logStatesRow : OpenClaim := { program := "ytaohpdhhbnempaa", sum := "265d9e0162d1e7eca1faca8293f50dd9d53d3163655c6cb40c519fa1420e232e", func := "corsned/corsnedlaw44.LogStates", spec := "logStates", unfollowed := true, recurses := true, plainKeys := false, apart := false }
def LogStatesSaid : Prop := logStatesRow.holds Try.pinned (OpenSpec.ofChange logStatesSpec)

/-- ITS FALSE NEIGHBOUR: 'it returns false'. Refute it at one input. -/
def logStatesWrong : ChangeSpec := { name := "logStates", fn := fun _ => fun
  | [d1, d2, d3] => { results := [.lit (.bool false)], args := [d1, d2, d3] }
  | _ => none }
def LogStatesWrongFalsely : Prop := logStatesRow.holds Try.pinned (OpenSpec.ofChange logStatesWrong)

/-- 'corsnedlaw44.LogTxs': WHATEVER THE INPUT: true; the input reads as it did. -/
def logTxsSpec : ChangeSpec := { name := "logTxs", fn := fun _ => fun
  | [d1, d2, d3] => { results := [.lit (.bool true)], args := [d1, d2, d3] }
  | _ => none }
def logTxsRow : OpenClaim := { program := "ytaohpdhhbnempaa", sum := "265d9e0162d1e7eca1faca8293f50dd9d53d3163655c6cb40c519fa1420e232e", func := "corsned/corsnedlaw44.LogTxs", spec := "logTxs", unfollowed := true, recurses := true, named := ["math/bits.divideError", "math/bits.overflowError"], plainKeys := false, apart := false }
def LogTxsSaid : Prop := logTxsRow.holds Try.pinned (OpenSpec.ofChange logTxsSpec)

/-- ITS FALSE NEIGHBOUR: 'it returns false'. Refute it at one input. -/
def logTxsWrong : ChangeSpec := { name := "logTxs", fn := fun _ => fun
  | [d1, d2, d3] => { results := [.lit (.bool false)], args := [d1, d2, d3] }
  | _ => none }
def LogTxsWrongFalsely : Prop := logTxsRow.holds Try.pinned (OpenSpec.ofChange logTxsWrong)

/- THE SECOND FORM. 'bulk': how many values and letters a reading holds, each counted each time it is reached (what is shared counts as often as it is met; a slice's spare places count too). A statement '..UptoSaid' is the law's where the arguments, and the package variables that the reading takes, are together of bulk at most 1048576: NARROWER than '..Said'. Prove '..Said' where nothing that the law and all that it calls make is longer than what came in: it says more and counts as full. Else prove '..UptoSaid'. A law counts once. -/
mutual
def uptoBulk {H : Type} : DataW H → Nat
  | .lit (.string bytes) => bytes.length + 1
  | .lit _ => 1
  | .nil => 1
  | .ptr d => uptoBulk d + 1
  | .slice elems spare => uptoBulkAll elems + uptoBulkAll spare + 1
  | .agg parts => uptoBulkAll parts + 1
  | .iface _ d => uptoBulk d + 1
  | .map entries => uptoBulkEntries entries + 1
  | .held _ => 1
def uptoBulkAll {H : Type} : List (DataW H) → Nat
  | [] => 0
  | d :: r => uptoBulk d + uptoBulkAll r
def uptoBulkEntries {H : Type} : List (Lit × DataW H) → Nat
  | [] => 0
  | x :: r => uptoBulkEntry x + uptoBulkEntries r
def uptoBulkEntry {H : Type} : Lit × DataW H → Nat
  | (.string bytes, d) => bytes.length + uptoBulk d + 1
  | (_, d) => uptoBulk d + 1
 end
def uptoSmall : (H : Type) → List (DataW H) → Bool := fun _ ds => decide (uptoBulkAll ds ≤ 1048576)
def OpenSpec.upto (s : _root_.Go.ChangeSpec) : _root_.Go.OpenSpec := { _root_.Go.OpenSpec.ofChange s with cond := some uptoSmall }

/-- 'corsnedlaw44.LogTells', WHERE WHAT IT READS IS OF BULK AT MOST 1048576: true; the input reads as it did. -/
def logTellsUptoRow : OpenClaim := { program := "ytaohpdhhbnempaa", sum := "265d9e0162d1e7eca1faca8293f50dd9d53d3163655c6cb40c519fa1420e232e", func := "corsned/corsnedlaw44.LogTells", spec := "logTells", unfollowed := true, recurses := true, plainKeys := false, apart := false, narrowed := true }
def LogTellsUptoSaid : Prop := logTellsUptoRow.holds Try.pinned (OpenSpec.upto logTellsSpec)

/-- 'corsnedlaw44.LogBack', WHERE WHAT IT READS IS OF BULK AT MOST 1048576: true; the input reads as it did. -/
def logBackUptoRow : OpenClaim := { program := "ytaohpdhhbnempaa", sum := "265d9e0162d1e7eca1faca8293f50dd9d53d3163655c6cb40c519fa1420e232e", func := "corsned/corsnedlaw44.LogBack", spec := "logBack", unfollowed := true, recurses := true, plainKeys := false, apart := false, narrowed := true }
def LogBackUptoSaid : Prop := logBackUptoRow.holds Try.pinned (OpenSpec.upto logBackSpec)

/-- 'corsnedlaw44.LogTorn', WHERE WHAT IT READS IS OF BULK AT MOST 1048576: true; the input reads as it did. -/
def logTornUptoRow : OpenClaim := { program := "ytaohpdhhbnempaa", sum := "265d9e0162d1e7eca1faca8293f50dd9d53d3163655c6cb40c519fa1420e232e", func := "corsned/corsnedlaw44.LogTorn", spec := "logTorn", unfollowed := true, recurses := true, plainKeys := false, apart := false, narrowed := true }
def LogTornUptoSaid : Prop := logTornUptoRow.holds Try.pinned (OpenSpec.upto logTornSpec)

/-- 'corsnedlaw44.LogStates', WHERE WHAT IT READS IS OF BULK AT MOST 1048576: true; the input reads as it did. -/
def logStatesUptoRow : OpenClaim := { program := "ytaohpdhhbnempaa", sum := "265d9e0162d1e7eca1faca8293f50dd9d53d3163655c6cb40c519fa1420e232e", func := "corsned/corsnedlaw44.LogStates", spec := "logStates", unfollowed := true, recurses := true, plainKeys := false, apart := false, narrowed := true }
def LogStatesUptoSaid : Prop := logStatesUptoRow.holds Try.pinned (OpenSpec.upto logStatesSpec)

/-- 'corsnedlaw44.LogTxs', WHERE WHAT IT READS IS OF BULK AT MOST 1048576: true; the input reads as it did. -/
def logTxsUptoRow : OpenClaim := { program := "ytaohpdhhbnempaa", sum := "265d9e0162d1e7eca1faca8293f50dd9d53d3163655c6cb40c519fa1420e232e", func := "corsned/corsnedlaw44.LogTxs", spec := "logTxs", unfollowed := true, recurses := true, named := ["math/bits.divideError", "math/bits.overflowError"], plainKeys := false, apart := false, narrowed := true }
def LogTxsUptoSaid : Prop := logTxsUptoRow.holds Try.pinned (OpenSpec.upto logTxsSpec)

end Rows
end Go.Proofs.Ytaohpdhhbnempaa
