/-
  No cell of these rows narrows 'for every input' (looked for: loops, veiled, ifaces, maps, wideKeys, modest, calm, conditions, laid).
  DERIVED. THE GIVEN ROWS OF THIS SEAT. 12 by the template 'for every input the law returns true; each argument reads behind the call as it read before'; 0 by the template 'total and deterministic' (their statements: YtndhbckdbobogaaTotals.lean).
  GIVEN WITH THE SEED: the statements are not yours to turn. If you find one false, say at which input.
  Laid BY PROGRAM, IN A SANDBOX (cutbox-rows.mjs): the forced cells as the released guide's own fill.sh prints them over the translation 78830568d9aecc84… (all of the seat's roots in one cut). By AI agents, Wed Nov 11 2026. No macro, syntax, notation, axiom, sorry.
-/
import Derived.Test.YtndhbckdbobogaaChecked
import GoSem.Claim
import GoSem.ClaimJoined
import GoSem.ClaimMapViews
import Derived.JoinedTies
import Derived.KernelRfl
namespace Go.Proofs.Ytndhbckdbobogaa
/- THE CELL 'sum', in the pinned program and in every row, IS THE sha256 OF THE DUMP (.gsa) THAT YtndhbckdbobogaaProg.lean LOADS. Nothing in Lean hashes anything: it is a label: what it is worth is what the hold of that sum in a sandbox is worth. -/
noncomputable def Try.pinned : Pinned := { name := "ytndhbckdbobogaa", sum := "78830568d9aecc842563b2761e920b0fa0f731284666b327d97e53f3a59dde24", checked := Try.checked }
namespace Rows
def none {H : Type} : Left H := { results := [], args := [] }

/-- 'corsnedlaw05.FieldTells': WHATEVER THE INPUT: true; the input reads as it did. -/
def fieldTellsSpec : ChangeSpec := { name := "fieldTells", fn := fun _ => fun
  | [d1, d2, d3, d4] => { results := [.lit (.bool true)], args := [d1, d2, d3, d4] }
  | _ => none }
def fieldTellsRow : OpenClaim := { program := "ytndhbckdbobogaa", sum := "78830568d9aecc842563b2761e920b0fa0f731284666b327d97e53f3a59dde24", func := "corsned/corsnedlaw05.FieldTells", spec := "fieldTells", unfollowed := true, recurses := true, named := ["math/bits.divideError", "math/bits.overflowError"], apart := false }
def FieldTellsSaid : Prop := fieldTellsRow.holds Try.pinned (OpenSpec.ofChange fieldTellsSpec)

/-- ITS FALSE NEIGHBOUR: 'it returns false'. Refute it at one input. -/
def fieldTellsWrong : ChangeSpec := { name := "fieldTells", fn := fun _ => fun
  | [d1, d2, d3, d4] => { results := [.lit (.bool false)], args := [d1, d2, d3, d4] }
  | _ => none }
def FieldTellsWrongFalsely : Prop := fieldTellsRow.holds Try.pinned (OpenSpec.ofChange fieldTellsWrong)

/-- 'corsnedlaw05.FieldRings': WHATEVER THE INPUT: true; the input reads as it did. -/
def fieldRingsSpec : ChangeSpec := { name := "fieldRings", fn := fun _ => fun
  | [d1, d2, d3] => { results := [.lit (.bool true)], args := [d1, d2, d3] }
  | _ => none }
def fieldRingsRow : OpenClaim := { program := "ytndhbckdbobogaa", sum := "78830568d9aecc842563b2761e920b0fa0f731284666b327d97e53f3a59dde24", func := "corsned/corsnedlaw05.FieldRings", spec := "fieldRings", unfollowed := true, recurses := true, named := ["math/bits.divideError", "math/bits.overflowError"], apart := false }
def FieldRingsSaid : Prop := fieldRingsRow.holds Try.pinned (OpenSpec.ofChange fieldRingsSpec)

/-- ITS FALSE NEIGHBOUR: 'it returns false'. Refute it at one input. -/
def fieldRingsWrong : ChangeSpec := { name := "fieldRings", fn := fun _ => fun
  | [d1, d2, d3] => { results := [.lit (.bool false)], args := [d1, d2, d3] }
  | _ => none }
def FieldRingsWrongFalsely : Prop := fieldRingsRow.holds Try.pinned (OpenSpec.ofChange fieldRingsWrong)

/-- 'corsnedlaw05.FieldTurns': WHATEVER THE INPUT: true; the input reads as it did. -/
def fieldTurnsSpec : ChangeSpec := { name := "fieldTurns", fn := fun _ => fun
  | [d1, d2] => { results := [.lit (.bool true)], args := [d1, d2] }
  | _ => none }
def fieldTurnsRow : OpenClaim := { program := "ytndhbckdbobogaa", sum := "78830568d9aecc842563b2761e920b0fa0f731284666b327d97e53f3a59dde24", func := "corsned/corsnedlaw05.FieldTurns", spec := "fieldTurns", unfollowed := true, recurses := true, named := ["math/bits.divideError", "math/bits.overflowError"], apart := false }
def FieldTurnsSaid : Prop := fieldTurnsRow.holds Try.pinned (OpenSpec.ofChange fieldTurnsSpec)

/-- ITS FALSE NEIGHBOUR: 'it returns false'. Refute it at one input. -/
def fieldTurnsWrong : ChangeSpec := { name := "fieldTurns", fn := fun _ => fun
  | [d1, d2] => { results := [.lit (.bool false)], args := [d1, d2] }
  | _ => none }
def FieldTurnsWrongFalsely : Prop := fieldTurnsRow.holds Try.pinned (OpenSpec.ofChange fieldTurnsWrong)

/-- 'corsnedlaw05.FieldPowers': WHATEVER THE INPUT: true; the input reads as it did. -/
def fieldPowersSpec : ChangeSpec := { name := "fieldPowers", fn := fun _ => fun
  | [d1, d2, d3, d4] => { results := [.lit (.bool true)], args := [d1, d2, d3, d4] }
  | _ => none }
def fieldPowersRow : OpenClaim := { program := "ytndhbckdbobogaa", sum := "78830568d9aecc842563b2761e920b0fa0f731284666b327d97e53f3a59dde24", func := "corsned/corsnedlaw05.FieldPowers", spec := "fieldPowers", unfollowed := true, recurses := true, named := ["math/bits.divideError", "math/bits.overflowError"], apart := false }
def FieldPowersSaid : Prop := fieldPowersRow.holds Try.pinned (OpenSpec.ofChange fieldPowersSpec)

/-- ITS FALSE NEIGHBOUR: 'it returns false'. Refute it at one input. -/
def fieldPowersWrong : ChangeSpec := { name := "fieldPowers", fn := fun _ => fun
  | [d1, d2, d3, d4] => { results := [.lit (.bool false)], args := [d1, d2, d3, d4] }
  | _ => none }
def FieldPowersWrongFalsely : Prop := fieldPowersRow.holds Try.pinned (OpenSpec.ofChange fieldPowersWrong)

/-- 'corsnedlaw05.FieldFrom': WHATEVER THE INPUT: true; the input reads as it did. -/
def fieldFromSpec : ChangeSpec := { name := "fieldFrom", fn := fun _ => fun
  | [d] => { results := [.lit (.bool true)], args := [d] }
  | _ => none }
def fieldFromRow : OpenClaim := { program := "ytndhbckdbobogaa", sum := "78830568d9aecc842563b2761e920b0fa0f731284666b327d97e53f3a59dde24", func := "corsned/corsnedlaw05.FieldFrom", spec := "fieldFrom", unfollowed := true, recurses := true, named := ["math/bits.divideError", "math/bits.overflowError"], apart := false }
def FieldFromSaid : Prop := fieldFromRow.holds Try.pinned (OpenSpec.ofChange fieldFromSpec)

/-- ITS FALSE NEIGHBOUR: 'it returns false'. Refute it at one input. -/
def fieldFromWrong : ChangeSpec := { name := "fieldFrom", fn := fun _ => fun
  | [d] => { results := [.lit (.bool false)], args := [d] }
  | _ => none }
def FieldFromWrongFalsely : Prop := fieldFromRow.holds Try.pinned (OpenSpec.ofChange fieldFromWrong)

/-- 'corsnedlaw06.PointTells': WHATEVER THE INPUT: true; the input reads as it did. -/
def pointTellsSpec : ChangeSpec := { name := "pointTells", fn := fun _ => fun
  | [d1, d2, d3, d4] => { results := [.lit (.bool true)], args := [d1, d2, d3, d4] }
  | _ => none }
def pointTellsRow : OpenClaim := { program := "ytndhbckdbobogaa", sum := "78830568d9aecc842563b2761e920b0fa0f731284666b327d97e53f3a59dde24", func := "corsned/corsnedlaw06.PointTells", spec := "pointTells", named := ["math/bits.divideError", "math/bits.overflowError"], apart := false }
def PointTellsSaid : Prop := pointTellsRow.holds Try.pinned (OpenSpec.ofChange pointTellsSpec)

/-- ITS FALSE NEIGHBOUR: 'it returns false'. Refute it at one input. -/
def pointTellsWrong : ChangeSpec := { name := "pointTells", fn := fun _ => fun
  | [d1, d2, d3, d4] => { results := [.lit (.bool false)], args := [d1, d2, d3, d4] }
  | _ => none }
def PointTellsWrongFalsely : Prop := pointTellsRow.holds Try.pinned (OpenSpec.ofChange pointTellsWrong)

/-- 'corsnedlaw06.PointGroup': WHATEVER THE INPUT: true; the input reads as it did. -/
def pointGroupSpec : ChangeSpec := { name := "pointGroup", fn := fun _ => fun
  | [d1, d2, d3] => { results := [.lit (.bool true)], args := [d1, d2, d3] }
  | _ => none }
def pointGroupRow : OpenClaim := { program := "ytndhbckdbobogaa", sum := "78830568d9aecc842563b2761e920b0fa0f731284666b327d97e53f3a59dde24", func := "corsned/corsnedlaw06.PointGroup", spec := "pointGroup", named := ["math/bits.divideError", "math/bits.overflowError"], apart := false }
def PointGroupSaid : Prop := pointGroupRow.holds Try.pinned (OpenSpec.ofChange pointGroupSpec)

/-- ITS FALSE NEIGHBOUR: 'it returns false'. Refute it at one input. -/
def pointGroupWrong : ChangeSpec := { name := "pointGroup", fn := fun _ => fun
  | [d1, d2, d3] => { results := [.lit (.bool false)], args := [d1, d2, d3] }
  | _ => none }
def PointGroupWrongFalsely : Prop := pointGroupRow.holds Try.pinned (OpenSpec.ofChange pointGroupWrong)

/-- 'corsnedlaw06.PointAll': WHATEVER THE INPUT: true; the input reads as it did. -/
def pointAllSpec : ChangeSpec := { name := "pointAll", fn := fun _ => fun
  | [d1, d2] => { results := [.lit (.bool true)], args := [d1, d2] }
  | _ => none }
def pointAllRow : OpenClaim := { program := "ytndhbckdbobogaa", sum := "78830568d9aecc842563b2761e920b0fa0f731284666b327d97e53f3a59dde24", func := "corsned/corsnedlaw06.PointAll", spec := "pointAll", named := ["math/bits.divideError", "math/bits.overflowError"], apart := false }
def PointAllSaid : Prop := pointAllRow.holds Try.pinned (OpenSpec.ofChange pointAllSpec)

/-- ITS FALSE NEIGHBOUR: 'it returns false'. Refute it at one input. -/
def pointAllWrong : ChangeSpec := { name := "pointAll", fn := fun _ => fun
  | [d1, d2] => { results := [.lit (.bool false)], args := [d1, d2] }
  | _ => none }
def PointAllWrongFalsely : Prop := pointAllRow.holds Try.pinned (OpenSpec.ofChange pointAllWrong)

/-- 'corsnedlaw06.PointHalves': WHATEVER THE INPUT: true; the input reads as it did. -/
def pointHalvesSpec : ChangeSpec := { name := "pointHalves", fn := fun _ => fun
  | [d] => { results := [.lit (.bool true)], args := [d] }
  | _ => none }
def pointHalvesRow : OpenClaim := { program := "ytndhbckdbobogaa", sum := "78830568d9aecc842563b2761e920b0fa0f731284666b327d97e53f3a59dde24", func := "corsned/corsnedlaw06.PointHalves", spec := "pointHalves", named := ["math/bits.divideError", "math/bits.overflowError"], apart := false }
def PointHalvesSaid : Prop := pointHalvesRow.holds Try.pinned (OpenSpec.ofChange pointHalvesSpec)

/-- ITS FALSE NEIGHBOUR: 'it returns false'. Refute it at one input. -/
def pointHalvesWrong : ChangeSpec := { name := "pointHalves", fn := fun _ => fun
  | [d] => { results := [.lit (.bool false)], args := [d] }
  | _ => none }
def PointHalvesWrongFalsely : Prop := pointHalvesRow.holds Try.pinned (OpenSpec.ofChange pointHalvesWrong)

/-- 'corsnedlaw06.PointScale': WHATEVER THE INPUT: true; the input reads as it did. -/
def pointScaleSpec : ChangeSpec := { name := "pointScale", fn := fun _ => fun
  | [d1, d2, d3, d4] => { results := [.lit (.bool true)], args := [d1, d2, d3, d4] }
  | _ => none }
def pointScaleRow : OpenClaim := { program := "ytndhbckdbobogaa", sum := "78830568d9aecc842563b2761e920b0fa0f731284666b327d97e53f3a59dde24", func := "corsned/corsnedlaw06.PointScale", spec := "pointScale", named := ["math/bits.divideError", "math/bits.overflowError"], apart := false }
def PointScaleSaid : Prop := pointScaleRow.holds Try.pinned (OpenSpec.ofChange pointScaleSpec)

/-- ITS FALSE NEIGHBOUR: 'it returns false'. Refute it at one input. -/
def pointScaleWrong : ChangeSpec := { name := "pointScale", fn := fun _ => fun
  | [d1, d2, d3, d4] => { results := [.lit (.bool false)], args := [d1, d2, d3, d4] }
  | _ => none }
def PointScaleWrongFalsely : Prop := pointScaleRow.holds Try.pinned (OpenSpec.ofChange pointScaleWrong)

/-- 'corsnedlaw06.PointBase': WHATEVER THE INPUT: true; the input reads as it did. -/
def pointBaseSpec : ChangeSpec := { name := "pointBase", fn := fun _ => fun
  | [d1, d2] => { results := [.lit (.bool true)], args := [d1, d2] }
  | _ => none }
def pointBaseRow : OpenClaim := { program := "ytndhbckdbobogaa", sum := "78830568d9aecc842563b2761e920b0fa0f731284666b327d97e53f3a59dde24", func := "corsned/corsnedlaw06.PointBase", spec := "pointBase", named := ["math/bits.divideError", "math/bits.overflowError"], apart := false }
def PointBaseSaid : Prop := pointBaseRow.holds Try.pinned (OpenSpec.ofChange pointBaseSpec)

/-- ITS FALSE NEIGHBOUR: 'it returns false'. Refute it at one input. -/
def pointBaseWrong : ChangeSpec := { name := "pointBase", fn := fun _ => fun
  | [d1, d2] => { results := [.lit (.bool false)], args := [d1, d2] }
  | _ => none }
def PointBaseWrongFalsely : Prop := pointBaseRow.holds Try.pinned (OpenSpec.ofChange pointBaseWrong)

/-- 'corsnedlaw06.PointRoots': WHATEVER THE INPUT: true; the input reads as it did. -/
def pointRootsSpec : ChangeSpec := { name := "pointRoots", fn := fun _ => fun
  | [d] => { results := [.lit (.bool true)], args := [d] }
  | _ => none }
def pointRootsRow : OpenClaim := { program := "ytndhbckdbobogaa", sum := "78830568d9aecc842563b2761e920b0fa0f731284666b327d97e53f3a59dde24", func := "corsned/corsnedlaw06.PointRoots", spec := "pointRoots", unfollowed := true, recurses := true, named := ["math/bits.divideError", "math/bits.overflowError"], apart := false }
def PointRootsSaid : Prop := pointRootsRow.holds Try.pinned (OpenSpec.ofChange pointRootsSpec)

/-- ITS FALSE NEIGHBOUR: 'it returns false'. Refute it at one input. -/
def pointRootsWrong : ChangeSpec := { name := "pointRoots", fn := fun _ => fun
  | [d] => { results := [.lit (.bool false)], args := [d] }
  | _ => none }
def PointRootsWrongFalsely : Prop := pointRootsRow.holds Try.pinned (OpenSpec.ofChange pointRootsWrong)

/- THE SECOND FORM. 'bulk': how many values and letters a reading holds, each counted each time it is reached (what is shared counts as often as it is met; a slice's spare places count too). A statement '..UptoSaid' is the law's where the arguments, and the package variables that the reading takes, are together of bulk at most 1048576: NARROWER than '..Said'. Prove '..Said' where nothing that the law and all that it calls make is longer than what came in: it says more and counts as full. Else prove '..UptoSaid'. A law counts once. -/
mutual
def uptoBulk {H : Type} : DataW H → Nat
  | .lit (.string bytes) => bytes.length + 1
  | .lit _ => 1
  | .nil => 1
  | .ptr d => uptoBulk d + 1
  | .slice elems spare => uptoBulkAll elems + uptoBulkAll spare + 1
  | .agg parts => uptoBulkAll parts + 1
  | .iface _ d => uptoBulk d + 1
  | .map entries => uptoBulkEntries entries + 1
  | .held _ => 1
def uptoBulkAll {H : Type} : List (DataW H) → Nat
  | [] => 0
  | d :: r => uptoBulk d + uptoBulkAll r
def uptoBulkEntries {H : Type} : List (Lit × DataW H) → Nat
  | [] => 0
  | x :: r => uptoBulkEntry x + uptoBulkEntries r
def uptoBulkEntry {H : Type} : Lit × DataW H → Nat
  | (.string bytes, d) => bytes.length + uptoBulk d + 1
  | (_, d) => uptoBulk d + 1
 end
def uptoSmall : (H : Type) → List (DataW H) → Bool := fun _ ds => decide (uptoBulkAll ds ≤ 1048576)
def OpenSpec.upto (s : _root_.Go.ChangeSpec) : _root_.Go.OpenSpec := { _root_.Go.OpenSpec.ofChange s with cond := some uptoSmall }

/-- 'corsnedlaw05.FieldTells', WHERE WHAT IT READS IS OF BULK AT MOST 1048576: true; the input reads as it did. -/
def fieldTellsUptoRow : OpenClaim := { program := "ytndhbckdbobogaa", sum := "78830568d9aecc842563b2761e920b0fa0f731284666b327d97e53f3a59dde24", func := "corsned/corsnedlaw05.FieldTells", spec := "fieldTells", unfollowed := true, recurses := true, named := ["math/bits.divideError", "math/bits.overflowError"], apart := false, narrowed := true }
def FieldTellsUptoSaid : Prop := fieldTellsUptoRow.holds Try.pinned (OpenSpec.upto fieldTellsSpec)

/-- 'corsnedlaw05.FieldRings', WHERE WHAT IT READS IS OF BULK AT MOST 1048576: true; the input reads as it did. -/
def fieldRingsUptoRow : OpenClaim := { program := "ytndhbckdbobogaa", sum := "78830568d9aecc842563b2761e920b0fa0f731284666b327d97e53f3a59dde24", func := "corsned/corsnedlaw05.FieldRings", spec := "fieldRings", unfollowed := true, recurses := true, named := ["math/bits.divideError", "math/bits.overflowError"], apart := false, narrowed := true }
def FieldRingsUptoSaid : Prop := fieldRingsUptoRow.holds Try.pinned (OpenSpec.upto fieldRingsSpec)

/-- 'corsnedlaw05.FieldTurns', WHERE WHAT IT READS IS OF BULK AT MOST 1048576: true; the input reads as it did. -/
def fieldTurnsUptoRow : OpenClaim := { program := "ytndhbckdbobogaa", sum := "78830568d9aecc842563b2761e920b0fa0f731284666b327d97e53f3a59dde24", func := "corsned/corsnedlaw05.FieldTurns", spec := "fieldTurns", unfollowed := true, recurses := true, named := ["math/bits.divideError", "math/bits.overflowError"], apart := false, narrowed := true }
def FieldTurnsUptoSaid : Prop := fieldTurnsUptoRow.holds Try.pinned (OpenSpec.upto fieldTurnsSpec)

/-- 'corsnedlaw05.FieldPowers', WHERE WHAT IT READS IS OF BULK AT MOST 1048576: true; the input reads as it did. -/
def fieldPowersUptoRow : OpenClaim := { program := "ytndhbckdbobogaa", sum := "78830568d9aecc842563b2761e920b0fa0f731284666b327d97e53f3a59dde24", func := "corsned/corsnedlaw05.FieldPowers", spec := "fieldPowers", unfollowed := true, recurses := true, named := ["math/bits.divideError", "math/bits.overflowError"], apart := false, narrowed := true }
def FieldPowersUptoSaid : Prop := fieldPowersUptoRow.holds Try.pinned (OpenSpec.upto fieldPowersSpec)

/-- 'corsnedlaw05.FieldFrom', WHERE WHAT IT READS IS OF BULK AT MOST 1048576: true; the input reads as it did. -/
def fieldFromUptoRow : OpenClaim := { program := "ytndhbckdbobogaa", sum := "78830568d9aecc842563b2761e920b0fa0f731284666b327d97e53f3a59dde24", func := "corsned/corsnedlaw05.FieldFrom", spec := "fieldFrom", unfollowed := true, recurses := true, named := ["math/bits.divideError", "math/bits.overflowError"], apart := false, narrowed := true }
def FieldFromUptoSaid : Prop := fieldFromUptoRow.holds Try.pinned (OpenSpec.upto fieldFromSpec)

/-- 'corsnedlaw06.PointTells', WHERE WHAT IT READS IS OF BULK AT MOST 1048576: true; the input reads as it did. -/
def pointTellsUptoRow : OpenClaim := { program := "ytndhbckdbobogaa", sum := "78830568d9aecc842563b2761e920b0fa0f731284666b327d97e53f3a59dde24", func := "corsned/corsnedlaw06.PointTells", spec := "pointTells", named := ["math/bits.divideError", "math/bits.overflowError"], apart := false, narrowed := true }
def PointTellsUptoSaid : Prop := pointTellsUptoRow.holds Try.pinned (OpenSpec.upto pointTellsSpec)

/-- 'corsnedlaw06.PointGroup', WHERE WHAT IT READS IS OF BULK AT MOST 1048576: true; the input reads as it did. -/
def pointGroupUptoRow : OpenClaim := { program := "ytndhbckdbobogaa", sum := "78830568d9aecc842563b2761e920b0fa0f731284666b327d97e53f3a59dde24", func := "corsned/corsnedlaw06.PointGroup", spec := "pointGroup", named := ["math/bits.divideError", "math/bits.overflowError"], apart := false, narrowed := true }
def PointGroupUptoSaid : Prop := pointGroupUptoRow.holds Try.pinned (OpenSpec.upto pointGroupSpec)

/-- 'corsnedlaw06.PointAll', WHERE WHAT IT READS IS OF BULK AT MOST 1048576: true; the input reads as it did. -/
def pointAllUptoRow : OpenClaim := { program := "ytndhbckdbobogaa", sum := "78830568d9aecc842563b2761e920b0fa0f731284666b327d97e53f3a59dde24", func := "corsned/corsnedlaw06.PointAll", spec := "pointAll", named := ["math/bits.divideError", "math/bits.overflowError"], apart := false, narrowed := true }
def PointAllUptoSaid : Prop := pointAllUptoRow.holds Try.pinned (OpenSpec.upto pointAllSpec)

/-- 'corsnedlaw06.PointHalves', WHERE WHAT IT READS IS OF BULK AT MOST 1048576: true; the input reads as it did. -/
def pointHalvesUptoRow : OpenClaim := { program := "ytndhbckdbobogaa", sum := "78830568d9aecc842563b2761e920b0fa0f731284666b327d97e53f3a59dde24", func := "corsned/corsnedlaw06.PointHalves", spec := "pointHalves", named := ["math/bits.divideError", "math/bits.overflowError"], apart := false, narrowed := true }
def PointHalvesUptoSaid : Prop := pointHalvesUptoRow.holds Try.pinned (OpenSpec.upto pointHalvesSpec)

/-- 'corsnedlaw06.PointScale', WHERE WHAT IT READS IS OF BULK AT MOST 1048576: true; the input reads as it did. -/
def pointScaleUptoRow : OpenClaim := { program := "ytndhbckdbobogaa", sum := "78830568d9aecc842563b2761e920b0fa0f731284666b327d97e53f3a59dde24", func := "corsned/corsnedlaw06.PointScale", spec := "pointScale", named := ["math/bits.divideError", "math/bits.overflowError"], apart := false, narrowed := true }
def PointScaleUptoSaid : Prop := pointScaleUptoRow.holds Try.pinned (OpenSpec.upto pointScaleSpec)

/-- 'corsnedlaw06.PointBase', WHERE WHAT IT READS IS OF BULK AT MOST 1048576: true; the input reads as it did. -/
def pointBaseUptoRow : OpenClaim := { program := "ytndhbckdbobogaa", sum := "78830568d9aecc842563b2761e920b0fa0f731284666b327d97e53f3a59dde24", func := "corsned/corsnedlaw06.PointBase", spec := "pointBase", named := ["math/bits.divideError", "math/bits.overflowError"], apart := false, narrowed := true }
def PointBaseUptoSaid : Prop := pointBaseUptoRow.holds Try.pinned (OpenSpec.upto pointBaseSpec)

/-- 'corsnedlaw06.PointRoots', WHERE WHAT IT READS IS OF BULK AT MOST 1048576: true; the input reads as it did. -/
def pointRootsUptoRow : OpenClaim := { program := "ytndhbckdbobogaa", sum := "78830568d9aecc842563b2761e920b0fa0f731284666b327d97e53f3a59dde24", func := "corsned/corsnedlaw06.PointRoots", spec := "pointRoots", unfollowed := true, recurses := true, named := ["math/bits.divideError", "math/bits.overflowError"], apart := false, narrowed := true }
def PointRootsUptoSaid : Prop := pointRootsUptoRow.holds Try.pinned (OpenSpec.upto pointRootsSpec)

end Rows
end Go.Proofs.Ytndhbckdbobogaa
