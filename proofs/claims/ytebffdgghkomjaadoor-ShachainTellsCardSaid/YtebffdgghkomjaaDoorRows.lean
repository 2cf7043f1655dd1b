/-
  NARROWER THAN 'FOR EVERY INPUT', by the rows' own cells (each row's printed sentence says how): ShachainTells: laid · ShachainKeeps: laid · ShachainTwo: laid · ShachainOnce: laid · ShachainPairs: laid.
  DERIVED. THE GIVEN ROWS OF THIS SEAT. 5 by the template 'for every input the law returns true; each argument reads behind the call as it read before'; 0 by the template 'total and deterministic' (their statements: YtebffdgghkomjaaDoorTotals.lean).
  GIVEN WITH THE SEED: the statements are not yours to turn. If you find one false, say at which input.
  Laid BY PROGRAM, IN A SANDBOX (cutbox-rows.mjs): the forced cells as the released guide's own fill.sh prints them over the translation 08415bbbcfcd5229… (all of the seat's roots in one cut). By AI agents, Wed Nov 11 2026. No macro, syntax, notation, axiom, sorry.
-/
import Derived.Test.YtebffdgghkomjaaDoorChecked
import GoSem.Claim
import GoSem.ClaimJoined
import GoSem.ClaimMapViews
import Derived.JoinedTies
import Derived.KernelRfl
namespace Go.Proofs.YtebffdgghkomjaaDoor
/- THE CELL 'sum', in the pinned program and in every row, IS THE sha256 OF THE DUMP (.gsa) THAT YtebffdgghkomjaaDoorProg.lean LOADS. Nothing in Lean hashes anything: it is a label: what it is worth is what the hold of that sum in a sandbox is worth. -/
noncomputable def Tryd.pinned : Pinned := { name := "ytebffdgghkomjaadoor", sum := "08415bbbcfcd5229dd91973397b6654fd727e39c431acc4d8dc02c3a4cef4dd7", checked := Tryd.checked }
namespace Rows
def none {H : Type} : Left H := { results := [], args := [] }

/- WHAT THE LISTED PACKAGE-LEVEL VARIABLES READ AS WHEN THE CALL BEGINS. Each datum BY PROGRAM (the guide's laid-datum.mjs) off the statement by which the dump's own 'gosem.cut.vars' lays the variable. In a bare row this is a premise. The card (YtebffdgghkomjaaDoorCards.lean) ties it to the program's text. -/
def laid_math_bits_deBruijn32tab {H : Type} : DataW H := .agg [.lit (.int .u8 0), .lit (.int .u8 1), .lit (.int .u8 28), .lit (.int .u8 2), .lit (.int .u8 29), .lit (.int .u8 14), .lit (.int .u8 24), .lit (.int .u8 3), .lit (.int .u8 30), .lit (.int .u8 22), .lit (.int .u8 20), .lit (.int .u8 15), .lit (.int .u8 25), .lit (.int .u8 17), .lit (.int .u8 4), .lit (.int .u8 8), .lit (.int .u8 31), .lit (.int .u8 27), .lit (.int .u8 13), .lit (.int .u8 23), .lit (.int .u8 21), .lit (.int .u8 19), .lit (.int .u8 16), .lit (.int .u8 7), .lit (.int .u8 26), .lit (.int .u8 12), .lit (.int .u8 18), .lit (.int .u8 6), .lit (.int .u8 11), .lit (.int .u8 5), .lit (.int .u8 10), .lit (.int .u8 9)]
def laid_math_bits_deBruijn64tab {H : Type} : DataW H := .agg [.lit (.int .u8 0), .lit (.int .u8 1), .lit (.int .u8 56), .lit (.int .u8 2), .lit (.int .u8 57), .lit (.int .u8 49), .lit (.int .u8 28), .lit (.int .u8 3), .lit (.int .u8 61), .lit (.int .u8 58), .lit (.int .u8 42), .lit (.int .u8 50), .lit (.int .u8 38), .lit (.int .u8 29), .lit (.int .u8 17), .lit (.int .u8 4), .lit (.int .u8 62), .lit (.int .u8 47), .lit (.int .u8 59), .lit (.int .u8 36), .lit (.int .u8 45), .lit (.int .u8 43), .lit (.int .u8 51), .lit (.int .u8 22), .lit (.int .u8 53), .lit (.int .u8 39), .lit (.int .u8 33), .lit (.int .u8 30), .lit (.int .u8 24), .lit (.int .u8 18), .lit (.int .u8 12), .lit (.int .u8 5), .lit (.int .u8 63), .lit (.int .u8 55), .lit (.int .u8 48), .lit (.int .u8 27), .lit (.int .u8 60), .lit (.int .u8 41), .lit (.int .u8 37), .lit (.int .u8 16), .lit (.int .u8 46), .lit (.int .u8 35), .lit (.int .u8 44), .lit (.int .u8 21), .lit (.int .u8 52), .lit (.int .u8 32), .lit (.int .u8 23), .lit (.int .u8 11), .lit (.int .u8 54), .lit (.int .u8 26), .lit (.int .u8 40), .lit (.int .u8 15), .lit (.int .u8 34), .lit (.int .u8 20), .lit (.int .u8 31), .lit (.int .u8 10), .lit (.int .u8 25), .lit (.int .u8 14), .lit (.int .u8 19), .lit (.int .u8 9), .lit (.int .u8 13), .lit (.int .u8 8), .lit (.int .u8 7), .lit (.int .u8 6)]

/-- 'corsnedlaw10.ShachainTells': WHATEVER THE INPUT: true; the input reads as it did. -/
def shachainTellsSpec : ChangeSpec := { name := "shachainTells", fn := fun _ => fun
  | [d1, d2, d3, d4, d5] => { results := [.lit (.bool true)], args := [d1, d2, d3, d4, d5] }
  | _ => none }
def shachainTellsRow : OpenClaim := { program := "ytebffdgghkomjaadoor", sum := "08415bbbcfcd5229dd91973397b6654fd727e39c431acc4d8dc02c3a4cef4dd7", func := "corsned/corsnedlaw10.ShachainTells", spec := "shachainTells", unfollowed := true, recurses := true, named := ["math/bits.deBruijn32tab", "math/bits.deBruijn64tab"], apart := false, laid := [("math/bits.deBruijn32tab", laid_math_bits_deBruijn32tab), ("math/bits.deBruijn64tab", laid_math_bits_deBruijn64tab)] }
def ShachainTellsSaid : Prop := shachainTellsRow.holds Tryd.pinned (OpenSpec.ofChange shachainTellsSpec)

/-- ITS FALSE NEIGHBOUR: 'it returns false'. Refute it at one input. -/
def shachainTellsWrong : ChangeSpec := { name := "shachainTells", fn := fun _ => fun
  | [d1, d2, d3, d4, d5] => { results := [.lit (.bool false)], args := [d1, d2, d3, d4, d5] }
  | _ => none }
def ShachainTellsWrongFalsely : Prop := shachainTellsRow.holds Tryd.pinned (OpenSpec.ofChange shachainTellsWrong)

/-- 'corsnedlaw10.ShachainKeeps': WHATEVER THE INPUT: true; the input reads as it did. -/
def shachainKeepsSpec : ChangeSpec := { name := "shachainKeeps", fn := fun _ => fun
  | [d1, d2, d3] => { results := [.lit (.bool true)], args := [d1, d2, d3] }
  | _ => none }
def shachainKeepsRow : OpenClaim := { program := "ytebffdgghkomjaadoor", sum := "08415bbbcfcd5229dd91973397b6654fd727e39c431acc4d8dc02c3a4cef4dd7", func := "corsned/corsnedlaw10.ShachainKeeps", spec := "shachainKeeps", unfollowed := true, recurses := true, named := ["math/bits.deBruijn32tab", "math/bits.deBruijn64tab"], apart := false, laid := [("math/bits.deBruijn32tab", laid_math_bits_deBruijn32tab), ("math/bits.deBruijn64tab", laid_math_bits_deBruijn64tab)] }
def ShachainKeepsSaid : Prop := shachainKeepsRow.holds Tryd.pinned (OpenSpec.ofChange shachainKeepsSpec)

/-- ITS FALSE NEIGHBOUR: 'it returns false'. Refute it at one input. -/
def shachainKeepsWrong : ChangeSpec := { name := "shachainKeeps", fn := fun _ => fun
  | [d1, d2, d3] => { results := [.lit (.bool false)], args := [d1, d2, d3] }
  | _ => none }
def ShachainKeepsWrongFalsely : Prop := shachainKeepsRow.holds Tryd.pinned (OpenSpec.ofChange shachainKeepsWrong)

/-- 'corsnedlaw10.ShachainTwo': WHATEVER THE INPUT: true; the input reads as it did. -/
def shachainTwoSpec : ChangeSpec := { name := "shachainTwo", fn := fun _ => fun
  | [d] => { results := [.lit (.bool true)], args := [d] }
  | _ => none }
def shachainTwoRow : OpenClaim := { program := "ytebffdgghkomjaadoor", sum := "08415bbbcfcd5229dd91973397b6654fd727e39c431acc4d8dc02c3a4cef4dd7", func := "corsned/corsnedlaw10.ShachainTwo", spec := "shachainTwo", unfollowed := true, recurses := true, named := ["math/bits.deBruijn32tab", "math/bits.deBruijn64tab"], apart := false, laid := [("math/bits.deBruijn32tab", laid_math_bits_deBruijn32tab), ("math/bits.deBruijn64tab", laid_math_bits_deBruijn64tab)] }
def ShachainTwoSaid : Prop := shachainTwoRow.holds Tryd.pinned (OpenSpec.ofChange shachainTwoSpec)

/-- ITS FALSE NEIGHBOUR: 'it returns false'. Refute it at one input. -/
def shachainTwoWrong : ChangeSpec := { name := "shachainTwo", fn := fun _ => fun
  | [d] => { results := [.lit (.bool false)], args := [d] }
  | _ => none }
def ShachainTwoWrongFalsely : Prop := shachainTwoRow.holds Tryd.pinned (OpenSpec.ofChange shachainTwoWrong)

/-- 'corsnedlaw10.ShachainOnce': WHATEVER THE INPUT: true; the input reads as it did. -/
def shachainOnceSpec : ChangeSpec := { name := "shachainOnce", fn := fun _ => fun
  | [d1, d2, d3] => { results := [.lit (.bool true)], args := [d1, d2, d3] }
  | _ => none }
def shachainOnceRow : OpenClaim := { program := "ytebffdgghkomjaadoor", sum := "08415bbbcfcd5229dd91973397b6654fd727e39c431acc4d8dc02c3a4cef4dd7", func := "corsned/corsnedlaw10.ShachainOnce", spec := "shachainOnce", unfollowed := true, recurses := true, named := ["math/bits.deBruijn32tab", "math/bits.deBruijn64tab"], apart := false, laid := [("math/bits.deBruijn32tab", laid_math_bits_deBruijn32tab), ("math/bits.deBruijn64tab", laid_math_bits_deBruijn64tab)] }
def ShachainOnceSaid : Prop := shachainOnceRow.holds Tryd.pinned (OpenSpec.ofChange shachainOnceSpec)

/-- ITS FALSE NEIGHBOUR: 'it returns false'. Refute it at one input. -/
def shachainOnceWrong : ChangeSpec := { name := "shachainOnce", fn := fun _ => fun
  | [d1, d2, d3] => { results := [.lit (.bool false)], args := [d1, d2, d3] }
  | _ => none }
def ShachainOnceWrongFalsely : Prop := shachainOnceRow.holds Tryd.pinned (OpenSpec.ofChange shachainOnceWrong)

/-- 'corsnedlaw10.ShachainPairs': WHATEVER THE INPUT: true; the input reads as it did. -/
def shachainPairsSpec : ChangeSpec := { name := "shachainPairs", fn := fun _ => fun
  | [d1, d2] => { results := [.lit (.bool true)], args := [d1, d2] }
  | _ => none }
def shachainPairsRow : OpenClaim := { program := "ytebffdgghkomjaadoor", sum := "08415bbbcfcd5229dd91973397b6654fd727e39c431acc4d8dc02c3a4cef4dd7", func := "corsned/corsnedlaw10.ShachainPairs", spec := "shachainPairs", unfollowed := true, recurses := true, named := ["math/bits.deBruijn32tab", "math/bits.deBruijn64tab"], apart := false, laid := [("math/bits.deBruijn32tab", laid_math_bits_deBruijn32tab), ("math/bits.deBruijn64tab", laid_math_bits_deBruijn64tab)] }
def ShachainPairsSaid : Prop := shachainPairsRow.holds Tryd.pinned (OpenSpec.ofChange shachainPairsSpec)

/-- ITS FALSE NEIGHBOUR: 'it returns false'. Refute it at one input. -/
def shachainPairsWrong : ChangeSpec := { name := "shachainPairs", fn := fun _ => fun
  | [d1, d2] => { results := [.lit (.bool false)], args := [d1, d2] }
  | _ => none }
def ShachainPairsWrongFalsely : Prop := shachainPairsRow.holds Tryd.pinned (OpenSpec.ofChange shachainPairsWrong)

/- THE SECOND FORM. 'bulk': how many values and letters a reading holds, each counted each time it is reached (what is shared counts as often as it is met; a slice's spare places count too). A statement '..UptoSaid' is the law's where the arguments, and the package variables that the reading takes, are together of bulk at most 1048576: NARROWER than '..Said'. Prove '..Said' where nothing that the law and all that it calls make is longer than what came in: it says more and counts as full. Else prove '..UptoSaid'. A law counts once. -/
mutual
def uptoBulk {H : Type} : DataW H → Nat
  | .lit (.string bytes) => bytes.length + 1
  | .lit _ => 1
  | .nil => 1
  | .ptr d => uptoBulk d + 1
  | .slice elems spare => uptoBulkAll elems + uptoBulkAll spare + 1
  | .agg parts => uptoBulkAll parts + 1
  | .iface _ d => uptoBulk d + 1
  | .map entries => uptoBulkEntries entries + 1
  | .held _ => 1
def uptoBulkAll {H : Type} : List (DataW H) → Nat
  | [] => 0
  | d :: r => uptoBulk d + uptoBulkAll r
def uptoBulkEntries {H : Type} : List (Lit × DataW H) → Nat
  | [] => 0
  | x :: r => uptoBulkEntry x + uptoBulkEntries r
def uptoBulkEntry {H : Type} : Lit × DataW H → Nat
  | (.string bytes, d) => bytes.length + uptoBulk d + 1
  | (_, d) => uptoBulk d + 1
 end
def uptoSmall : (H : Type) → List (DataW H) → Bool := fun _ ds => decide (uptoBulkAll ds ≤ 1048576)
def OpenSpec.upto (s : _root_.Go.ChangeSpec) : _root_.Go.OpenSpec := { _root_.Go.OpenSpec.ofChange s with cond := some uptoSmall }

/-- 'corsnedlaw10.ShachainTells', WHERE WHAT IT READS IS OF BULK AT MOST 1048576: true; the input reads as it did. -/
def shachainTellsUptoRow : OpenClaim := { program := "ytebffdgghkomjaadoor", sum := "08415bbbcfcd5229dd91973397b6654fd727e39c431acc4d8dc02c3a4cef4dd7", func := "corsned/corsnedlaw10.ShachainTells", spec := "shachainTells", unfollowed := true, recurses := true, named := ["math/bits.deBruijn32tab", "math/bits.deBruijn64tab"], apart := false, laid := [("math/bits.deBruijn32tab", laid_math_bits_deBruijn32tab), ("math/bits.deBruijn64tab", laid_math_bits_deBruijn64tab)], narrowed := true }
def ShachainTellsUptoSaid : Prop := shachainTellsUptoRow.holds Tryd.pinned (OpenSpec.upto shachainTellsSpec)

/-- 'corsnedlaw10.ShachainKeeps', WHERE WHAT IT READS IS OF BULK AT MOST 1048576: true; the input reads as it did. -/
def shachainKeepsUptoRow : OpenClaim := { program := "ytebffdgghkomjaadoor", sum := "08415bbbcfcd5229dd91973397b6654fd727e39c431acc4d8dc02c3a4cef4dd7", func := "corsned/corsnedlaw10.ShachainKeeps", spec := "shachainKeeps", unfollowed := true, recurses := true, named := ["math/bits.deBruijn32tab", "math/bits.deBruijn64tab"], apart := false, laid := [("math/bits.deBruijn32tab", laid_math_bits_deBruijn32tab), ("math/bits.deBruijn64tab", laid_math_bits_deBruijn64tab)], narrowed := true }
def ShachainKeepsUptoSaid : Prop := shachainKeepsUptoRow.holds Tryd.pinned (OpenSpec.upto shachainKeepsSpec)

/-- 'corsnedlaw10.ShachainTwo', WHERE WHAT IT READS IS OF BULK AT MOST 1048576: true; the input reads as it did. -/
def shachainTwoUptoRow : OpenClaim := { program := "ytebffdgghkomjaadoor", sum := "08415bbbcfcd5229dd91973397b6654fd727e39c431acc4d8dc02c3a4cef4dd7", func := "corsned/corsnedlaw10.ShachainTwo", spec := "shachainTwo", unfollowed := true, recurses := true, named := ["math/bits.deBruijn32tab", "math/bits.deBruijn64tab"], apart := false, laid := [("math/bits.deBruijn32tab", laid_math_bits_deBruijn32tab), ("math/bits.deBruijn64tab", laid_math_bits_deBruijn64tab)], narrowed := true }
def ShachainTwoUptoSaid : Prop := shachainTwoUptoRow.holds Tryd.pinned (OpenSpec.upto shachainTwoSpec)

/-- 'corsnedlaw10.ShachainOnce', WHERE WHAT IT READS IS OF BULK AT MOST 1048576: true; the input reads as it did. -/
def shachainOnceUptoRow : OpenClaim := { program := "ytebffdgghkomjaadoor", sum := "08415bbbcfcd5229dd91973397b6654fd727e39c431acc4d8dc02c3a4cef4dd7", func := "corsned/corsnedlaw10.ShachainOnce", spec := "shachainOnce", unfollowed := true, recurses := true, named := ["math/bits.deBruijn32tab", "math/bits.deBruijn64tab"], apart := false, laid := [("math/bits.deBruijn32tab", laid_math_bits_deBruijn32tab), ("math/bits.deBruijn64tab", laid_math_bits_deBruijn64tab)], narrowed := true }
def ShachainOnceUptoSaid : Prop := shachainOnceUptoRow.holds Tryd.pinned (OpenSpec.upto shachainOnceSpec)

/-- 'corsnedlaw10.ShachainPairs', WHERE WHAT IT READS IS OF BULK AT MOST 1048576: true; the input reads as it did. -/
def shachainPairsUptoRow : OpenClaim := { program := "ytebffdgghkomjaadoor", sum := "08415bbbcfcd5229dd91973397b6654fd727e39c431acc4d8dc02c3a4cef4dd7", func := "corsned/corsnedlaw10.ShachainPairs", spec := "shachainPairs", unfollowed := true, recurses := true, named := ["math/bits.deBruijn32tab", "math/bits.deBruijn64tab"], apart := false, laid := [("math/bits.deBruijn32tab", laid_math_bits_deBruijn32tab), ("math/bits.deBruijn64tab", laid_math_bits_deBruijn64tab)], narrowed := true }
def ShachainPairsUptoSaid : Prop := shachainPairsUptoRow.holds Tryd.pinned (OpenSpec.upto shachainPairsSpec)

end Rows
end Go.Proofs.YtebffdgghkomjaaDoor
