/-
  No cell of these rows narrows 'for every input' (looked for: loops, veiled, ifaces, maps, wideKeys, modest, calm, conditions, laid).
  DERIVED. THE GIVEN ROWS OF THIS SEAT. 10 by the template 'for every input the law returns true; each argument reads behind the call as it read before'; 0 by the template 'total and deterministic' (their statements: YtheihhjlkefhgaaTotals.lean).
  GIVEN WITH THE SEED: the statements are not yours to turn. If you find one false, say at which input.
  Laid BY PROGRAM, IN A SANDBOX (cutbox-rows.mjs): the forced cells as the released guide's own fill.sh prints them over the translation 3f71959c49a2a961… (all of the seat's roots in one cut). By AI agents, Wed Nov 11 2026. No macro, syntax, notation, axiom, sorry.
-/
import Derived.Test.YtheihhjlkefhgaaChecked
import GoSem.Claim
import GoSem.ClaimJoined
import GoSem.ClaimMapViews
import Derived.JoinedTies
import Derived.KernelRfl
namespace Go.Proofs.Ytheihhjlkefhgaa
/- THE CELL 'sum', in the pinned program and in every row, IS THE sha256 OF THE DUMP (.gsa) THAT YtheihhjlkefhgaaProg.lean LOADS. Nothing in Lean hashes anything: it is a label: what it is worth is what the hold of that sum in a sandbox is worth. -/
noncomputable def Try.pinned : Pinned := { name := "ytheihhjlkefhgaa", sum := "3f71959c49a2a961984c889e3a4a9eb37b54c9a56f9cb1f589e2b022b1b0bf3d", checked := Try.checked }
namespace Rows
def none {H : Type} : Left H := { results := [], args := [] }

/-- 'corsnedlaw30.PayTells': WHATEVER THE INPUT: true; the input reads as it did. -/
def payTellsSpec : ChangeSpec := { name := "payTells", fn := fun _ => fun
  | [d1, d2, d3, d4, d5] => { results := [.lit (.bool true)], args := [d1, d2, d3, d4, d5] }
  | _ => none }
def payTellsRow : OpenClaim := { program := "ytheihhjlkefhgaa", sum := "3f71959c49a2a961984c889e3a4a9eb37b54c9a56f9cb1f589e2b022b1b0bf3d", func := "corsned/corsnedlaw30.PayTells", spec := "payTells", named := ["math/bits.divideError", "math/bits.overflowError"], apart := false }
def PayTellsSaid : Prop := payTellsRow.holds Try.pinned (OpenSpec.ofChange payTellsSpec)

/-- ITS FALSE NEIGHBOUR: 'it returns false'. Refute it at one input. -/
def payTellsWrong : ChangeSpec := { name := "payTells", fn := fun _ => fun
  | [d1, d2, d3, d4, d5] => { results := [.lit (.bool false)], args := [d1, d2, d3, d4, d5] }
  | _ => none }
def PayTellsWrongFalsely : Prop := payTellsRow.holds Try.pinned (OpenSpec.ofChange payTellsWrong)

/-- 'corsnedlaw30.PayBack': WHATEVER THE INPUT: true; the input reads as it did. -/
def payBackSpec : ChangeSpec := { name := "payBack", fn := fun _ => fun
  | [d1, d2] => { results := [.lit (.bool true)], args := [d1, d2] }
  | _ => none }
def payBackRow : OpenClaim := { program := "ytheihhjlkefhgaa", sum := "3f71959c49a2a961984c889e3a4a9eb37b54c9a56f9cb1f589e2b022b1b0bf3d", func := "corsned/corsnedlaw30.PayBack", spec := "payBack", named := ["math/bits.divideError", "math/bits.overflowError"], apart := false }
def PayBackSaid : Prop := payBackRow.holds Try.pinned (OpenSpec.ofChange payBackSpec)

/-- ITS FALSE NEIGHBOUR: 'it returns false'. Refute it at one input. -/
def payBackWrong : ChangeSpec := { name := "payBack", fn := fun _ => fun
  | [d1, d2] => { results := [.lit (.bool false)], args := [d1, d2] }
  | _ => none }
def PayBackWrongFalsely : Prop := payBackRow.holds Try.pinned (OpenSpec.ofChange payBackWrong)

/-- 'corsnedlaw30.PayPlans': WHATEVER THE INPUT: true; the input reads as it did. -/
def payPlansSpec : ChangeSpec := { name := "payPlans", fn := fun _ => fun
  | [d1, d2, d3, d4] => { results := [.lit (.bool true)], args := [d1, d2, d3, d4] }
  | _ => none }
def payPlansRow : OpenClaim := { program := "ytheihhjlkefhgaa", sum := "3f71959c49a2a961984c889e3a4a9eb37b54c9a56f9cb1f589e2b022b1b0bf3d", func := "corsned/corsnedlaw30.PayPlans", spec := "payPlans", named := ["math/bits.divideError", "math/bits.overflowError"], apart := false }
def PayPlansSaid : Prop := payPlansRow.holds Try.pinned (OpenSpec.ofChange payPlansSpec)

/-- ITS FALSE NEIGHBOUR: 'it returns false'. Refute it at one input. -/
def payPlansWrong : ChangeSpec := { name := "payPlans", fn := fun _ => fun
  | [d1, d2, d3, d4] => { results := [.lit (.bool false)], args := [d1, d2, d3, d4] }
  | _ => none }
def PayPlansWrongFalsely : Prop := payPlansRow.holds Try.pinned (OpenSpec.ofChange payPlansWrong)

/-- 'corsnedlaw30.PayParts': WHATEVER THE INPUT: true; the input reads as it did. -/
def payPartsSpec : ChangeSpec := { name := "payParts", fn := fun _ => fun
  | [d1, d2, d3] => { results := [.lit (.bool true)], args := [d1, d2, d3] }
  | _ => none }
def payPartsRow : OpenClaim := { program := "ytheihhjlkefhgaa", sum := "3f71959c49a2a961984c889e3a4a9eb37b54c9a56f9cb1f589e2b022b1b0bf3d", func := "corsned/corsnedlaw30.PayParts", spec := "payParts", named := ["math/bits.divideError", "math/bits.overflowError"], apart := false }
def PayPartsSaid : Prop := payPartsRow.holds Try.pinned (OpenSpec.ofChange payPartsSpec)

/-- ITS FALSE NEIGHBOUR: 'it returns false'. Refute it at one input. -/
def payPartsWrong : ChangeSpec := { name := "payParts", fn := fun _ => fun
  | [d1, d2, d3] => { results := [.lit (.bool false)], args := [d1, d2, d3] }
  | _ => none }
def PayPartsWrongFalsely : Prop := payPartsRow.holds Try.pinned (OpenSpec.ofChange payPartsWrong)

/-- 'corsnedlaw11.KeysTells': WHATEVER THE INPUT: true; the input reads as it did. -/
def keysTellsSpec : ChangeSpec := { name := "keysTells", fn := fun _ => fun
  | [d1, d2, d3, d4] => { results := [.lit (.bool true)], args := [d1, d2, d3, d4] }
  | _ => none }
def keysTellsRow : OpenClaim := { program := "ytheihhjlkefhgaa", sum := "3f71959c49a2a961984c889e3a4a9eb37b54c9a56f9cb1f589e2b022b1b0bf3d", func := "corsned/corsnedlaw11.KeysTells", spec := "keysTells", named := ["math/bits.divideError", "math/bits.overflowError"], apart := false }
def KeysTellsSaid : Prop := keysTellsRow.holds Try.pinned (OpenSpec.ofChange keysTellsSpec)

/-- ITS FALSE NEIGHBOUR: 'it returns false'. Refute it at one input. -/
def keysTellsWrong : ChangeSpec := { name := "keysTells", fn := fun _ => fun
  | [d1, d2, d3, d4] => { results := [.lit (.bool false)], args := [d1, d2, d3, d4] }
  | _ => none }
def KeysTellsWrongFalsely : Prop := keysTellsRow.holds Try.pinned (OpenSpec.ofChange keysTellsWrong)

/-- 'corsnedlaw11.KeysMeet': WHATEVER THE INPUT: true; the input reads as it did. -/
def keysMeetSpec : ChangeSpec := { name := "keysMeet", fn := fun _ => fun
  | [d1, d2, d3] => { results := [.lit (.bool true)], args := [d1, d2, d3] }
  | _ => none }
def keysMeetRow : OpenClaim := { program := "ytheihhjlkefhgaa", sum := "3f71959c49a2a961984c889e3a4a9eb37b54c9a56f9cb1f589e2b022b1b0bf3d", func := "corsned/corsnedlaw11.KeysMeet", spec := "keysMeet", named := ["math/bits.divideError", "math/bits.overflowError"], apart := false }
def KeysMeetSaid : Prop := keysMeetRow.holds Try.pinned (OpenSpec.ofChange keysMeetSpec)

/-- ITS FALSE NEIGHBOUR: 'it returns false'. Refute it at one input. -/
def keysMeetWrong : ChangeSpec := { name := "keysMeet", fn := fun _ => fun
  | [d1, d2, d3] => { results := [.lit (.bool false)], args := [d1, d2, d3] }
  | _ => none }
def KeysMeetWrongFalsely : Prop := keysMeetRow.holds Try.pinned (OpenSpec.ofChange keysMeetWrong)

/-- 'corsnedlaw11.KeysKit': WHATEVER THE INPUT: true; the input reads as it did. -/
def keysKitSpec : ChangeSpec := { name := "keysKit", fn := fun _ => fun
  | [d1, d2, d3] => { results := [.lit (.bool true)], args := [d1, d2, d3] }
  | _ => none }
def keysKitRow : OpenClaim := { program := "ytheihhjlkefhgaa", sum := "3f71959c49a2a961984c889e3a4a9eb37b54c9a56f9cb1f589e2b022b1b0bf3d", func := "corsned/corsnedlaw11.KeysKit", spec := "keysKit", named := ["math/bits.divideError", "math/bits.overflowError"], apart := false }
def KeysKitSaid : Prop := keysKitRow.holds Try.pinned (OpenSpec.ofChange keysKitSpec)

/-- ITS FALSE NEIGHBOUR: 'it returns false'. Refute it at one input. -/
def keysKitWrong : ChangeSpec := { name := "keysKit", fn := fun _ => fun
  | [d1, d2, d3] => { results := [.lit (.bool false)], args := [d1, d2, d3] }
  | _ => none }
def KeysKitWrongFalsely : Prop := keysKitRow.holds Try.pinned (OpenSpec.ofChange keysKitWrong)

/-- 'corsnedlaw11.KeysSign': WHATEVER THE INPUT: true; the input reads as it did. -/
def keysSignSpec : ChangeSpec := { name := "keysSign", fn := fun _ => fun
  | [d1, d2, d3] => { results := [.lit (.bool true)], args := [d1, d2, d3] }
  | _ => none }
def keysSignRow : OpenClaim := { program := "ytheihhjlkefhgaa", sum := "3f71959c49a2a961984c889e3a4a9eb37b54c9a56f9cb1f589e2b022b1b0bf3d", func := "corsned/corsnedlaw11.KeysSign", spec := "keysSign", named := ["math/bits.divideError", "math/bits.overflowError"], apart := false }
def KeysSignSaid : Prop := keysSignRow.holds Try.pinned (OpenSpec.ofChange keysSignSpec)

/-- ITS FALSE NEIGHBOUR: 'it returns false'. Refute it at one input. -/
def keysSignWrong : ChangeSpec := { name := "keysSign", fn := fun _ => fun
  | [d1, d2, d3] => { results := [.lit (.bool false)], args := [d1, d2, d3] }
  | _ => none }
def KeysSignWrongFalsely : Prop := keysSignRow.holds Try.pinned (OpenSpec.ofChange keysSignWrong)

/-- 'corsnedlaw30.PaySigned': WHATEVER THE INPUT: true; the input reads as it did. -/
def paySignedSpec : ChangeSpec := { name := "paySigned", fn := fun _ => fun
  | [d1, d2, d3, d4] => { results := [.lit (.bool true)], args := [d1, d2, d3, d4] }
  | _ => none }
def paySignedRow : OpenClaim := { program := "ytheihhjlkefhgaa", sum := "3f71959c49a2a961984c889e3a4a9eb37b54c9a56f9cb1f589e2b022b1b0bf3d", func := "corsned/corsnedlaw30.PaySigned", spec := "paySigned", named := ["math/bits.divideError", "math/bits.overflowError"], apart := false }
def PaySignedSaid : Prop := paySignedRow.holds Try.pinned (OpenSpec.ofChange paySignedSpec)

/-- ITS FALSE NEIGHBOUR: 'it returns false'. Refute it at one input. -/
def paySignedWrong : ChangeSpec := { name := "paySigned", fn := fun _ => fun
  | [d1, d2, d3, d4] => { results := [.lit (.bool false)], args := [d1, d2, d3, d4] }
  | _ => none }
def PaySignedWrongFalsely : Prop := paySignedRow.holds Try.pinned (OpenSpec.ofChange paySignedWrong)

/-- 'corsnedlaw30.PayLocked': WHATEVER THE INPUT: true; the input reads as it did. -/
def payLockedSpec : ChangeSpec := { name := "payLocked", fn := fun _ => fun
  | [d1, d2, d3, d4] => { results := [.lit (.bool true)], args := [d1, d2, d3, d4] }
  | _ => none }
def payLockedRow : OpenClaim := { program := "ytheihhjlkefhgaa", sum := "3f71959c49a2a961984c889e3a4a9eb37b54c9a56f9cb1f589e2b022b1b0bf3d", func := "corsned/corsnedlaw30.PayLocked", spec := "payLocked", unfollowed := true, recurses := true, named := ["math/bits.divideError", "math/bits.overflowError"], apart := false }
def PayLockedSaid : Prop := payLockedRow.holds Try.pinned (OpenSpec.ofChange payLockedSpec)

/-- ITS FALSE NEIGHBOUR: 'it returns false'. Refute it at one input. -/
def payLockedWrong : ChangeSpec := { name := "payLocked", fn := fun _ => fun
  | [d1, d2, d3, d4] => { results := [.lit (.bool false)], args := [d1, d2, d3, d4] }
  | _ => none }
def PayLockedWrongFalsely : Prop := payLockedRow.holds Try.pinned (OpenSpec.ofChange payLockedWrong)

/- THE SECOND FORM. 'bulk': how many values and letters a reading holds, each counted each time it is reached (what is shared counts as often as it is met; a slice's spare places count too). A statement '..UptoSaid' is the law's where the arguments, and the package variables that the reading takes, are together of bulk at most 1048576: NARROWER than '..Said'. Prove '..Said' where nothing that the law and all that it calls make is longer than what came in: it says more and counts as full. Else prove '..UptoSaid'. A law counts once. -/
mutual
def uptoBulk {H : Type} : DataW H → Nat
  | .lit (.string bytes) => bytes.length + 1
  | .lit _ => 1
  | .nil => 1
  | .ptr d => uptoBulk d + 1
  | .slice elems spare => uptoBulkAll elems + uptoBulkAll spare + 1
  | .agg parts => uptoBulkAll parts + 1
  | .iface _ d => uptoBulk d + 1
  | .map entries => uptoBulkEntries entries + 1
  | .held _ => 1
def uptoBulkAll {H : Type} : List (DataW H) → Nat
  | [] => 0
  | d :: r => uptoBulk d + uptoBulkAll r
def uptoBulkEntries {H : Type} : List (Lit × DataW H) → Nat
  | [] => 0
  | x :: r => uptoBulkEntry x + uptoBulkEntries r
def uptoBulkEntry {H : Type} : Lit × DataW H → Nat
  | (.string bytes, d) => bytes.length + uptoBulk d + 1
  | (_, d) => uptoBulk d + 1
 end
def uptoSmall : (H : Type) → List (DataW H) → Bool := fun _ ds => decide (uptoBulkAll ds ≤ 1048576)
def OpenSpec.upto (s : _root_.Go.ChangeSpec) : _root_.Go.OpenSpec := { _root_.Go.OpenSpec.ofChange s with cond := some uptoSmall }

/-- 'corsnedlaw30.PayTells', WHERE WHAT IT READS IS OF BULK AT MOST 1048576: true; the input reads as it did. -/
def payTellsUptoRow : OpenClaim := { program := "ytheihhjlkefhgaa", sum := "3f71959c49a2a961984c889e3a4a9eb37b54c9a56f9cb1f589e2b022b1b0bf3d", func := "corsned/corsnedlaw30.PayTells", spec := "payTells", named := ["math/bits.divideError", "math/bits.overflowError"], apart := false, narrowed := true }
def PayTellsUptoSaid : Prop := payTellsUptoRow.holds Try.pinned (OpenSpec.upto payTellsSpec)

/-- 'corsnedlaw30.PayBack', WHERE WHAT IT READS IS OF BULK AT MOST 1048576: true; the input reads as it did. -/
def payBackUptoRow : OpenClaim := { program := "ytheihhjlkefhgaa", sum := "3f71959c49a2a961984c889e3a4a9eb37b54c9a56f9cb1f589e2b022b1b0bf3d", func := "corsned/corsnedlaw30.PayBack", spec := "payBack", named := ["math/bits.divideError", "math/bits.overflowError"], apart := false, narrowed := true }
def PayBackUptoSaid : Prop := payBackUptoRow.holds Try.pinned (OpenSpec.upto payBackSpec)

/-- 'corsnedlaw30.PayPlans', WHERE WHAT IT READS IS OF BULK AT MOST 1048576: true; the input reads as it did. -/
def payPlansUptoRow : OpenClaim := { program := "ytheihhjlkefhgaa", sum := "3f71959c49a2a961984c889e3a4a9eb37b54c9a56f9cb1f589e2b022b1b0bf3d", func := "corsned/corsnedlaw30.PayPlans", spec := "payPlans", named := ["math/bits.divideError", "math/bits.overflowError"], apart := false, narrowed := true }
def PayPlansUptoSaid : Prop := payPlansUptoRow.holds Try.pinned (OpenSpec.upto payPlansSpec)

/-- 'corsnedlaw30.PayParts', WHERE WHAT IT READS IS OF BULK AT MOST 1048576: true; the input reads as it did. -/
def payPartsUptoRow : OpenClaim := { program := "ytheihhjlkefhgaa", sum := "3f71959c49a2a961984c889e3a4a9eb37b54c9a56f9cb1f589e2b022b1b0bf3d", func := "corsned/corsnedlaw30.PayParts", spec := "payParts", named := ["math/bits.divideError", "math/bits.overflowError"], apart := false, narrowed := true }
def PayPartsUptoSaid : Prop := payPartsUptoRow.holds Try.pinned (OpenSpec.upto payPartsSpec)

/-- 'corsnedlaw11.KeysTells', WHERE WHAT IT READS IS OF BULK AT MOST 1048576: true; the input reads as it did. -/
def keysTellsUptoRow : OpenClaim := { program := "ytheihhjlkefhgaa", sum := "3f71959c49a2a961984c889e3a4a9eb37b54c9a56f9cb1f589e2b022b1b0bf3d", func := "corsned/corsnedlaw11.KeysTells", spec := "keysTells", named := ["math/bits.divideError", "math/bits.overflowError"], apart := false, narrowed := true }
def KeysTellsUptoSaid : Prop := keysTellsUptoRow.holds Try.pinned (OpenSpec.upto keysTellsSpec)

/-- 'corsnedlaw11.KeysMeet', WHERE WHAT IT READS IS OF BULK AT MOST 1048576: true; the input reads as it did. -/
def keysMeetUptoRow : OpenClaim := { program := "ytheihhjlkefhgaa", sum := "3f71959c49a2a961984c889e3a4a9eb37b54c9a56f9cb1f589e2b022b1b0bf3d", func := "corsned/corsnedlaw11.KeysMeet", spec := "keysMeet", named := ["math/bits.divideError", "math/bits.overflowError"], apart := false, narrowed := true }
def KeysMeetUptoSaid : Prop := keysMeetUptoRow.holds Try.pinned (OpenSpec.upto keysMeetSpec)

/-- 'corsnedlaw11.KeysKit', WHERE WHAT IT READS IS OF BULK AT MOST 1048576: true; the input reads as it did. -/
def keysKitUptoRow : OpenClaim := { program := "ytheihhjlkefhgaa", sum := "3f71959c49a2a961984c889e3a4a9eb37b54c9a56f9cb1f589e2b022b1b0bf3d", func := "corsned/corsnedlaw11.KeysKit", spec := "keysKit", named := ["math/bits.divideError", "math/bits.overflowError"], apart := false, narrowed := true }
def KeysKitUptoSaid : Prop := keysKitUptoRow.holds Try.pinned (OpenSpec.upto keysKitSpec)

/-- 'corsnedlaw11.KeysSign', WHERE WHAT IT READS IS OF BULK AT MOST 1048576: true; the input reads as it did. -/
def keysSignUptoRow : OpenClaim := { program := "ytheihhjlkefhgaa", sum := "3f71959c49a2a961984c889e3a4a9eb37b54c9a56f9cb1f589e2b022b1b0bf3d", func := "corsned/corsnedlaw11.KeysSign", spec := "keysSign", named := ["math/bits.divideError", "math/bits.overflowError"], apart := false, narrowed := true }
def KeysSignUptoSaid : Prop := keysSignUptoRow.holds Try.pinned (OpenSpec.upto keysSignSpec)

/-- 'corsnedlaw30.PaySigned', WHERE WHAT IT READS IS OF BULK AT MOST 1048576: true; the input reads as it did. -/
def paySignedUptoRow : OpenClaim := { program := "ytheihhjlkefhgaa", sum := "3f71959c49a2a961984c889e3a4a9eb37b54c9a56f9cb1f589e2b022b1b0bf3d", func := "corsned/corsnedlaw30.PaySigned", spec := "paySigned", named := ["math/bits.divideError", "math/bits.overflowError"], apart := false, narrowed := true }
def PaySignedUptoSaid : Prop := paySignedUptoRow.holds Try.pinned (OpenSpec.upto paySignedSpec)

/-- 'corsnedlaw30.PayLocked', WHERE WHAT IT READS IS OF BULK AT MOST 1048576: true; the input reads as it did. -/
def payLockedUptoRow : OpenClaim := { program := "ytheihhjlkefhgaa", sum := "3f71959c49a2a961984c889e3a4a9eb37b54c9a56f9cb1f589e2b022b1b0bf3d", func := "corsned/corsnedlaw30.PayLocked", spec := "payLocked", unfollowed := true, recurses := true, named := ["math/bits.divideError", "math/bits.overflowError"], apart := false, narrowed := true }
def PayLockedUptoSaid : Prop := payLockedUptoRow.holds Try.pinned (OpenSpec.upto payLockedSpec)

end Rows
end Go.Proofs.Ytheihhjlkefhgaa
