/-
  No cell of these rows narrows 'for every input' (looked for: loops, veiled, ifaces, maps, wideKeys, modest, calm, conditions, laid).
  DERIVED. THE GIVEN ROWS OF THIS SEAT. 5 by the template 'for every input the law returns true; each argument reads behind the call as it read before'; 0 by the template 'total and deterministic' (their statements: YtebffdgghkomjaaTotals.lean).
  GIVEN WITH THE SEED: the statements are not yours to turn. If you find one false, say at which input.
  Laid BY PROGRAM, IN A SANDBOX (cutbox-rows.mjs): the forced cells as the released guide's own fill.sh prints them over the translation 0f15b3dc76183ccd… (all of the seat's roots in one cut). By AI agents, Wed Nov 11 2026. No macro, syntax, notation, axiom, sorry.
-/
import Derived.Test.YtebffdgghkomjaaChecked
import GoSem.Claim
import GoSem.ClaimJoined
import GoSem.ClaimMapViews
import Derived.JoinedTies
import Derived.KernelRfl
namespace Go.Proofs.Ytebffdgghkomjaa
/- THE CELL 'sum', in the pinned program and in every row, IS THE sha256 OF THE DUMP (.gsa) THAT YtebffdgghkomjaaProg.lean LOADS. Nothing in Lean hashes anything: it is a label: what it is worth is what the hold of that sum in a sandbox is worth. -/
noncomputable def Try.pinned : Pinned := { name := "ytebffdgghkomjaa", sum := "0f15b3dc76183ccd3c143f6c6ef261fc5e9326b62728e8f0ef9077cc2455181e", checked := Try.checked }
namespace Rows
def none {H : Type} : Left H := { results := [], args := [] }

/-- 'corsnedlaw07.SignTells': WHATEVER THE INPUT: true; the input reads as it did. -/
def signTellsSpec : ChangeSpec := { name := "signTells", fn := fun _ => fun
  | [d1, d2, d3, d4, d5, d6, d7] => { results := [.lit (.bool true)], args := [d1, d2, d3, d4, d5, d6, d7] }
  | _ => none }
def signTellsRow : OpenClaim := { program := "ytebffdgghkomjaa", sum := "0f15b3dc76183ccd3c143f6c6ef261fc5e9326b62728e8f0ef9077cc2455181e", func := "corsned/corsnedlaw07.SignTells", spec := "signTells", named := ["math/bits.divideError", "math/bits.overflowError"], apart := false }
def SignTellsSaid : Prop := signTellsRow.holds Try.pinned (OpenSpec.ofChange signTellsSpec)

/-- ITS FALSE NEIGHBOUR: 'it returns false'. Refute it at one input. -/
def signTellsWrong : ChangeSpec := { name := "signTells", fn := fun _ => fun
  | [d1, d2, d3, d4, d5, d6, d7] => { results := [.lit (.bool false)], args := [d1, d2, d3, d4, d5, d6, d7] }
  | _ => none }
def SignTellsWrongFalsely : Prop := signTellsRow.holds Try.pinned (OpenSpec.ofChange signTellsWrong)

/-- 'corsnedlaw07.SignHolds': WHATEVER THE INPUT: true; the input reads as it did. -/
def signHoldsSpec : ChangeSpec := { name := "signHolds", fn := fun _ => fun
  | [d1, d2] => { results := [.lit (.bool true)], args := [d1, d2] }
  | _ => none }
def signHoldsRow : OpenClaim := { program := "ytebffdgghkomjaa", sum := "0f15b3dc76183ccd3c143f6c6ef261fc5e9326b62728e8f0ef9077cc2455181e", func := "corsned/corsnedlaw07.SignHolds", spec := "signHolds", named := ["math/bits.divideError", "math/bits.overflowError"], apart := false }
def SignHoldsSaid : Prop := signHoldsRow.holds Try.pinned (OpenSpec.ofChange signHoldsSpec)

/-- ITS FALSE NEIGHBOUR: 'it returns false'. Refute it at one input. -/
def signHoldsWrong : ChangeSpec := { name := "signHolds", fn := fun _ => fun
  | [d1, d2] => { results := [.lit (.bool false)], args := [d1, d2] }
  | _ => none }
def SignHoldsWrongFalsely : Prop := signHoldsRow.holds Try.pinned (OpenSpec.ofChange signHoldsWrong)

/-- 'corsnedlaw07.SignAdapts': WHATEVER THE INPUT: true; the input reads as it did. -/
def signAdaptsSpec : ChangeSpec := { name := "signAdapts", fn := fun _ => fun
  | [d1, d2, d3, d4] => { results := [.lit (.bool true)], args := [d1, d2, d3, d4] }
  | _ => none }
def signAdaptsRow : OpenClaim := { program := "ytebffdgghkomjaa", sum := "0f15b3dc76183ccd3c143f6c6ef261fc5e9326b62728e8f0ef9077cc2455181e", func := "corsned/corsnedlaw07.SignAdapts", spec := "signAdapts", named := ["math/bits.divideError", "math/bits.overflowError"], apart := false }
def SignAdaptsSaid : Prop := signAdaptsRow.holds Try.pinned (OpenSpec.ofChange signAdaptsSpec)

/-- ITS FALSE NEIGHBOUR: 'it returns false'. Refute it at one input. -/
def signAdaptsWrong : ChangeSpec := { name := "signAdapts", fn := fun _ => fun
  | [d1, d2, d3, d4] => { results := [.lit (.bool false)], args := [d1, d2, d3, d4] }
  | _ => none }
def SignAdaptsWrongFalsely : Prop := signAdaptsRow.holds Try.pinned (OpenSpec.ofChange signAdaptsWrong)

/-- 'corsnedlaw07.SignOne': WHATEVER THE INPUT: true; the input reads as it did. -/
def signOneSpec : ChangeSpec := { name := "signOne", fn := fun _ => fun
  | [d1, d2, d3, d4, d5] => { results := [.lit (.bool true)], args := [d1, d2, d3, d4, d5] }
  | _ => none }
def signOneRow : OpenClaim := { program := "ytebffdgghkomjaa", sum := "0f15b3dc76183ccd3c143f6c6ef261fc5e9326b62728e8f0ef9077cc2455181e", func := "corsned/corsnedlaw07.SignOne", spec := "signOne", named := ["math/bits.divideError", "math/bits.overflowError"], apart := false }
def SignOneSaid : Prop := signOneRow.holds Try.pinned (OpenSpec.ofChange signOneSpec)

/-- ITS FALSE NEIGHBOUR: 'it returns false'. Refute it at one input. -/
def signOneWrong : ChangeSpec := { name := "signOne", fn := fun _ => fun
  | [d1, d2, d3, d4, d5] => { results := [.lit (.bool false)], args := [d1, d2, d3, d4, d5] }
  | _ => none }
def SignOneWrongFalsely : Prop := signOneRow.holds Try.pinned (OpenSpec.ofChange signOneWrong)

/-- 'corsnedlaw07.SignSwaps': WHATEVER THE INPUT: true; the input reads as it did. -/
def signSwapsSpec : ChangeSpec := { name := "signSwaps", fn := fun _ => fun
  | [d1, d2, d3, d4, d5] => { results := [.lit (.bool true)], args := [d1, d2, d3, d4, d5] }
  | _ => none }
def signSwapsRow : OpenClaim := { program := "ytebffdgghkomjaa", sum := "0f15b3dc76183ccd3c143f6c6ef261fc5e9326b62728e8f0ef9077cc2455181e", func := "corsned/corsnedlaw07.SignSwaps", spec := "signSwaps", named := ["math/bits.divideError", "math/bits.overflowError"], apart := false }
def SignSwapsSaid : Prop := signSwapsRow.holds Try.pinned (OpenSpec.ofChange signSwapsSpec)

/-- ITS FALSE NEIGHBOUR: 'it returns false'. Refute it at one input. -/
def signSwapsWrong : ChangeSpec := { name := "signSwaps", fn := fun _ => fun
  | [d1, d2, d3, d4, d5] => { results := [.lit (.bool false)], args := [d1, d2, d3, d4, d5] }
  | _ => none }
def SignSwapsWrongFalsely : Prop := signSwapsRow.holds Try.pinned (OpenSpec.ofChange signSwapsWrong)

/- THE SECOND FORM. 'bulk': how many values and letters a reading holds, each counted each time it is reached (what is shared counts as often as it is met; a slice's spare places count too). A statement '..UptoSaid' is the law's where the arguments, and the package variables that the reading takes, are together of bulk at most 1048576: NARROWER than '..Said'. Prove '..Said' where nothing that the law and all that it calls make is longer than what came in: it says more and counts as full. Else prove '..UptoSaid'. A law counts once. -/
mutual
def uptoBulk {H : Type} : DataW H → Nat
  | .lit (.string bytes) => bytes.length + 1
  | .lit _ => 1
  | .nil => 1
  | .ptr d => uptoBulk d + 1
  | .slice elems spare => uptoBulkAll elems + uptoBulkAll spare + 1
  | .agg parts => uptoBulkAll parts + 1
  | .iface _ d => uptoBulk d + 1
  | .map entries => uptoBulkEntries entries + 1
  | .held _ => 1
def uptoBulkAll {H : Type} : List (DataW H) → Nat
  | [] => 0
  | d :: r => uptoBulk d + uptoBulkAll r
def uptoBulkEntries {H : Type} : List (Lit × DataW H) → Nat
  | [] => 0
  | x :: r => uptoBulkEntry x + uptoBulkEntries r
def uptoBulkEntry {H : Type} : Lit × DataW H → Nat
  | (.string bytes, d) => bytes.length + uptoBulk d + 1
  | (_, d) => uptoBulk d + 1
 end
def uptoSmall : (H : Type) → List (DataW H) → Bool := fun _ ds => decide (uptoBulkAll ds ≤ 1048576)
def OpenSpec.upto (s : _root_.Go.ChangeSpec) : _root_.Go.OpenSpec := { _root_.Go.OpenSpec.ofChange s with cond := some uptoSmall }

/-- 'corsnedlaw07.SignTells', WHERE WHAT IT READS IS OF BULK AT MOST 1048576: true; the input reads as it did. -/
def signTellsUptoRow : OpenClaim := { program := "ytebffdgghkomjaa", sum := "0f15b3dc76183ccd3c143f6c6ef261fc5e9326b62728e8f0ef9077cc2455181e", func := "corsned/corsnedlaw07.SignTells", spec := "signTells", named := ["math/bits.divideError", "math/bits.overflowError"], apart := false, narrowed := true }
def SignTellsUptoSaid : Prop := signTellsUptoRow.holds Try.pinned (OpenSpec.upto signTellsSpec)

/-- 'corsnedlaw07.SignHolds', WHERE WHAT IT READS IS OF BULK AT MOST 1048576: true; the input reads as it did. -/
def signHoldsUptoRow : OpenClaim := { program := "ytebffdgghkomjaa", sum := "0f15b3dc76183ccd3c143f6c6ef261fc5e9326b62728e8f0ef9077cc2455181e", func := "corsned/corsnedlaw07.SignHolds", spec := "signHolds", named := ["math/bits.divideError", "math/bits.overflowError"], apart := false, narrowed := true }
def SignHoldsUptoSaid : Prop := signHoldsUptoRow.holds Try.pinned (OpenSpec.upto signHoldsSpec)

/-- 'corsnedlaw07.SignAdapts', WHERE WHAT IT READS IS OF BULK AT MOST 1048576: true; the input reads as it did. -/
def signAdaptsUptoRow : OpenClaim := { program := "ytebffdgghkomjaa", sum := "0f15b3dc76183ccd3c143f6c6ef261fc5e9326b62728e8f0ef9077cc2455181e", func := "corsned/corsnedlaw07.SignAdapts", spec := "signAdapts", named := ["math/bits.divideError", "math/bits.overflowError"], apart := false, narrowed := true }
def SignAdaptsUptoSaid : Prop := signAdaptsUptoRow.holds Try.pinned (OpenSpec.upto signAdaptsSpec)

/-- 'corsnedlaw07.SignOne', WHERE WHAT IT READS IS OF BULK AT MOST 1048576: true; the input reads as it did. -/
def signOneUptoRow : OpenClaim := { program := "ytebffdgghkomjaa", sum := "0f15b3dc76183ccd3c143f6c6ef261fc5e9326b62728e8f0ef9077cc2455181e", func := "corsned/corsnedlaw07.SignOne", spec := "signOne", named := ["math/bits.divideError", "math/bits.overflowError"], apart := false, narrowed := true }
def SignOneUptoSaid : Prop := signOneUptoRow.holds Try.pinned (OpenSpec.upto signOneSpec)

/-- 'corsnedlaw07.SignSwaps', WHERE WHAT IT READS IS OF BULK AT MOST 1048576: true; the input reads as it did. -/
def signSwapsUptoRow : OpenClaim := { program := "ytebffdgghkomjaa", sum := "0f15b3dc76183ccd3c143f6c6ef261fc5e9326b62728e8f0ef9077cc2455181e", func := "corsned/corsnedlaw07.SignSwaps", spec := "signSwaps", named := ["math/bits.divideError", "math/bits.overflowError"], apart := false, narrowed := true }
def SignSwapsUptoSaid : Prop := signSwapsUptoRow.holds Try.pinned (OpenSpec.upto signSwapsSpec)

end Rows
end Go.Proofs.Ytebffdgghkomjaa
