/- How arguments are opened: integers as naturals, sums as lists of bytes, slices of integers. -/
import Derived.Test.YtaohpdhhbnempaaFrom
import Derived.WalkKit
import Derived.ProofKit
import Derived.OpenShut
import Derived.ShutString
import Derived.ChangeOld
import Derived.Below
namespace Go.Proofs.Ytaohpdhhbnempaa
open Go.ChangeShapes Go.WideShapes Go.ChangeAt Go.RowKit Ckp
set_option linter.unusedVariables false
set_option maxRecDepth 8192

theorem nat_u64 {a : Int} (h : (Lit.int .u64 a).wf = true) : ∃ n : Nat, n < 18446744073709551616 ∧ a = (n : Int) := by
 have hb := bounds_u64 h
 exact ⟨a.toNat, by omega, by omega⟩
theorem nat_u8 {a : Int} (h : (Lit.int .u8 a).wf = true) : ∃ n : Nat, n < 256 ∧ a = (n : Int) := by
 have hb := bounds_u8 h
 exact ⟨a.toNat, by omega, by omega⟩
/-! A sum: 32 bytes by value. -/
def byteOf : Value → Nat | .int _ n => n.toNat | _ => 0
def IsRow (k : IntKind) (w : World) (a : Option Addr) (len cap : Nat) (zs : List Int) : Prop :=
 (a = none ∧ len = 0 ∧ cap = 0 ∧ zs = []) ∨
 ∃ x, a = some x ∧ len ≤ cap ∧ cap ≤ maxLen ∧ zs.length = cap ∧ (∀ i, i < zs.length → w.cell? (x.add i) = some (.int k (zs.getD i 0))) ∧ ∀ n ∈ zs, (Lit.int k n).wf = true
def natsOf (zs : List Int) (len : Nat) : List Nat := (zs.take len).map Int.toNat
end Go.Proofs.Ytaohpdhhbnempaa
