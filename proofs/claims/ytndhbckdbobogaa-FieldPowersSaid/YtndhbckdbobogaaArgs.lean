/- How arguments are opened: integers as naturals, sums as lists of bytes, slices of integers. -/
import Derived.Test.YtndhbckdbobogaaFrom
import Derived.WalkKit
import Derived.ProofKit
import Derived.OpenShut
import Derived.ShutString
import Derived.ChangeOld
import Derived.Below
namespace Go.Proofs.Ytndhbckdbobogaa
open Go.ChangeShapes Go.WideShapes Go.ChangeAt Go.RowKit Ckp
set_option linter.unusedVariables false

theorem nat_u64 {a : Int} (h : (Lit.int .u64 a).wf = true) : ∃ n : Nat, n < 18446744073709551616 ∧ a = (n : Int) := by
  have hb := bounds_u64 h
  exact ⟨a.toNat, by omega, by omega⟩
theorem nat_u32 {a : Int} (h : (Lit.int .u32 a).wf = true) : ∃ n : Nat, n < 4294967296 ∧ a = (n : Int) := by
  have hb := bounds_u32 h
  exact ⟨a.toNat, by omega, by omega⟩
theorem nat_u8 {a : Int} (h : (Lit.int .u8 a).wf = true) : ∃ n : Nat, n < 256 ∧ a = (n : Int) := by
  have hb := bounds_u8 h
  exact ⟨a.toNat, by omega, by omega⟩
end Go.Proofs.Ytndhbckdbobogaa
