/- Contracts of math/bits: Mul64, and Rem64 by a divisor whose leading zeros are known: over this seat's translation. -/
import Derived.Test.YtebffdgghkomjaaDoorChecked
import Derived.WalkKit
import Derived.RegionTactic
import Derived.Deep.DeepCutAuto
import Derived.Deep.CutBlock
import Derived.Deep.QuietTactic
import Derived.BigQuiet
import Derived.ChangeAlike
import Derived.Lib.Hide
import Derived.Outline
import Derived.Lib.Mul64
import Derived.Laws.Bits64b
import Derived.Test.YtebffdgghkomjaaDoorDv
namespace Go.Proofs.YtebffdgghkomjaaDoor
open Go.RowKit Go.Lib
set_option linter.unusedVariables false

namespace Mul64
theorem fin (N y K u d1 d0 Q Z u2 Y : Nat) (hy : 0 < y) (hK : 0 < K) (hY : Y = y * K) (hN : (u * 4294967296 + d1) * 4294967296 + d0 = N * K) (hQ : Q = (u * 4294967296 + d1) / Y) (hu2 : u2 = (u * 4294967296 + d1) % Y) (hZ : Z = (u2 * 4294967296 + d0) / Y) :
  Q * 4294967296 + Z = N / y ∧ Z * (y * K) + N % y * K = u2 * 4294967296 + d0 := by
 have hYp : 0 < Y := by rw [hY]; exact Nat.mul_pos hy hK
 have e1 := Nat.div_add_mod' (u * 4294967296 + d1) Y
 rw [← hQ, ← hu2] at e1
 have e2 := Nat.div_add_mod' (u2 * 4294967296 + d0) Y
 rw [← hZ] at e2
 have hlt := Nat.mod_lt (u2 * 4294967296 + d0) hYp
 obtain ⟨r, hr⟩ : ∃ r, r = (u2 * 4294967296 + d0) % Y := ⟨_, rfl⟩
 rw [← hr] at e2 hlt
 have e3 : (Q * 4294967296 + Z) * Y + r = N * K := by
  rw [← hN, ← e1, Nat.add_mul, Nat.add_assoc, e2, Nat.add_mul, Nat.mul_right_comm, Nat.add_assoc]
 have e4 : N * K / Y = N / y := by rw [hY, Nat.mul_div_mul_right _ _ hK]
 have e5 : N * K % Y = N % y * K := by rw [hY, Nat.mul_mod_mul_right]
 have e6 : N * K / Y = Q * 4294967296 + Z := by
  rw [← e3, Nat.add_comm, Nat.add_mul_div_right _ _ hYp, Nat.div_eq_of_lt hlt, Nat.zero_add]
 have e7 : N * K % Y = r := by
  rw [← e3, Nat.add_comm, Nat.add_mul_mod_self_right, Nat.mod_eq_of_lt hlt]
 refine ⟨by rw [← e6, e4], ?_⟩
 rw [← e5, e7, ← hY, e2]
theorem top_eq (Q Z q : Nat) (h : Q * 4294967296 + Z = q) (hq : q < 18446744073709551616) : IntKind.u64.wrap (IntKind.u64.wrap ((Q : Int) * 4294967296) + (Z : Int)) = (q : Int) := by
 simp only [IntKind.wrap_u64]
 omega
end Mul64