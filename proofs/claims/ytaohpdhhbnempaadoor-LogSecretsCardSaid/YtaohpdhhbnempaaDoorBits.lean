/- Contracts of math/bits: Mul64, and Rem64 by a divisor whose leading zeros are known: over this seat's translation. -/
import Derived.Test.YtaohpdhhbnempaaDoorChecked
import Derived.WalkKit
import Derived.RegionTactic
import Derived.Deep.DeepCutAuto
import Derived.Deep.CutBlock
import Derived.Deep.QuietTactic
import Derived.BigQuiet
import Derived.ChangeAlike
import Derived.Lib.Hide
import Derived.Outline
import Derived.Lib.Mul64
import Derived.Laws.Bits64b
import Derived.Test.YtaohpdhhbnempaaDoorDv
namespace Go.Proofs.YtaohpdhhbnempaaDoor
open Go.RowKit Go.Lib
set_option linter.unusedVariables false

namespace Mul64
theorem maskN (a : Nat) (ha : a < 18446744073709551616) : bits .and .u64 (a : Int) 4294967295 = ((a % 4294967296 : Nat) : Int) := by
 have h := bits_and_u64_nat a 4294967295 ha (by omega)
 have e : a &&& 4294967295 = a % 4294967296 := Nat.and_two_pow_sub_one_eq_mod a 32
 rw [e] at h
 exact h
theorem divN (a : Nat) : (a : Int) / 4294967296 = ((a / 4294967296 : Nat) : Int) := by omega
theorem mulN (a b : Nat) : (a : Int) * (b : Int) = ((a * b : Nat) : Int) := (Int.natCast_mul a b).symm
theorem addN (a b : Nat) : (a : Int) + (b : Int) = ((a + b : Nat) : Int) := (Int.natCast_add a b).symm
theorem wrapN (a : Nat) (ha : a < 18446744073709551616) : IntKind.u64.wrap (a : Int) = (a : Int) := by rw [IntKind.wrap_u64]; omega
theorem wrapM (a : Nat) : IntKind.u64.wrap (a : Int) = ((a % 18446744073709551616 : Nat) : Int) := by rw [IntKind.wrap_u64]; omega
theorem orN (i a b : Nat) (hb : b < 2 ^ i) (hm : 2 ^ i * a + b < 18446744073709551616) : bits .or .u64 ((a * 2 ^ i : Nat) : Int) (b : Int) = ((a * 2 ^ i + b : Nat) : Int) := by
 rw [bits_or_u64_nat _ _ (by rw [Nat.mul_comm]; omega) (by have : 2 ^ i * a + b < 18446744073709551616 := hm; omega), Nat.mul_comm a, Nat.two_pow_add_eq_or_of_lt hb]
theorem quo_eq (u y : Nat) (hu : u < 18446744073709551616) (hy : 0 < y) : IntKind.u64.wrap ((u : Int).tdiv (y : Int)) = ((u / y : Nat) : Int) := by
 rw [← Int.ofNat_tdiv, wrapN _ (Nat.lt_of_le_of_lt (Nat.div_le_self _ _) hu)]
theorem rem_eq (u y : Nat) (hu : u < 18446744073709551616) (hy : 0 < y) : IntKind.u64.wrap ((u : Int) - IntKind.u64.wrap (((u / y : Nat) : Int) * (y : Int))) = ((u % y : Nat) : Int) := by
 have h := Nat.div_add_mod' u y
 have hl := Nat.mod_lt u hy
 rw [mulN, wrapN _ (by omega)]
 generalize u / y * y = t at *
 generalize u % y = z at *
 rw [IntKind.wrap_u64]
 omega
theorem num_eq (hi lo u l8 d1 d0 K R : Nat) (hK : K * R = 18446744073709551616) (hR : 0 < R) (hu : u = hi * K + lo / R) (hl : l8 = lo * K % 18446744073709551616) (h1 : d1 = l8 / 4294967296) (h0 : d0 = l8 % 4294967296) :
  (u * 4294967296 + d1) * 4294967296 + d0 = (hi * 18446744073709551616 + lo) * K := by
 have e1 : d1 * 4294967296 + d0 = l8 := by rw [h1, h0]; exact Nat.div_add_mod' _ _
 have e2 : lo * K / 18446744073709551616 = lo / R := by
  have hK0 : 0 < K := Nat.pos_of_ne_zero (by rintro rfl; simp at hK)
  rw [← hK, Nat.mul_comm lo K, Nat.mul_div_mul_left _ _ hK0]
 have e3 := Nat.div_add_mod' (lo * K) 18446744073709551616
 rw [e2, ← hl] at e3
 have e4 : (hi * 18446744073709551616 + lo) * K = hi * K * 18446744073709551616 + lo * K := by rw [Nat.add_mul, Nat.mul_right_comm]
 rw [e4, ← e3, hu]
 generalize hi * K = a at *
 generalize lo / R = b at *
 subst e1
 rw [Nat.add_mul, Nat.add_mul, Nat.add_mul, Nat.mul_assoc, Nat.mul_assoc]
 simp only [Nat.add_assoc, Nat.reduceMul]
theorem rest_eq (u d Q y K r : Nat) (k : Int) (hk : k = (K : Int)) (h : Q * (y * K) + r = u * 4294967296 + d) (hr : r < 18446744073709551616) :
  IntKind.u64.wrap (IntKind.u64.wrap (IntKind.u64.wrap ((u : Int) * 4294967296) + (d : Int)) - IntKind.u64.wrap ((Q : Int) * ((y : Int) * k))) = (r : Int) := by
 rw [hk, ← Int.natCast_mul y K, ← Int.natCast_mul Q]
 generalize Q * (y * K) = t at *
 simp only [IntKind.wrap_u64]
 omega
theorem fin (N y K u d1 d0 Q Z u2 Y : Nat) (hy : 0 < y) (hK : 0 < K) (hY : Y = y * K) (hN : (u * 4294967296 + d1) * 4294967296 + d0 = N * K) (hQ : Q = (u * 4294967296 + d1) / Y) (hu2 : u2 = (u * 4294967296 + d1) % Y) (hZ : Z = (u2 * 4294967296 + d0) / Y) :
  Q * 4294967296 + Z = N / y ∧ Z * (y * K) + N % y * K = u2 * 4294967296 + d0 := by
 have hYp : 0 < Y := by rw [hY]; exact Nat.mul_pos hy hK
 have e1 := Nat.div_add_mod' (u * 4294967296 + d1) Y
 rw [← hQ, ← hu2] at e1
 have e2 := Nat.div_add_mod' (u2 * 4294967296 + d0) Y
 rw [← hZ] at e2
 have hlt := Nat.mod_lt (u2 * 4294967296 + d0) hYp
 obtain ⟨r, hr⟩ : ∃ r, r = (u2 * 4294967296 + d0) % Y := ⟨_, rfl⟩
 rw [← hr] at e2 hlt
 have e3 : (Q * 4294967296 + Z) * Y + r = N * K := by
  rw [← hN, ← e1, Nat.add_mul, Nat.add_assoc, e2, Nat.add_mul, Nat.mul_right_comm, Nat.add_assoc]
 have e4 : N * K / Y = N / y := by rw [hY, Nat.mul_div_mul_right _ _ hK]
 have e5 : N * K % Y = N % y * K := by rw [hY, Nat.mul_mod_mul_right]
 have e6 : N * K / Y = Q * 4294967296 + Z := by
  rw [← e3, Nat.add_comm, Nat.add_mul_div_right _ _ hYp, Nat.div_eq_of_lt hlt, Nat.zero_add]
 have e7 : N * K % Y = r := by
  rw [← e3, Nat.add_comm, Nat.add_mul_mod_self_right, Nat.mod_eq_of_lt hlt]
 refine ⟨by rw [← e6, e4], ?_⟩
 rw [← e5, e7, ← hY, e2]
theorem last_eq (x k : Int) (r K : Nat) (h : x = ((r * K : Nat) : Int)) (hk : k = (K : Int)) (hK : 0 < K) : x / k = (r : Int) := by
 rw [h, hk, ← Int.natCast_ediv, Nat.mul_div_cancel _ hK]
theorem top_eq (Q Z q : Nat) (h : Q * 4294967296 + Z = q) (hq : q < 18446744073709551616) : IntKind.u64.wrap (IntKind.u64.wrap ((Q : Int) * 4294967296) + (Z : Int)) = (q : Int) := by
 simp only [IntKind.wrap_u64]
 omega
end Mul64
theorem ret_two {k l : IntKind} {a b a' b' : Int} (h1 : a = a') (h2 : b = b') : Ending.returned (.tuple #[.int k a, .int l b]) = Ending.returned (.tuple #[.int k a', .int l b']) := by rw [h1, h2]
