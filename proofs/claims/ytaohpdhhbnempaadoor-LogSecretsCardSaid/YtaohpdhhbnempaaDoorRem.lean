/- Contracts of math/bits.Rem64 by the three divisors of the program: Order, one less than it, and Modulus. -/
import Derived.Test.YtaohpdhhbnempaaDoorBits
namespace Go.Proofs.YtaohpdhhbnempaaDoor
open Go.RowKit Go.Lib
set_option linter.unusedVariables false

theorem ret_int {k : IntKind} {a b : Int} (h : a = b) : Ending.returned (.int k a) = .returned (.int k b) := by rw [h]
def dq (h lo y : Nat) : Nat := (h * 18446744073709551616 + lo) / y
def dr (h lo y : Nat) : Nat := (h * 18446744073709551616 + lo) % y
theorem remcast (m lo y N : Nat) (h : (m * 18446744073709551616 + lo) % y = N % y) : ((m : Int) * 18446744073709551616 + (lo:Int)) % (y:Int) = ((N % y : Nat) : Int) := by
 rw [← h, Int.natCast_emod, Int.natCast_add, Int.natCast_mul, Int.cast_ofNat_Int]
theorem tdivm (a b : Nat) : ((a : Int).tmod (b : Int)) = ((a % b : Nat) : Int) := by rw [Int.ofNat_tmod]

theorem remcong (hi lo y N : Nat) (h : hi * 18446744073709551616 + lo = N) : (hi % y * 18446744073709551616 + lo) % y = N % y := by
 rw [← h, Nat.add_mod, Nat.mul_mod, Nat.mod_mod, ← Nat.mul_mod, ← Nat.add_mod]

/-- The post of a call that only draws. -/
def RetQ (v : Value) (w : World) (e : Ending) (w' : World) : Prop := e = .returned v ∧ ∃ n, w' = w.drewN n
