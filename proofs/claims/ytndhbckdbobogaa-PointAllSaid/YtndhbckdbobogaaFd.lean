/- What package field computes, and the reference beside it: plain functions on naturals, and their laws. No program in sight. -/
import Derived.Test.YtndhbckdbobogaaNt
namespace Cfd
open Cnt
def fof (a : Nat) : Nat := a % 2305843009213688669
def fadd (a b : Nat) : Nat := (a + b) % 2305843009213688669
def fneg (a : Nat) : Nat := (2305843009213688669 - a % 2305843009213688669) % 2305843009213688669
def fsub (a b : Nat) : Nat := fadd a (fneg b)
def fmul (a b : Nat) : Nat := a * b % 2305843009213688669
def fpow (a n : Nat) : Nat := pw a n 2305843009213688669
def finv (a : Nat) : Nat := if a % 2305843009213688669 = 0 then 0 else fpow a 2305843009213688667
def fnz (a : Nat) : Bool := !(a % 2305843009213688669 == 0)
def fright (a : Nat) : Bool := decide (a < 2305843009213688669)
def fstep (n b : Nat) : Nat := (n * 256 + b) % 2305843009213688668
def ffold (l : List Nat) : Nat := l.foldl fstep 0
def ffrom (l : List Nat) : Nat := ffold l + 1
/-- The halves of a product of 128 bits. -/
def mh (a b : Nat) : Nat := a * b / 18446744073709551616
def ml (a b : Nat) : Nat := a * b % 18446744073709551616

theorem fof_lt (a : Nat) : fof a < 2305843009213688669 := Nat.mod_lt _ (by decide)
theorem fadd_lt (a b : Nat) : fadd a b < 2305843009213688669 := Nat.mod_lt _ (by decide)
theorem fneg_lt (a : Nat) : fneg a < 2305843009213688669 := Nat.mod_lt _ (by decide)
theorem fsub_lt (a b : Nat) : fsub a b < 2305843009213688669 := Nat.mod_lt _ (by decide)
theorem fmul_lt (a b : Nat) : fmul a b < 2305843009213688669 := Nat.mod_lt _ (by decide)
theorem fpow_lt (a n : Nat) : fpow a n < 2305843009213688669 := pw_lt _ _ (by decide)
theorem finv_lt (a : Nat) : finv a < 2305843009213688669 := by
  unfold finv; split
  · decide
  · exact fpow_lt _ _
theorem fstep_lt (n b : Nat) : fstep n b < 2305843009213688668 := Nat.mod_lt _ (by decide)
theorem foldl_lt (l : List Nat) : ∀ n, n < 2305843009213688668 → l.foldl fstep n < 2305843009213688668 := by
  induction l with
  | nil => intro n h; exact h
  | cons x t ih => intro n _; exact ih _ (fstep_lt _ _)
theorem ffold_lt (l : List Nat) : ffold l < 2305843009213688668 := foldl_lt l 0 (by decide)
theorem ffrom_lt (l : List Nat) : ffrom l < 2305843009213688669 := by have := ffold_lt l; unfold ffrom; omega
theorem ffrom_pos (l : List Nat) : 0 < ffrom l := by unfold ffrom; omega
theorem mh_lt (a b : Nat) (ha : a < 18446744073709551616) (hb : b < 18446744073709551616) : mh a b < 18446744073709551616 := by
  unfold mh
  rw [Nat.div_lt_iff_lt_mul (by decide)]
  exact Nat.mul_lt_mul'' ha hb
theorem ml_lt (a b : Nat) : ml a b < 18446744073709551616 := Nat.mod_lt _ (by decide)
theorem mhl (a b : Nat) : mh a b * 18446744073709551616 + ml a b = a * b := Nat.div_add_mod' _ _

theorem fof_mul (a b : Nat) : fmul (fof a) (fof b) = fmul a b := (Nat.mul_mod a b _).symm
theorem fof_add (a b : Nat) : fadd (fof a) (fof b) = fadd a b := (Nat.add_mod a b _).symm
theorem fof_pow (a n : Nat) : fpow (fof a) n = fpow a n := pw_mod _ _ _
theorem fof_self {a : Nat} (h : a < 2305843009213688669) : fof a = a := Nat.mod_eq_of_lt h

/-- A round of the power's loop. -/
theorem pow_round (o b n : Nat) (h : n % 2 = 1) : fmul (fmul o b) (fpow (fmul b b) (n / 2)) = fmul o (fpow b n) := by
  unfold fmul fpow
  rw [pw_sq, show 2 * (n / 2) = n - 1 from by omega]
  have e : n = (n - 1) + 1 := by omega
  rw [e, pw_succ', Nat.add_sub_cancel]
  rw [Nat.mul_mod (o * b % _), Nat.mod_mod, ← Nat.mul_mod, Nat.mul_assoc, Nat.mul_mod o, Nat.mul_mod o (b * _ % _), Nat.mod_mod]
theorem pow_round' (o b n : Nat) (h : ¬ n % 2 = 1) : fmul o (fpow (fmul b b) (n / 2)) = fmul o (fpow b n) := by
  unfold fmul fpow
  rw [pw_sq, show 2 * (n / 2) = n from by omega]
theorem pow_start (a n : Nat) : fmul 1 (fpow (fof a) n) = fpow a n := by
  rw [fof_pow]; unfold fmul; rw [Nat.one_mul]; exact Nat.mod_eq_of_lt (fpow_lt _ _)
theorem pow_end {o : Nat} (b : Nat) (h : o < 2305843009213688669) : fmul o (fpow b 0) = o := by
  unfold fmul fpow; rw [pw_zero _ _ (by decide), Nat.mul_one]; exact Nat.mod_eq_of_lt h
end Cfd
