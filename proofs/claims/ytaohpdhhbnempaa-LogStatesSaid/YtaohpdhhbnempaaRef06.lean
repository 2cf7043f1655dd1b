/- Contracts of the reference of layer 6: it computes what Pd says. -/
import Derived.Test.YtaohpdhhbnempaaPoint2
namespace Go.Proofs.Ytaohpdhhbnempaa
open Go.RowKit Go.Lib Cfd Cpd Ckp
set_option linter.unusedVariables false

def padd' (a b : Nat) : Nat := (a + b) % 4611686018427377339
theorem padd'_lt (a b : Nat) : padd' a b < 4611686018427377339 := Nat.mod_lt _ (by decide)
theorem pdbl_odd (o x y : Nat) (h : y % 2 = 1) : padd' (padd' o x) (pt (padd' x x) (y / 2)) = padd' o (pt x y) := by
 have e : x * y = (x + x) * (y / 2) + x := by
  have e1 : y = 2 * (y / 2) + 1 := by omega
  generalize y / 2 = z at *
  subst e1
  rw [Nat.mul_add, Nat.mul_one, ← Nat.two_mul, ← Nat.mul_assoc, Nat.mul_comm x 2]
 unfold padd' pt
 rw [Nat.mod_add_mod, Nat.add_mod_mod, Nat.add_mod_mod, e, Nat.add_mod (o + x), Nat.mod_mul_mod, ← Nat.add_mod]
 congr 1; omega
theorem pdbl_even (o x y : Nat) (h : ¬ y % 2 = 1) : padd' o (pt (padd' x x) (y / 2)) = padd' o (pt x y) := by
 have e : x * y = (x + x) * (y / 2) := by
  have e1 : y = 2 * (y / 2) := by omega
  generalize y / 2 = z at *
  subst e1
  rw [← Nat.two_mul, ← Nat.mul_assoc, Nat.mul_comm x 2]
 unfold padd' pt
 rw [e, Nat.mod_mul_mod]
theorem padd'_zero {a : Nat} (h : a < 4611686018427377339) : padd' a 0 = a := by unfold padd'; rw [Nat.add_zero]; exact Nat.mod_eq_of_lt h
theorem pdbl_start (a b : Nat) : padd' 0 (pt a b) = pt a b := by
 unfold padd'; rw [Nat.zero_add]; exact Nat.mod_eq_of_lt (pt_lt _ _)

theorem padd_pall (l : List Nat) (x : Nat) : padd (pall l) x = pt (pall l) (ptaken x) := by unfold padd; rw [taken_of (right_all l)]