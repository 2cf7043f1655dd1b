/- What package field computes, and the reference beside it: plain functions on naturals, and their laws. No program in sight. -/
import Derived.Test.YtaohpdhhbnempaaNt
namespace Cfd
open Cnt
set_option linter.unusedVariables false
def fof (a : Nat) : Nat := a % 2305843009213688669
def fadd (a b : Nat) : Nat := (a + b) % 2305843009213688669
def fneg (a : Nat) : Nat := (2305843009213688669 - a % 2305843009213688669) % 2305843009213688669
def fsub (a b : Nat) : Nat := fadd a (fneg b)
def fmul (a b : Nat) : Nat := a * b % 2305843009213688669
def fpow (a n : Nat) : Nat := pw a n 2305843009213688669
def finv (a : Nat) : Nat := if a % 2305843009213688669 = 0 then 0 else fpow a 2305843009213688667
def fnz (a : Nat) : Bool := !(a % 2305843009213688669 == 0)
def fright (a : Nat) : Bool := decide (a < 2305843009213688669)
def fstep (n b : Nat) : Nat := (n * 256 + b) % 2305843009213688668
def ffold (l : List Nat) : Nat := l.foldl fstep 0
def ffrom (l : List Nat) : Nat := ffold l + 1
def mh (a b : Nat) : Nat := a * b / 18446744073709551616
def ml (a b : Nat) : Nat := a * b % 18446744073709551616

theorem fof_lt (a : Nat) : fof a < 2305843009213688669 := Nat.mod_lt _ (by decide)
theorem fadd_lt (a b : Nat) : fadd a b < 2305843009213688669 := Nat.mod_lt _ (by decide)
theorem fsub_lt (a b : Nat) : fsub a b < 2305843009213688669 := Nat.mod_lt _ (by decide)
theorem fmul_lt (a b : Nat) : fmul a b < 2305843009213688669 := Nat.mod_lt _ (by decide)
theorem fpow_lt (a n : Nat) : fpow a n < 2305843009213688669 := pw_lt _ _ (by decide)
theorem fstep_lt (n b : Nat) : fstep n b < 2305843009213688668 := Nat.mod_lt _ (by decide)
theorem foldl_lt (l : List Nat) : ∀ n, n < 2305843009213688668 → l.foldl fstep n < 2305843009213688668 := by
 induction l with
 | nil => intro n h; exact h
 | cons x t ih => intro n _; exact ih _ (fstep_lt _ _)
theorem ffold_lt (l : List Nat) : ffold l < 2305843009213688668 := foldl_lt l 0 (by decide)
theorem ffrom_lt (l : List Nat) : ffrom l < 2305843009213688669 := by have := ffold_lt l; unfold ffrom; omega
theorem mh_lt (a b : Nat) (ha : a < 18446744073709551616) (hb : b < 18446744073709551616) : mh a b < 18446744073709551616 := by
 unfold mh
 rw [Nat.div_lt_iff_lt_mul (by decide)]
 exact Nat.mul_lt_mul'' ha hb
theorem ml_lt (a b : Nat) : ml a b < 18446744073709551616 := Nat.mod_lt _ (by decide)
theorem mhl (a b : Nat) : mh a b * 18446744073709551616 + ml a b = a * b := Nat.div_add_mod' _ _

theorem fof_self {a : Nat} (h : a < 2305843009213688669) : fof a = a := Nat.mod_eq_of_lt h

theorem r_assoc_mul (a b c : Nat) : fmul (fmul a b) c = fmul a (fmul b c) := by unfold fmul; rw [Nat.mod_mul_mod, Nat.mul_mod_mod, Nat.mul_assoc]
theorem r_comm_mul (a b : Nat) : fmul b a = fmul a b := by unfold fmul; rw [Nat.mul_comm]
theorem r_dist (a b c : Nat) : fmul a (fadd b c) = fadd (fmul a b) (fmul a c) := by unfold fmul fadd; rw [Nat.mul_mod_mod, Nat.mod_add_mod, Nat.add_mod_mod, Nat.mul_add]
@[irreducible] def fi (a : Nat) : Nat := fpow a 2305843009213688667
theorem fi_lt (a : Nat) : fi a < 2305843009213688669 := by unfold fi; exact fpow_lt _ _
theorem fi_mul {a : Nat} (h : ¬ a % 2305843009213688669 = 0) : fmul a (fi a) = 1 := by
 unfold fi fmul fpow
 rw [← Cnt.pw_succ']
 exact Cnt.fermat Cnt.prQ h
theorem fmul_cancel {a b c : Nat} (ha : ¬ a % 2305843009213688669 = 0) (h : fmul a b = fmul a c) (hb : b < 2305843009213688669) (hc : c < 2305843009213688669) : b = c := by
 have := Cnt.cancel Cnt.prQ ha h
 rwa [Nat.mod_eq_of_lt hb, Nat.mod_eq_of_lt hc] at this
structure Eu (a old now x y : Nat) : Prop where
 hx : fmul x a = fof old
 hy : fmul y a = fof now
 bx : x < 2305843009213688669
 bY : y < 2305843009213688669
 lt : now < old
 top : old ≤ 2305843009213688669
 pos : 0 < now
 cop : Nat.gcd old now = 1
theorem Eu.start (a : Nat) (h : ¬ a % 2305843009213688669 = 0) : Eu a 2305843009213688669 (fof a) 0 1 := by
 refine ⟨by unfold fmul fof; rw [Nat.zero_mul], by unfold fmul fof; rw [Nat.one_mul, Nat.mod_mod], by decide, by decide, fof_lt a, Nat.le_refl _, by unfold fof; omega, ?_⟩
 exact Cnt.prQ.cop fun hd => h (by have := Nat.mod_eq_zero_of_dvd hd; unfold fof at this; rwa [Nat.mod_mod] at this)
theorem fsub_add (x z : Nat) : fadd (fsub x z) z = fof x := by unfold fsub fadd fneg fof; omega
theorem fmul_add (x z a : Nat) : fmul (fadd x z) a = fadd (fmul x a) (fmul z a) := by
 rw [r_comm_mul a, r_dist, r_comm_mul, r_comm_mul z]
theorem Eu.step {a old now x y : Nat} (h : Eu a old now x y) (h1 : 1 < now) : Eu a now (old % now) y (fsub x (fmul (old / now) y)) := by
 have hlt : old % now < now := Nat.mod_lt _ h.pos
 refine ⟨h.hy, ?_, h.bY, fsub_lt _ _, hlt, by have := h.lt; have := h.top; omega, ?_, ?_⟩
 ·have e1 := fmul_add (fsub x (fmul (old / now) y)) (fmul (old / now) y) a
  rw [fsub_add, r_assoc_mul, h.hy] at e1
  have e2 : fmul (fof x) a = fof old := by rw [fof_self h.bx]; exact h.hx
  rw [e2] at e1
  have e3 : fof old = fadd (fof (old % now)) (fmul (old / now) (fof now)) := by
   have e4 := Nat.div_add_mod' old now
   unfold fadd fmul fof
   rw [Nat.mul_mod_mod, Nat.add_mod_mod, Nat.mod_add_mod, Nat.add_comm, e4]
  rw [e3] at e1
  have l1 := fof_lt (old % now)
  have l2 := fmul_lt (fsub x (fmul (old / now) y)) a
  have l3 := fmul_lt (old / now) (fof now)
  generalize fmul (old / now) (fof now) = t at *
  generalize fmul (fsub x (fmul (old / now) y)) a = u at *
  generalize fof (old % now) = v at *
  unfold fadd at e1
  omega
 ·rcases Nat.eq_zero_or_pos (old % now) with h0 | h0
  ·have hg := h.cop
   rw [Nat.gcd_comm, Nat.gcd_rec, h0, Nat.gcd_zero_left] at hg
   omega
  ·exact h0
 ·rw [Nat.gcd_comm, ← Nat.gcd_rec, Nat.gcd_comm]; exact h.cop
theorem Eu.fin {a old now x y : Nat} (h : Eu a old now x y) (h1 : now = 1) (ha : ¬ a % 2305843009213688669 = 0) : y = fi a := by
 have e := h.hy
 rw [h1, r_comm_mul] at e
 refine fmul_cancel ha ?_ h.bY (fi_lt a)
 rw [e, fi_mul ha]; rfl


@[irreducible] def fbit (F x j : Nat) : Nat := (F * 2 ^ (8 - j) + x / 2 ^ j) % 2305843009213688668
theorem ffold_snoc (l : List Nat) (k : Nat) (h : k < l.length) : ffold (l.take (k + 1)) = fstep (ffold (l.take k)) (l.getD k 0) := by
 unfold ffold
 rw [List.take_add_one, List.foldl_append, List.getD_eq_getElem?_getD, List.getElem?_eq_getElem h]
 rfl

end Cfd
