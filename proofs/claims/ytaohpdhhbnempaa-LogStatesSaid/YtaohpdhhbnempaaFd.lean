/- What package field computes, and the reference beside it: plain functions on naturals, and their laws. No program in sight. -/
import Derived.Test.YtaohpdhhbnempaaNt
namespace Cfd
open Cnt
set_option linter.unusedVariables false
def fof (a : Nat) : Nat := a % 2305843009213688669
def fadd (a b : Nat) : Nat := (a + b) % 2305843009213688669
def fneg (a : Nat) : Nat := (2305843009213688669 - a % 2305843009213688669) % 2305843009213688669
def fsub (a b : Nat) : Nat := fadd a (fneg b)
def fmul (a b : Nat) : Nat := a * b % 2305843009213688669
def fpow (a n : Nat) : Nat := pw a n 2305843009213688669
def finv (a : Nat) : Nat := if a % 2305843009213688669 = 0 then 0 else fpow a 2305843009213688667
def fnz (a : Nat) : Bool := !(a % 2305843009213688669 == 0)
def fright (a : Nat) : Bool := decide (a < 2305843009213688669)
def fstep (n b : Nat) : Nat := (n * 256 + b) % 2305843009213688668
def ffold (l : List Nat) : Nat := l.foldl fstep 0
def ffrom (l : List Nat) : Nat := ffold l + 1
/-- The halves of a product of 128 bits. -/
def mh (a b : Nat) : Nat := a * b / 18446744073709551616
def ml (a b : Nat) : Nat := a * b % 18446744073709551616

theorem fof_lt (a : Nat) : fof a < 2305843009213688669 := Nat.mod_lt _ (by decide)
theorem fadd_lt (a b : Nat) : fadd a b < 2305843009213688669 := Nat.mod_lt _ (by decide)
theorem fneg_lt (a : Nat) : fneg a < 2305843009213688669 := Nat.mod_lt _ (by decide)
theorem fsub_lt (a b : Nat) : fsub a b < 2305843009213688669 := Nat.mod_lt _ (by decide)
theorem fmul_lt (a b : Nat) : fmul a b < 2305843009213688669 := Nat.mod_lt _ (by decide)
theorem fpow_lt (a n : Nat) : fpow a n < 2305843009213688669 := pw_lt _ _ (by decide)
theorem finv_lt (a : Nat) : finv a < 2305843009213688669 := by
 unfold finv; split
 ·decide
 ·exact fpow_lt _ _
theorem fstep_lt (n b : Nat) : fstep n b < 2305843009213688668 := Nat.mod_lt _ (by decide)
theorem foldl_lt (l : List Nat) : ∀ n, n < 2305843009213688668 → l.foldl fstep n < 2305843009213688668 := by
 induction l with
 | nil => intro n h; exact h
 | cons x t ih => intro n _; exact ih _ (fstep_lt _ _)
theorem ffold_lt (l : List Nat) : ffold l < 2305843009213688668 := foldl_lt l 0 (by decide)
theorem ffrom_lt (l : List Nat) : ffrom l < 2305843009213688669 := by have := ffold_lt l; unfold ffrom; omega
theorem ffrom_pos (l : List Nat) : 0 < ffrom l := by unfold ffrom; omega
theorem mh_lt (a b : Nat) (ha : a < 18446744073709551616) (hb : b < 18446744073709551616) : mh a b < 18446744073709551616 := by
 unfold mh
 rw [Nat.div_lt_iff_lt_mul (by decide)]
 exact Nat.mul_lt_mul'' ha hb
theorem ml_lt (a b : Nat) : ml a b < 18446744073709551616 := Nat.mod_lt _ (by decide)
theorem mhl (a b : Nat) : mh a b * 18446744073709551616 + ml a b = a * b := Nat.div_add_mod' _ _

theorem fof_mul (a b : Nat) : fmul (fof a) (fof b) = fmul a b := (Nat.mul_mod a b _).symm
theorem fof_add (a b : Nat) : fadd (fof a) (fof b) = fadd a b := (Nat.add_mod a b _).symm
theorem fof_pow (a n : Nat) : fpow (fof a) n = fpow a n := pw_mod _ _ _
theorem fof_self {a : Nat} (h : a < 2305843009213688669) : fof a = a := Nat.mod_eq_of_lt h

/-- A round of the power's loop. -/
theorem pow_round (o b n : Nat) (h : n % 2 = 1) : fmul (fmul o b) (fpow (fmul b b) (n / 2)) = fmul o (fpow b n) := by
 unfold fmul fpow
 rw [pw_sq, show 2 * (n / 2) = n - 1 from by omega]
 have e : n = (n - 1) + 1 := by omega
 rw [e, pw_succ', Nat.add_sub_cancel]
 rw [Nat.mul_mod (o * b % _), Nat.mod_mod, ← Nat.mul_mod, Nat.mul_assoc, Nat.mul_mod o, Nat.mul_mod o (b * _ % _), Nat.mod_mod]
theorem pow_round' (o b n : Nat) (h : ¬ n % 2 = 1) : fmul o (fpow (fmul b b) (n / 2)) = fmul o (fpow b n) := by
 unfold fmul fpow
 rw [pw_sq, show 2 * (n / 2) = n from by omega]
theorem pow_start (a n : Nat) : fmul 1 (fpow (fof a) n) = fpow a n := by
 rw [fof_pow]; unfold fmul; rw [Nat.one_mul]; exact Nat.mod_eq_of_lt (fpow_lt _ _)
theorem pow_end {o : Nat} (b : Nat) (h : o < 2305843009213688669) : fmul o (fpow b 0) = o := by
 unfold fmul fpow; rw [pw_zero _ _ (by decide), Nat.mul_one]; exact Nat.mod_eq_of_lt h
theorem r_assoc_add (a b c : Nat) : fadd (fadd a b) c = fadd a (fadd b c) := by unfold fadd; rw [Nat.mod_add_mod, Nat.add_mod_mod, Nat.add_assoc]
theorem r_assoc_mul (a b c : Nat) : fmul (fmul a b) c = fmul a (fmul b c) := by unfold fmul; rw [Nat.mod_mul_mod, Nat.mul_mod_mod, Nat.mul_assoc]
theorem r_comm_add (a b : Nat) : fadd b a = fadd a b := by unfold fadd; rw [Nat.add_comm]
theorem r_comm_mul (a b : Nat) : fmul b a = fmul a b := by unfold fmul; rw [Nat.mul_comm]
theorem r_dist (a b c : Nat) : fmul a (fadd b c) = fadd (fmul a b) (fmul a c) := by unfold fmul fadd; rw [Nat.mul_mod_mod, Nat.mod_add_mod, Nat.add_mod_mod, Nat.mul_add]
theorem r_sub (a b : Nat) : fsub (fadd a b) b = fadd a 0 := by unfold fsub fadd fneg; omega
theorem r_neg (a : Nat) : fadd a (fneg a) = 0 := by unfold fadd fneg; omega
theorem r_negneg (a : Nat) : fneg (fneg a) = fmul a 1 := by unfold fneg fmul; omega
theorem r_right {x : Nat} (h : x < 2305843009213688669) : fright x = true := by unfold fright; simpa using h


/-- What is turned. -/
@[irreducible] def fi (a : Nat) : Nat := fpow a 2305843009213688667
theorem fi_lt (a : Nat) : fi a < 2305843009213688669 := by unfold fi; exact fpow_lt _ _
theorem fi_mul {a : Nat} (h : ¬ a % 2305843009213688669 = 0) : fmul a (fi a) = 1 := by
 unfold fi fmul fpow
 rw [← Cnt.pw_succ']
 exact Cnt.fermat Cnt.prQ h
theorem fi_pow {a : Nat} (h : ¬ a % 2305843009213688669 = 0) : fpow a 2305843009213688668 = 1 := Cnt.fermat Cnt.prQ h
theorem fmul_zero {a b : Nat} (ha : ¬ a % 2305843009213688669 = 0) (hb : ¬ b % 2305843009213688669 = 0) : ¬ fmul a b = 0 := by
 intro h
 rcases Cnt.prQ.euclid (Nat.dvd_of_mod_eq_zero h) with h1 | h1
 ·exact ha (Nat.mod_eq_zero_of_dvd h1)
 ·exact hb (Nat.mod_eq_zero_of_dvd h1)
theorem fi_nz {a : Nat} (h : ¬ a % 2305843009213688669 = 0) : ¬ fi a % 2305843009213688669 = 0 := by
 intro h0
 have h1 := fi_mul h
 unfold fmul at h1
 rw [Nat.mul_mod, h0, Nat.mul_zero] at h1
 exact absurd h1 (by decide)
theorem fmul_cancel {a b c : Nat} (ha : ¬ a % 2305843009213688669 = 0) (h : fmul a b = fmul a c) (hb : b < 2305843009213688669) (hc : c < 2305843009213688669) : b = c := by
 have := Cnt.cancel Cnt.prQ ha h
 rwa [Nat.mod_eq_of_lt hb, Nat.mod_eq_of_lt hc] at this
theorem fi_fi {a : Nat} (h : ¬ a % 2305843009213688669 = 0) : fi (fi a) = fmul a 1 := by
 refine fmul_cancel (fi_nz h) ?_ (fi_lt _) (fmul_lt _ _)
 rw [fi_mul (fi_nz h), ← r_assoc_mul, r_comm_mul a, fi_mul h]
 rfl
theorem fi_prod {a b : Nat} (ha : ¬ a % 2305843009213688669 = 0) (hb : ¬ b % 2305843009213688669 = 0) : fi (fmul a b) = fmul (fi a) (fi b) := by
 unfold fi fmul fpow
 rw [Cnt.pw_prod]

theorem fmul_mod (a b : Nat) : fmul a b % 2305843009213688669 = fmul a b := Nat.mod_eq_of_lt (fmul_lt _ _)

theorem p_add (a x y : Nat) : fmul (fpow a x) (fpow a y) = fpow a (x + y) := Cnt.pw_add _ _ _ _
theorem p_mul (a x y : Nat) : fpow (fpow a x) y = fpow a (x * y) := Cnt.pw_mul _ _ _ _
theorem p_prod (a b x : Nat) : fpow (fmul a b) x = fmul (fpow a x) (fpow b x) := Cnt.pw_prod _ _ _ _

/-- Doubling. -/
theorem dbl_odd (o x y : Nat) (h : y % 2 = 1) : fadd (fadd o x) (fmul (fadd x x) (y / 2)) = fadd o (fmul x y) := by
 have e : x * y = (x + x) * (y / 2) + x := by
  have e1 : y = 2 * (y / 2) + 1 := by omega
  generalize y / 2 = z at *
  subst e1
  rw [Nat.mul_add, Nat.mul_one, ← Nat.two_mul, ← Nat.mul_assoc, Nat.mul_comm x 2]
 unfold fadd fmul
 rw [Nat.mod_add_mod, Nat.add_mod_mod, Nat.add_mod_mod, e, Nat.add_mod (o + x), Nat.mod_mul_mod, ← Nat.add_mod]
 congr 1; omega
theorem dbl_even (o x y : Nat) (h : ¬ y % 2 = 1) : fadd o (fmul (fadd x x) (y / 2)) = fadd o (fmul x y) := by
 have e : x * y = (x + x) * (y / 2) := by
  have e1 : y = 2 * (y / 2) := by omega
  generalize y / 2 = z at *
  subst e1
  rw [← Nat.two_mul, ← Nat.mul_assoc, Nat.mul_comm x 2]
 unfold fadd fmul
 rw [e, Nat.mod_mul_mod]
theorem fadd_zero {a : Nat} (h : a < 2305843009213688669) : fadd a 0 = a := by unfold fadd; rw [Nat.add_zero]; exact Nat.mod_eq_of_lt h
theorem dbl_start (a b : Nat) : fadd 0 (fmul (fof a) (fof b)) = fmul a b := by
 rw [fof_mul]; unfold fadd; rw [Nat.zero_add]; exact Nat.mod_eq_of_lt (fmul_lt _ _)


/-- The power's loop from the top bit down: what stands in 'out' behind so many bits. -/
theorem top_odd (a n : Nat) (h : n % 2 = 1) : fmul (fmul (fpow a (n / 2)) (fpow a (n / 2))) a = fpow a n := by
 unfold fmul fpow
 rw [Cnt.pw_add, ← Cnt.pw_succ, show n / 2 + n / 2 + 1 = n from by omega]
theorem top_even (a n : Nat) (h : ¬ n % 2 = 1) : fmul (fpow a (n / 2)) (fpow a (n / 2)) = fpow a n := by
 unfold fmul fpow
 rw [Cnt.pw_add, show n / 2 + n / 2 = n from by omega]


theorem half_at (n i : Nat) : n / 2 ^ (i + 1) = n / 2 ^ i / 2 := by rw [Nat.pow_succ, Nat.div_div_eq_div_mul]


/-- Euclid's steps: at each, now is y times a, old is x times a, modulo the order. -/
structure Eu (a old now x y : Nat) : Prop where
 hx : fmul x a = fof old
 hy : fmul y a = fof now
 bx : x < 2305843009213688669
 bY : y < 2305843009213688669
 lt : now < old
 top : old ≤ 2305843009213688669
 pos : 0 < now
 cop : Nat.gcd old now = 1
theorem Eu.start (a : Nat) (h : ¬ a % 2305843009213688669 = 0) : Eu a 2305843009213688669 (fof a) 0 1 := by
 refine ⟨by unfold fmul fof; rw [Nat.zero_mul], by unfold fmul fof; rw [Nat.one_mul, Nat.mod_mod], by decide, by decide, fof_lt a, Nat.le_refl _, by unfold fof; omega, ?_⟩
 exact Cnt.prQ.cop fun hd => h (by have := Nat.mod_eq_zero_of_dvd hd; unfold fof at this; rwa [Nat.mod_mod] at this)
theorem fsub_add (x z : Nat) : fadd (fsub x z) z = fof x := by unfold fsub fadd fneg fof; omega
theorem fmul_add (x z a : Nat) : fmul (fadd x z) a = fadd (fmul x a) (fmul z a) := by
 rw [r_comm_mul a, r_dist, r_comm_mul, r_comm_mul z]
theorem Eu.step {a old now x y : Nat} (h : Eu a old now x y) (h1 : 1 < now) : Eu a now (old % now) y (fsub x (fmul (old / now) y)) := by
 have hlt : old % now < now := Nat.mod_lt _ h.pos
 refine ⟨h.hy, ?_, h.bY, fsub_lt _ _, hlt, by have := h.lt; have := h.top; omega, ?_, ?_⟩
 ·have e1 := fmul_add (fsub x (fmul (old / now) y)) (fmul (old / now) y) a
  rw [fsub_add, r_assoc_mul, h.hy] at e1
  have e2 : fmul (fof x) a = fof old := by rw [fof_self h.bx]; exact h.hx
  rw [e2] at e1
  have e3 : fof old = fadd (fof (old % now)) (fmul (old / now) (fof now)) := by
   have e4 := Nat.div_add_mod' old now
   unfold fadd fmul fof
   rw [Nat.mul_mod_mod, Nat.add_mod_mod, Nat.mod_add_mod, Nat.add_comm, e4]
  rw [e3] at e1
  have l1 := fof_lt (old % now)
  have l2 := fmul_lt (fsub x (fmul (old / now) y)) a
  have l3 := fmul_lt (old / now) (fof now)
  generalize fmul (old / now) (fof now) = t at *
  generalize fmul (fsub x (fmul (old / now) y)) a = u at *
  generalize fof (old % now) = v at *
  unfold fadd at e1
  omega
 ·rcases Nat.eq_zero_or_pos (old % now) with h0 | h0
  ·have hg := h.cop
   rw [Nat.gcd_comm, Nat.gcd_rec, h0, Nat.gcd_zero_left] at hg
   omega
  ·exact h0
 ·rw [Nat.gcd_comm, ← Nat.gcd_rec, Nat.gcd_comm]; exact h.cop
theorem Eu.fin {a old now x y : Nat} (h : Eu a old now x y) (h1 : now = 1) (ha : ¬ a % 2305843009213688669 = 0) : y = fi a := by
 have e := h.hy
 rw [h1, r_comm_mul] at e
 refine fmul_cancel ha ?_ h.bY (fi_lt a)
 rw [e, fi_mul ha]; rfl


/-- What stands behind the first 8 - j bits of a byte. -/
@[irreducible] def fbit (F x j : Nat) : Nat := (F * 2 ^ (8 - j) + x / 2 ^ j) % 2305843009213688668
theorem fbit_lt (F x j : Nat) : fbit F x j < 2305843009213688668 := by unfold fbit; exact Nat.mod_lt _ (by decide)
theorem fbit_8 (F x : Nat) (hF : F < 2305843009213688668) (hx : x < 256) : fbit F x 8 = F := by
 unfold fbit
 rw [Nat.div_eq_of_lt (by simpa using hx)]
 simp
 exact hF
theorem fbit_0 (F x : Nat) : fbit F x 0 = fstep F x := by unfold fbit fstep; simp
theorem fbit_step (F x i : Nat) (hi : i < 8) : (2 * fbit F x (i + 1) + x / 2 ^ i % 2) % 2305843009213688668 = fbit F x i := by
 unfold fbit
 rw [half_at]
 have e : 2 ^ (8 - i) = 2 * 2 ^ (8 - (i + 1)) := by rw [← Nat.pow_succ']; congr 1; omega
 rw [e, Nat.mul_left_comm]
 generalize F * 2 ^ (8 - (i + 1)) = t
 generalize x / 2 ^ i = y
 omega


theorem ffold_snoc (l : List Nat) (k : Nat) (h : k < l.length) : ffold (l.take (k + 1)) = fstep (ffold (l.take k)) (l.getD k 0) := by
 unfold ffold
 rw [List.take_add_one, List.foldl_append, List.getD_eq_getElem?_getD, List.getElem?_eq_getElem h]
 rfl

end Cfd
