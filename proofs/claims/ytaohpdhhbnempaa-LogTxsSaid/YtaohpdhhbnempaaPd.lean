/- What package point computes: plain functions on naturals, and the group's laws. No program in sight. -/
import Derived.Test.YtaohpdhhbnempaaFd
namespace Cpd
open Cnt Cfd
def pt (a b : Nat) : Nat := a * b % 4611686018427377339
def ppow (a n : Nat) : Nat := pw a n 4611686018427377339
def pright (a : Nat) : Bool := decide (0 < a) && decide (a < 4611686018427377339) && decide (ppow a 2305843009213688669 = 1)
def ptaken (a : Nat) : Nat := if pright a = true then a else 1
def padd (a b : Nat) : Nat := pt (ptaken a) (ptaken b)
def pall (l : List Nat) : Nat := l.foldl (fun o a => pt o (ptaken a)) 1
def pneg (a : Nat) : Nat := ppow (ptaken a) 2305843009213688668
def psub (a b : Nat) : Nat := padd a (pneg b)
def pscale (a k : Nat) : Nat := ppow (ptaken a) (fof k)
def pbase (k : Nat) : Nat := pscale 4 k

theorem zero_pw (n m : Nat) (hn : 0 < n) : pw 0 n m = 0 % m := by rw [pw_eq, Nat.zero_pow hn]
theorem pt_lt (a b : Nat) : pt a b < 4611686018427377339 := Nat.mod_lt _ (by decide)
theorem ppow_lt (a n : Nat) : ppow a n < 4611686018427377339 := pw_lt _ _ (by decide)
theorem pt_comm (a b : Nat) : pt a b = pt b a := by unfold pt; rw [Nat.mul_comm]
theorem pt_assoc (a b c : Nat) : pt (pt a b) c = pt a (pt b c) := by unfold pt; rw [Nat.mod_mul_mod, Nat.mul_mod_mod, Nat.mul_assoc]
theorem pt_one {a : Nat} (h : a < 4611686018427377339) : pt a 1 = a := by unfold pt; rw [Nat.mul_one]; exact Nat.mod_eq_of_lt h
theorem one_pt {a : Nat} (h : a < 4611686018427377339) : pt 1 a = a := by rw [pt_comm]; exact pt_one h
theorem ppow_prod (a b n : Nat) : ppow (pt a b) n = pt (ppow a n) (ppow b n) := pw_prod _ _ _ _
theorem ppow_add (a x y : Nat) : pt (ppow a x) (ppow a y) = ppow a (x + y) := pw_add _ _ _ _
theorem ppow_mul (a x y : Nat) : ppow (ppow a x) y = ppow a (x * y) := pw_mul _ _ _ _
theorem ppow_zero (a : Nat) : ppow a 0 = 1 := pw_zero _ _ (by decide)
theorem ppow_one {a : Nat} (h : a < 4611686018427377339) : ppow a 1 = a := by unfold ppow; rw [pw_one]; exact Nat.mod_eq_of_lt h
theorem one_ppow (n : Nat) : ppow 1 n = 1 := one_pw _ _ (by decide)

theorem right_iff (a : Nat) : pright a = true ↔ 0 < a ∧ a < 4611686018427377339 ∧ ppow a 2305843009213688669 = 1 := by
 unfold pright; simp [Bool.and_eq_true, decide_eq_true_eq, and_assoc]
theorem right_lt {a : Nat} (h : pright a = true) : a < 4611686018427377339 := ((right_iff a).mp h).2.1
theorem right_pow {a : Nat} (h : pright a = true) : ppow a 2305843009213688669 = 1 := ((right_iff a).mp h).2.2
theorem right_mk {a : Nat} (h1 : a < 4611686018427377339) (h2 : ppow a 2305843009213688669 = 1) : pright a = true := by
 refine (right_iff a).mpr ⟨?_, h1, h2⟩
 rcases Nat.eq_zero_or_pos a with h0 | h0
 ·subst h0
  unfold ppow at h2
  rw [zero_pw _ _ (by decide)] at h2
  exact absurd h2 (by decide)
 ·exact h0
theorem right_one : pright 1 = true := right_mk (by decide) (one_ppow _)
theorem right_pt {a b : Nat} (ha : pright a = true) (hb : pright b = true) : pright (pt a b) = true :=
 right_mk (pt_lt _ _) (by rw [ppow_prod, right_pow ha, right_pow hb]; rfl)
theorem right_ppow {a : Nat} (n : Nat) (ha : pright a = true) : pright (ppow a n) = true :=
 right_mk (ppow_lt _ _) (by rw [ppow_mul, Nat.mul_comm, ← ppow_mul, right_pow ha, one_ppow])
theorem right_taken (a : Nat) : pright (ptaken a) = true := by
 unfold ptaken; split
 ·assumption
 ·exact right_one
theorem taken_of {a : Nat} (h : pright a = true) : ptaken a = a := by unfold ptaken; rw [if_pos h]
theorem taken_lt (a : Nat) : ptaken a < 4611686018427377339 := right_lt (right_taken a)
theorem taken_taken (a : Nat) : ptaken (ptaken a) = ptaken a := taken_of (right_taken a)
theorem right_add (a b : Nat) : pright (padd a b) = true := right_pt (right_taken a) (right_taken b)
theorem right_neg (a : Nat) : pright (pneg a) = true := right_ppow _ (right_taken a)
theorem right_scale (a k : Nat) : pright (pscale a k) = true := right_ppow _ (right_taken a)
theorem right_base (k : Nat) : pright (pbase k) = true := right_scale _ _
theorem padd_lt (a b : Nat) : padd a b < 4611686018427377339 := pt_lt _ _
theorem pneg_lt (a : Nat) : pneg a < 4611686018427377339 := ppow_lt _ _
theorem pscale_lt (a k : Nat) : pscale a k < 4611686018427377339 := ppow_lt _ _
theorem pbase_lt (k : Nat) : pbase k < 4611686018427377339 := ppow_lt _ _

theorem ppow_mod {a : Nat} (h : pright a = true) (n : Nat) : ppow a (fof n) = ppow a n := by
 have e : n = 2305843009213688669 * (n / 2305843009213688669) + fof n := (Nat.div_add_mod _ _).symm
 have e2 : ppow a n = ppow a (2305843009213688669 * (n / 2305843009213688669) + fof n) := congrArg _ e
 rw [e2, ← ppow_add, ← ppow_mul, right_pow h, one_ppow, one_pt (ppow_lt _ _)]
theorem ppow_cong {a : Nat} (h : pright a = true) {m n : Nat} (e : fof m = fof n) : ppow a m = ppow a n := by
 rw [← ppow_mod h m, e, ppow_mod h]
theorem scale_eq (a k : Nat) : pscale a k = ppow (ptaken a) k := by unfold pscale; rw [ppow_mod (right_taken a)]
theorem add_comm (a b : Nat) : padd b a = padd a b := pt_comm _ _
theorem add_assoc (a b c : Nat) : padd (padd a b) c = padd a (padd b c) := by
 unfold padd
 rw [taken_of (right_pt (right_taken a) (right_taken b)), taken_of (right_pt (right_taken b) (right_taken c)), pt_assoc]
theorem taken_1 : ptaken 1 = 1 := taken_of right_one
theorem add_one (a : Nat) : padd a 1 = ptaken a := by unfold padd; rw [taken_1, pt_one (taken_lt a)]
theorem add_taken (a b : Nat) : padd a (ptaken b) = padd a b := by unfold padd; rw [taken_taken]
theorem add_neg (a : Nat) : padd a (pneg a) = 1 := by
 unfold padd
 rw [taken_of (right_neg a)]
 unfold pneg
 have h := ppow_add (ptaken a) 1 2305843009213688668
 rw [ppow_one (taken_lt a)] at h
 rw [h]
 exact right_pow (right_taken a)
theorem add_sub (a b : Nat) : psub (padd a b) b = ptaken a := by
 unfold psub
 rw [add_assoc, add_neg, add_one]
theorem scale_sum (a k l : Nat) : pscale a (fadd k l) = padd (pscale a k) (pscale a l) := by
 have h1 : padd (pscale a k) (pscale a l) = pt (pscale a k) (pscale a l) := by
  unfold padd; rw [taken_of (right_scale a k), taken_of (right_scale a l)]
 rw [h1, scale_eq, scale_eq, scale_eq, ppow_add]
 exact ppow_cong (right_taken a) (Nat.mod_mod _ _)
theorem scale_1 (a : Nat) : pscale a 1 = padd a 1 := by rw [scale_eq, add_one, ppow_one (taken_lt a)]
theorem fold_pt (l : List Nat) : ∀ s, s < 4611686018427377339 → l.foldl (fun o a => pt o (ptaken a)) s = pt s (pall l) := by
 induction l with
 | nil => intro s hs; show s = pt s 1; rw [pt_one hs]
 | cons a t ih =>
  intro s hs
  unfold pall
  rw [List.foldl_cons, List.foldl_cons, ih _ (pt_lt _ _), ih _ (pt_lt _ _), one_pt (taken_lt a), pt_assoc]
theorem pall_cons (a : Nat) (t : List Nat) : pall (a :: t) = pt (ptaken a) (pall t) := by
 unfold pall
 rw [List.foldl_cons, fold_pt t _ (pt_lt _ _), one_pt (taken_lt a)]
 rfl
theorem right_all (l : List Nat) : pright (pall l) = true := by
 induction l with
 | nil => exact right_one
 | cons a t ih => rw [pall_cons]; exact right_pt (right_taken a) ih
theorem pall_lt (l : List Nat) : pall l < 4611686018427377339 := right_lt (right_all l)
theorem pall_app (l m : List Nat) : pall (l ++ m) = padd (pall l) (pall m) := by
 have h1 : padd (pall l) (pall m) = pt (pall l) (pall m) := by unfold padd; rw [taken_of (right_all l), taken_of (right_all m)]
 rw [h1]
 show (l ++ m).foldl _ 1 = _
 rw [List.foldl_append]
 exact fold_pt m _ (pall_lt l)
theorem pall_one (a : Nat) : pall [a] = ptaken a := by rw [pall_cons]; exact pt_one (taken_lt a)
theorem pall_two (a b : Nat) : pall [a, b] = padd a b := by rw [pall_cons, pall_one]; rfl
theorem pow_pm {m : Nat} (h0 : m % 4611686018427377339 ≠ 0) : ppow m 2305843009213688669 = 1 ∨ ppow m 2305843009213688669 = 4611686018427377338 := by
 have hl := ppow_lt m 2305843009213688669
 have hf : pw m 4611686018427377338 4611686018427377339 = 1 := fermat prP h0
 have hs : pt (ppow m 2305843009213688669) (ppow m 2305843009213688669) = 1 := by
  rw [ppow_add]; exact hf
 obtain ⟨t, ht⟩ : ∃ t, t = ppow m 2305843009213688669 := ⟨_, rfl⟩
 rw [← ht] at hs hl ⊢
 unfold pt at hs
 have ht0 : 0 < t := by
  rcases Nat.eq_zero_or_pos t with h | h
  ·subst h; exact absurd hs (by decide)
  ·exact h
 obtain ⟨u, rfl⟩ : ∃ u, t = u + 1 := ⟨t - 1, by omega⟩
 have e : (u + 1) * (u + 1) = u * (u + 2) + 1 := by rw [Nat.mul_add, Nat.mul_add, Nat.add_mul]; omega
 have hd : 4611686018427377339 ∣ u * (u + 2) := by
  apply Nat.dvd_of_mod_eq_zero
  have := Nat.sub_mod_eq_zero_of_mod_eq (show (u + 1) * (u + 1) % 4611686018427377339 = 1 % 4611686018427377339 from hs)
  rwa [e, Nat.add_sub_cancel] at this
 rcases prP.euclid hd with h1 | h1
 ·rcases Nat.eq_zero_or_pos u with h2 | h2
  ·left; omega
  ·have := Nat.le_of_dvd h2 h1; omega
 ·have := Nat.le_of_dvd (by omega) h1
  right; omega
theorem pow_lack {m : Nat} (hm : m < 4611686018427377339) : ppow (4611686018427377339 - m) 2305843009213688669 = pt 4611686018427377338 (ppow m 2305843009213688669) := by
 have h1 : ppow 4611686018427377338 2305843009213688669 = 4611686018427377338 := by
  unfold ppow; rw [← fp_eq _ 64 _ _ (by decide)]; decide +kernel
 have h2 : pt 4611686018427377338 m = (4611686018427377339 - m) % 4611686018427377339 := by
  unfold pt
  rcases Nat.eq_zero_or_pos m with h | h
  ·subst h; decide
  ·obtain ⟨k, rfl⟩ : ∃ k, m = k + 1 := ⟨m - 1, by omega⟩
   have e : 4611686018427377338 * (k + 1) = 4611686018427377339 * k + (4611686018427377339 - (k + 1)) := by omega
   rw [e, Nat.mul_add_mod]
 have h3 := ppow_prod 4611686018427377338 m 2305843009213688669
 rw [h1, h2] at h3
 rw [← h3]
 unfold ppow
 rw [pw_mod]
theorem halves {m : Nat} (h0 : 0 < m) (hm : m < 4611686018427377339) : pright (4611686018427377339 - m) = !pright m := by
 have h1 := pow_lack hm
 rcases pow_pm (by rw [Nat.mod_eq_of_lt hm]; omega) with h2 | h2
 ·have hr : pright m = true := right_mk hm h2
  rw [hr]
  rw [h2] at h1
  by_cases h : pright (4611686018427377339 - m) = true
  ·have := right_pow h
   rw [h1] at this
   exact absurd this (by decide)
  ·simpa using h
 ·have hr : pright m = false := by
   by_cases h : pright m = true
   ·have := right_pow h
    rw [h2] at this
    exact absurd this (by decide)
   ·simpa using h
  rw [hr]
  rw [h2] at h1
  exact right_mk (by omega) (by rw [h1]; decide)
theorem roots {a : Nat} (h : pright a = true) : padd (pscale a 1152921504606844335) (pscale a 1152921504606844335) = a := by
 rw [← scale_sum, show fadd 1152921504606844335 1152921504606844335 = 1 from by decide, scale_1, add_one, taken_of h]
end Cpd
