/- What package point computes: plain functions on naturals, and the group's laws. No program in sight. -/
import Derived.Test.YtgekiddgdjeaiaaGreatFd
namespace Cpd
open Cnt Cfd
def pt (a b : Nat) : Nat := a * b % 4611686018427377339
def rf (a n : Nat) : Nat := pw a n 4611686018427377339
def iw (a : Nat) : Bool := decide (0 < a) && decide (a < 4611686018427377339) && decide (rf a 2305843009213688669 = 1)
def mr (a : Nat) : Nat := if iw a = true then a else 1
def uo (a b : Nat) : Nat := pt (mr a) (mr b)
def abj (l : List Nat) : Nat := l.foldl (fun o a => pt o (mr a)) 1
def ahq (a : Nat) : Nat := rf (mr a) 2305843009213688668
def boy (a b : Nat) : Nat := uo a (ahq b)
def mi (a k : Nat) : Nat := rf (mr a) (fof k)
def jl (k : Nat) : Nat := mi 4 k

theorem bfo (n m : Nat) (hn : 0 < n) : pw 0 n m = 0 % m := by rw [zf, Nat.zero_pow hn]
theorem aer (a b : Nat) : pt a b < 4611686018427377339 := Nat.mod_lt _ (by decide)
theorem afk (a n : Nat) : rf a n < 4611686018427377339 := a9j _ _ (by decide)
theorem a3i (a b : Nat) : pt a b = pt b a := by unfold pt; rw [Nat.mul_comm]
theorem an1 (a b c : Nat) : pt (pt a b) c = pt a (pt b c) := by unfold pt; rw [Nat.mod_mul_mod, Nat.mul_mod_mod, Nat.mul_assoc]
theorem akp {a : Nat} (h : a < 4611686018427377339) : pt a 1 = a := by unfold pt; rw [Nat.mul_one]; exact Nat.mod_eq_of_lt h
theorem an3 {a : Nat} (h : a < 4611686018427377339) : pt 1 a = a := by rw [a3i]; exact akp h
theorem a4t (a b n : Nat) : rf (pt a b) n = pt (rf a n) (rf b n) := bff _ _ _ _
theorem aoe (a x y : Nat) : pt (rf a x) (rf a y) = rf a (x + y) := az8 _ _ _ _
theorem apv (a x y : Nat) : rf (rf a x) y = rf a (x * y) := azf _ _ _ _
theorem asj (a : Nat) : rf a 0 = 1 := bii _ _ (by decide)
theorem ayo {a : Nat} (h : a < 4611686018427377339) : rf a 1 = a := by unfold rf; rw [a0y]; exact Nat.mod_eq_of_lt h
theorem aoz (n : Nat) : rf 1 n = 1 := bca _ _ (by decide)

theorem ajy (a : Nat) : iw a = true ↔ 0 < a ∧ a < 4611686018427377339 ∧ rf a 2305843009213688669 = 1 := by
 unfold iw; simp [Bool.and_eq_true, decide_eq_true_eq, and_assoc]
theorem ayh {a : Nat} (h : iw a = true) : a < 4611686018427377339 := ((ajy a).mp h).2.1
theorem aej {a : Nat} (h : iw a = true) : rf a 2305843009213688669 = 1 := ((ajy a).mp h).2.2
theorem aoy {a : Nat} (h1 : a < 4611686018427377339) (h2 : rf a 2305843009213688669 = 1) : iw a = true := by
 refine (ajy a).mpr ⟨?_, h1, h2⟩
 rcases Nat.eq_zero_or_pos a with h0 | h0
 ·subst h0
  unfold rf at h2
  rw [bfo _ _ (by decide)] at h2
  exact absurd h2 (by decide)
 ·exact h0
theorem akw : iw 1 = true := aoy (by decide) (aoz _)
theorem ajp {a b : Nat} (ha : iw a = true) (hb : iw b = true) : iw (pt a b) = true :=
 aoy (aer _ _) (by rw [a4t, aej ha, aej hb]; rfl)
theorem aps {a : Nat} (n : Nat) (ha : iw a = true) : iw (rf a n) = true :=
 aoy (afk _ _) (by rw [apv, Nat.mul_comm, ← apv, aej ha, aoz])
theorem ni (a : Nat) : iw (mr a) = true := by
 unfold mr; split
 ·assumption
 ·exact akw
theorem uz {a : Nat} (h : iw a = true) : mr a = a := by unfold mr; rw [if_pos h]
theorem arw {a : Nat} (h : iw a = false) : mr a = 1 := by unfold mr; rw [h]; rfl
theorem ab2 (a : Nat) : mr a < 4611686018427377339 := ayh (ni a)
theorem awo (a : Nat) : mr (mr a) = mr a := uz (ni a)
theorem a7v (a b : Nat) : iw (uo a b) = true := ajp (ni a) (ni b)
theorem a7p (a : Nat) : iw (ahq a) = true := aps _ (ni a)
theorem agm (a k : Nat) : iw (mi a k) = true := aps _ (ni a)
theorem azq (k : Nat) : iw (jl k) = true := agm _ _
theorem bjq (a b : Nat) : uo a b < 4611686018427377339 := aer _ _
theorem bj4 (a : Nat) : ahq a < 4611686018427377339 := afk _ _
theorem a4q (a k : Nat) : mi a k < 4611686018427377339 := afk _ _
theorem bde (k : Nat) : jl k < 4611686018427377339 := afk _ _

theorem aox {a : Nat} (h : iw a = true) (n : Nat) : rf a (fof n) = rf a n := by
 have e : n = 2305843009213688669 * (n / 2305843009213688669) + fof n := (Nat.div_add_mod _ _).symm
 have e2 : rf a n = rf a (2305843009213688669 * (n / 2305843009213688669) + fof n) := congrArg _ e
 rw [e2, ← aoe, ← apv, aej h, aoz, an3 (afk _ _)]
theorem a4l {a : Nat} (h : iw a = true) {m n : Nat} (e : fof m = fof n) : rf a m = rf a n := by
 rw [← aox h m, e, aox h]
theorem ain (a k : Nat) : mi a k = rf (mr a) k := by unfold mi; rw [aox (ni a)]
theorem add_comm (a b : Nat) : uo b a = uo a b := a3i _ _
theorem add_assoc (a b c : Nat) : uo (uo a b) c = uo a (uo b c) := by
 unfold uo
 rw [uz (ajp (ni a) (ni b)), uz (ajp (ni b) (ni c)), an1]
theorem bi9 : mr 1 = 1 := uz akw
theorem al9 (a : Nat) : uo a 1 = mr a := by unfold uo; rw [bi9, akp (ab2 a)]
theorem a3r (a b : Nat) : uo a (mr b) = uo a b := by unfold uo; rw [awo]
theorem a2a (a : Nat) : uo a (ahq a) = 1 := by
 unfold uo
 rw [uz (a7p a)]
 unfold ahq
 have h := aoe (mr a) 1 2305843009213688668
 rw [ayo (ab2 a)] at h
 rw [h]
 exact aej (ni a)
theorem bjm (a b : Nat) : boy (uo a b) b = mr a := by
 unfold boy
 rw [add_assoc, a2a, al9]
theorem a5i (a k l : Nat) : mi a (ab8 k l) = uo (mi a k) (mi a l) := by
 have h1 : uo (mi a k) (mi a l) = pt (mi a k) (mi a l) := by
  unfold uo; rw [uz (agm a k), uz (agm a l)]
 rw [h1, ain, ain, ain, aoe]
 exact a4l (ni a) (Nat.mod_mod _ _)
theorem bip (a : Nat) : mi a 1 = uo a 1 := by rw [ain, al9, ayo (ab2 a)]
theorem a1l (l : List Nat) : ∀ s, s < 4611686018427377339 → l.foldl (fun o a => pt o (mr a)) s = pt s (abj l) := by
 induction l with
 | nil => intro s hs; show s = pt s 1; rw [akp hs]
 | cons a t ih =>
  intro s hs
  unfold abj
  rw [List.foldl_cons, List.foldl_cons, ih _ (aer _ _), ih _ (aer _ _), an3 (ab2 a), an1]
theorem aj9 (a : Nat) (t : List Nat) : abj (a :: t) = pt (mr a) (abj t) := by
 unfold abj
 rw [List.foldl_cons, a1l t _ (aer _ _), an3 (ab2 a)]
 rfl
theorem akm (l : List Nat) : iw (abj l) = true := by
 induction l with
 | nil => exact akw
 | cons a t ih => rw [aj9]; exact ajp (ni a) ih
theorem a3l (l : List Nat) : abj l < 4611686018427377339 := ayh (akm l)
theorem a9g (l m : List Nat) : abj (l ++ m) = uo (abj l) (abj m) := by
 have h1 : uo (abj l) (abj m) = pt (abj l) (abj m) := by unfold uo; rw [uz (akm l), uz (akm m)]
 rw [h1]
 show (l ++ m).foldl _ 1 = _
 rw [List.foldl_append]
 exact a1l m _ (a3l l)
theorem ayl (a : Nat) : abj [a] = mr a := by rw [aj9]; exact akp (ab2 a)
theorem a81 (a b : Nat) : abj [a, b] = uo a b := by rw [aj9, ayl]; rfl
theorem roots {a : Nat} (h : iw a = true) : uo (mi a 1152921504606844335) (mi a 1152921504606844335) = a := by
 rw [← a5i, show ab8 1152921504606844335 1152921504606844335 = 1 from by decide, bip, al9, uz h]
end Cpd
