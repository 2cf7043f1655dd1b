/- What package field computes, and the reference beside it: plain functions on naturals, and their laws. No program in sight. -/
import Derived.Test.YtgekiddgdjeaiaaGreatNt
namespace Cfd
open Cnt
set_option linter.unusedVariables false
def fof (a : Nat) : Nat := a % 2305843009213688669
def ab8 (a b : Nat) : Nat := (a + b) % 2305843009213688669
def a8n (a : Nat) : Nat := (2305843009213688669 - a % 2305843009213688669) % 2305843009213688669
def ah4 (a b : Nat) : Nat := ab8 a (a8n b)
def uk (a b : Nat) : Nat := a * b % 2305843009213688669
def bhx (a n : Nat) : Nat := pw a n 2305843009213688669
def bq6 (a : Nat) : Nat := if a % 2305843009213688669 = 0 then 0 else bhx a 2305843009213688667
def fnz (a : Nat) : Bool := !(a % 2305843009213688669 == 0)
def y9 (a : Nat) : Bool := decide (a < 2305843009213688669)
def ase (n b : Nat) : Nat := (n * 256 + b) % 2305843009213688668
def aon (l : List Nat) : Nat := l.foldl ase 0
def lm (l : List Nat) : Nat := aon l + 1
def mh (a b : Nat) : Nat := a * b / 18446744073709551616
def ml (a b : Nat) : Nat := a * b % 18446744073709551616

theorem avz (a : Nat) : fof a < 2305843009213688669 := Nat.mod_lt _ (by decide)
theorem bjl (a b : Nat) : ab8 a b < 2305843009213688669 := Nat.mod_lt _ (by decide)
theorem a3f (a b : Nat) : ah4 a b < 2305843009213688669 := Nat.mod_lt _ (by decide)
theorem auk (a b : Nat) : uk a b < 2305843009213688669 := Nat.mod_lt _ (by decide)
theorem bjg (a n : Nat) : bhx a n < 2305843009213688669 := a9j _ _ (by decide)
theorem baj (n b : Nat) : ase n b < 2305843009213688668 := Nat.mod_lt _ (by decide)
theorem bd8 (l : List Nat) : ∀ n, n < 2305843009213688668 → l.foldl ase n < 2305843009213688668 := by
 induction l with
 | nil => intro n h; exact h
 | cons x t ih => intro n _; exact ih _ (baj _ _)
theorem aow (l : List Nat) : aon l < 2305843009213688668 := bd8 l 0 (by decide)
theorem a8h (l : List Nat) : lm l < 2305843009213688669 := by have := aow l; unfold lm; omega
theorem bp0 (a b : Nat) (ha : a < 18446744073709551616) (hb : b < 18446744073709551616) : mh a b < 18446744073709551616 := by
 unfold mh
 rw [Nat.div_lt_iff_lt_mul (by decide)]
 exact Nat.mul_lt_mul'' ha hb
theorem bo5 (a b : Nat) : ml a b < 18446744073709551616 := Nat.mod_lt _ (by decide)
theorem mhl (a b : Nat) : mh a b * 18446744073709551616 + ml a b = a * b := Nat.div_add_mod' _ _

theorem bcw {a : Nat} (h : a < 2305843009213688669) : fof a = a := Nat.mod_eq_of_lt h

theorem aw2 (a b c : Nat) : uk (uk a b) c = uk a (uk b c) := by unfold uk; rw [Nat.mod_mul_mod, Nat.mul_mod_mod, Nat.mul_assoc]
theorem ac5 (a b : Nat) : uk b a = uk a b := by unfold uk; rw [Nat.mul_comm]
theorem boe (a b c : Nat) : uk a (ab8 b c) = ab8 (uk a b) (uk a c) := by unfold uk ab8; rw [Nat.mul_mod_mod, Nat.mod_add_mod, Nat.add_mod_mod, Nat.mul_add]
@[irreducible] def fi (a : Nat) : Nat := bhx a 2305843009213688667
theorem bpp (a : Nat) : fi a < 2305843009213688669 := by unfold fi; exact bjg _ _
theorem blo {a : Nat} (h : ¬ a % 2305843009213688669 = 0) : uk a (fi a) = 1 := by
 unfold fi uk bhx
 rw [← Cnt.apa]
 exact Cnt.bbl Cnt.prQ h
theorem awe {a b c : Nat} (ha : ¬ a % 2305843009213688669 = 0) (h : uk a b = uk a c) (hb : b < 2305843009213688669) (hc : c < 2305843009213688669) : b = c := by
 have := Cnt.cancel Cnt.prQ ha h
 rwa [Nat.mod_eq_of_lt hb, Nat.mod_eq_of_lt hc] at this
theorem bkc (n i : Nat) : n / 2 ^ (i + 1) = n / 2 ^ i / 2 := by rw [Nat.pow_succ, Nat.div_div_eq_div_mul]


structure Eu (a old now x y : Nat) : Prop where
 hx : uk x a = fof old
 hy : uk y a = fof now
 bx : x < 2305843009213688669
 bY : y < 2305843009213688669
 lt : now < old
 top : old ≤ 2305843009213688669
 pos : 0 < now
 cop : Nat.gcd old now = 1
theorem Eu.start (a : Nat) (h : ¬ a % 2305843009213688669 = 0) : Eu a 2305843009213688669 (fof a) 0 1 := by
 refine ⟨by unfold uk fof; rw [Nat.zero_mul], by unfold uk fof; rw [Nat.one_mul, Nat.mod_mod], by decide, by decide, avz a, Nat.le_refl _, by unfold fof; omega, ?_⟩
 exact Cnt.prQ.cop fun hd => h (by have := Nat.mod_eq_zero_of_dvd hd; unfold fof at this; rwa [Nat.mod_mod] at this)
theorem bc9 (x z : Nat) : ab8 (ah4 x z) z = fof x := by unfold ah4 ab8 a8n fof; omega
theorem bdq (x z a : Nat) : uk (ab8 x z) a = ab8 (uk x a) (uk z a) := by
 rw [ac5 a, boe, ac5, ac5 z]
theorem Eu.step {a old now x y : Nat} (h : Eu a old now x y) (h1 : 1 < now) : Eu a now (old % now) y (ah4 x (uk (old / now) y)) := by
 have hlt : old % now < now := Nat.mod_lt _ h.pos
 refine ⟨h.hy, ?_, h.bY, a3f _ _, hlt, by have := h.lt; have := h.top; omega, ?_, ?_⟩
 ·have e1 := bdq (ah4 x (uk (old / now) y)) (uk (old / now) y) a
  rw [bc9, aw2, h.hy] at e1
  have e2 : uk (fof x) a = fof old := by rw [bcw h.bx]; exact h.hx
  rw [e2] at e1
  have e3 : fof old = ab8 (fof (old % now)) (uk (old / now) (fof now)) := by
   have e4 := Nat.div_add_mod' old now
   unfold ab8 uk fof
   rw [Nat.mul_mod_mod, Nat.add_mod_mod, Nat.mod_add_mod, Nat.add_comm, e4]
  rw [e3] at e1
  have l1 := avz (old % now)
  have l2 := auk (ah4 x (uk (old / now) y)) a
  have l3 := auk (old / now) (fof now)
  generalize uk (old / now) (fof now) = t at *
  generalize uk (ah4 x (uk (old / now) y)) a = u at *
  generalize fof (old % now) = v at *
  unfold ab8 at e1
  omega
 ·rcases Nat.eq_zero_or_pos (old % now) with h0 | h0
  ·have hg := h.cop
   rw [Nat.gcd_comm, Nat.gcd_rec, h0, Nat.gcd_zero_left] at hg
   omega
  ·exact h0
 ·rw [Nat.gcd_comm, ← Nat.gcd_rec, Nat.gcd_comm]; exact h.cop
theorem Eu.fin {a old now x y : Nat} (h : Eu a old now x y) (h1 : now = 1) (ha : ¬ a % 2305843009213688669 = 0) : y = fi a := by
 have e := h.hy
 rw [h1, ac5] at e
 refine awe ha ?_ h.bY (bpp a)
 rw [e, blo ha]; rfl


@[irreducible] def axa (F x j : Nat) : Nat := (F * 2 ^ (8 - j) + x / 2 ^ j) % 2305843009213688668
theorem bny (F x : Nat) (hF : F < 2305843009213688668) (hx : x < 256) : axa F x 8 = F := by
 unfold axa
 rw [Nat.div_eq_of_lt (by simpa using hx)]
 simp
 exact hF
theorem blq (F x : Nat) : axa F x 0 = ase F x := by unfold axa ase; simp
theorem a6u (F x i : Nat) (hi : i < 8) : (2 * axa F x (i + 1) + x / 2 ^ i % 2) % 2305843009213688668 = axa F x i := by
 unfold axa
 rw [bkc]
 have e : 2 ^ (8 - i) = 2 * 2 ^ (8 - (i + 1)) := by rw [← Nat.pow_succ']; congr 1; omega
 rw [e, Nat.mul_left_comm]
 generalize F * 2 ^ (8 - (i + 1)) = t
 generalize x / 2 ^ i = y
 omega


theorem azl (l : List Nat) (k : Nat) (h : k < l.length) : aon (l.take (k + 1)) = ase (aon (l.take k)) (l.getD k 0) := by
 unfold aon
 rw [List.take_add_one, List.foldl_append, List.getD_eq_getElem?_getD, List.getElem?_eq_getElem h]
 rfl

end Cfd
