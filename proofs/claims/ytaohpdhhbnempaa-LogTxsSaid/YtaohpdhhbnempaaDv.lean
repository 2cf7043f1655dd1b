/- Knuth's long division of 128 bits by 64, digit by digit: the arithmetic that math/bits.Div64 walks through. No program in sight. -/
namespace Cdv
theorem rearr (q y1 y0 K : Nat) : q * (y1 * K + y0) = q * y1 * K + q * y0 := by rw [Nat.mul_add, ← Nat.mul_assoc]

structure Dg (u y1 y0 d q r : Nat) : Prop where
 sum : q * y1 + r = u
 top : (u * 4294967296 + d) / (y1 * 4294967296 + y0) ≤ q
 few : q ≤ 4294967298

theorem Dg.start {u y1 y0 d : Nat} (hy1 : 2147483648 ≤ y1) (hy0 : y0 < 4294967296) (hu : u < y1 * 4294967296 + y0) (hd : d < 4294967296) :
  Dg u y1 y0 d (u / y1) (u % y1) := by
 refine ⟨Nat.div_add_mod' u y1, ?_, ?_⟩
 ·generalize hq : (u * 4294967296 + d) / (y1 * 4294967296 + y0) = q
  have h1 : q * (y1 * 4294967296 + y0) ≤ u * 4294967296 + d := by rw [← hq]; exact Nat.div_mul_le_self _ _
  rw [rearr] at h1
  rw [Nat.le_div_iff_mul_le (by omega)]
  omega
 ·have : u < 4294967299 * y1 := by omega
  have := (Nat.div_lt_iff_lt_mul (by omega : 0 < y1)).mpr this
  omega

theorem Dg.step {u y1 y0 d q r : Nat} (h : Dg u y1 y0 d q r) (hu : u < y1 * 4294967296 + y0) (hd : d < 4294967296) (ht : 4294967296 ≤ q ∨ 4294967296 * r + d < q * y0) : Dg u y1 y0 d (q - 1) (r + y1) ∧ 1 ≤ q := by
 have hlt : (u * 4294967296 + d) / (y1 * 4294967296 + y0) < q := by
  rw [Nat.div_lt_iff_lt_mul (by omega)]
  rcases ht with h1 | h1
  ·have h2 : 4294967296 * (y1 * 4294967296 + y0) ≤ q * (y1 * 4294967296 + y0) := Nat.mul_le_mul_right _ h1
   omega
  ·rw [rearr]
   have h3 := h.sum
   have h4 : q * y1 * 4294967296 + r * 4294967296 = u * 4294967296 := by rw [← h3, Nat.add_mul]
   omega
 have hq : 1 ≤ q := Nat.lt_of_le_of_lt (Nat.zero_le _) hlt
 refine ⟨⟨?_, Nat.le_sub_one_of_lt hlt, by have := h.few; omega⟩, hq⟩
 obtain ⟨p, rfl⟩ : ∃ p, q = p + 1 := ⟨q - 1, by omega⟩
 have h3 := h.sum
 rw [Nat.succ_mul] at h3
 simp only [Nat.add_sub_cancel]
 omega

theorem Dg.stop {u y1 y0 d q r : Nat} (h : Dg u y1 y0 d q r) (hy0 : y0 < 4294967296) (hu : u < y1 * 4294967296 + y0) (he : 4294967296 ≤ r ∨ q < 4294967296 ∧ q * y0 ≤ 4294967296 * r + d) :
  q = (u * 4294967296 + d) / (y1 * 4294967296 + y0) := by
 have h3 := h.sum
 have h4 : q * y1 * 4294967296 + r * 4294967296 = u * 4294967296 := by rw [← h3, Nat.add_mul]
 have hle : q * (y1 * 4294967296 + y0) ≤ u * 4294967296 + d := by
  rw [rearr]
  rcases he with h1 | ⟨_, h1⟩
  ·have h5 : q * y1 < y1 * 4294967296 := by omega
   have h6 : q < 4294967296 := by
    rw [Nat.mul_comm] at h5
    exact Nat.lt_of_mul_lt_mul_left h5
   have h7 : q * y0 ≤ 4294967295 * 4294967295 := Nat.mul_le_mul (by omega) (by omega)
   omega
  ·omega
 have h8 := (Nat.le_div_iff_mul_le (by omega : 0 < y1 * 4294967296 + y0)).mpr hle
 exact Nat.le_antisymm h8 h.top

theorem fits {y0 q : Nat} (hq : q < 4294967296) (hy0 : y0 < 4294967296) : q * y0 < 18446744073709551616 := by
 have : q * y0 ≤ 4294967295 * 4294967295 := Nat.mul_le_mul (by omega) (by omega)
 omega
end Cdv
