/- Numbers' rows, plainly: what was laid is read, and what is read was laid so. No program in sight. -/
import Derived.Test.YtgekiddgdjeaiaaGreatRd1
namespace Go.Proofs.YtgekiddgdjeaiaaGreat
open Go Go.RowKit Go.Lib Ckp Cfd Cpd Sx
set_option linter.unusedVariables false
set_option linter.unusedSimpArgs false
def byB (l : List Int) : Bool := l.all fun x => iLe 0 x && iLt x 256
theorem aau {l : List Int} : byB l = true ↔ ∀ x ∈ l, 0 ≤ x ∧ x < 256 := by
 unfold byB
 rw [List.all_eq_true]
 simp only [zaT, ag4, air]
theorem bn1 (a d k : Nat) (hk : k ≤ 56) (ha : a < 2 ^ k) (hd : d < 128) : (BitVec.ofInt 64 (a : Int) ||| BitVec.ofInt 64 ((d * 2 ^ k : Nat) : Int)).toNat = a + d * 2 ^ k := by
 have h1 : 2 ^ k ≤ 2 ^ 56 := Nat.pow_le_pow_right (by decide) hk
 have h2 : d * 2 ^ k ≤ 127 * 2 ^ 56 := Nat.mul_le_mul (by omega) h1
 rw [BitVec.toNat_or, BitVec.toNat_ofInt, BitVec.toNat_ofInt]
 have e1 : ((a : Int) % ((2 ^ 64 : Nat) : Int)).toNat = a := by simp only [Nat.reducePow] at *; omega
 have e2 : (((d * 2 ^ k : Nat) : Int) % ((2 ^ 64 : Nat) : Int)).toNat = d * 2 ^ k := by
  generalize d * 2 ^ k = x at *
  simp only [Nat.reducePow] at *; omega
 rw [e1, e2, Nat.or_comm, Nat.mul_comm, ← Nat.two_pow_add_eq_or_of_lt ha, Nat.add_comm]
theorem a0t {n d : Int} {i : Nat} (hi : i ≤ 8) (h0 : 0 ≤ n) (h1 : n < 2 ^ (7 * i)) (hd : 0 ≤ d ∧ d < 256) : orD n d i = n + (d % 128) * 2 ^ (7 * i) := by
 obtain ⟨a, rfl⟩ : ∃ a : Nat, n = a := ⟨n.toNat, by omega⟩
 obtain ⟨e, he⟩ : ∃ e : Nat, d % 128 = e := ⟨(d % 128).toNat, by omega⟩
 have he2 : e < 128 := by omega
 have ht : d.tmod 128 = e := by rw [Int.tmod_eq_emod_of_nonneg hd.1]; exact he
 have ha : a < 2 ^ (7 * i) := by exact_mod_cast h1
 have hx : e * 2 ^ (7 * i) ≤ 127 * 2 ^ 56 := Nat.mul_le_mul (by omega) (Nat.pow_le_pow_right (by decide) (by omega))
 have hp : 2 ^ (7 * i) ≤ 2 ^ 56 := Nat.pow_le_pow_right (by decide) (by omega)
 have key := bn1 a e (7 * i) (by omega) ha he2
 unfold orD
 rw [ht, he, Nat.min_eq_left (by omega)]
 have e1 : (e : Int) * 2 ^ (7 * i) = ((e * 2 ^ (7 * i) : Nat) : Int) := by simp
 rw [e1]
 generalize e * 2 ^ (7 * i) = x at *
 have e2 : IntKind.i64.wrap (x : Int) = x := by rw [IntKind.wrap_i64]; simp only [Nat.reducePow] at hx; omega
 rw [e2, key, IntKind.wrap_i64]
 simp only [Nat.reducePow] at hx hp
 omega
theorem ade (f : Nat) {n : Int} (h : n < 128) : ac8 (f + 1) n = [n] := by
 rw [ac8, show iLe 128 n = false by simp only [ajt]; omega]; rfl
theorem ai5 (f : Nat) {n : Int} (h : 128 ≤ n) : ac8 (f + 1) n = (n % 128 + 128) :: ac8 f (n / 128) := by
 rw [ac8, show iLe 128 n = true by simp only [ag4]; omega, Int.tmod_eq_emod_of_nonneg (by omega), Int.tdiv_eq_ediv_of_nonneg (by omega)]; rfl
theorem a7r {l : List Int} {i : Nat} : wrF l i = false ↔ i < l.length ∧ i ≤ 8 ∧ (0 < i → l.getD i 0 ≠ 0) := by
 unfold wrF dgt
 cases h1 : Nat.ble l.length i
 ·have : ¬ l.length ≤ i := by rw [← Nat.ble_eq, h1]; decide
  cases h2 : Nat.blt 8 i
  ·have : ¬ 8 < i := by rw [← Nat.blt_eq, h2]; decide
   cases h3 : Nat.blt 0 i
   ·have : ¬ 0 < i := by rw [← Nat.blt_eq, h3]; decide
    simp; omega
   ·rw [Nat.blt_eq] at h3
    simp only [cond_false, cond_true, akg]
    constructor
    ·intro h; exact ⟨by omega, by omega, fun _ => h⟩
    ·intro h; exact h.2.2 h3
  ·rw [Nat.blt_eq] at h2; simp; omega
 ·rw [Nat.ble_eq] at h1; simp; omega
theorem p7 (i : Nat) : (2 : Int) ^ (7 * (i + 1)) = 128 * 2 ^ (7 * i) := by
 rw [show 7 * (i + 1) = 7 * i + 7 by omega, Int.pow_add]
 simp only [Int.reducePow]; omega
theorem axm : ∀ (f : Nat) (n : Int), 0 ≤ n → byB (ac8 f n) = true
 | 0, _, _ => rfl
 | f + 1, n, h => by
  by_cases hn : n < 128
  ·rw [ade f hn, aau]; simp; omega
  ·have ih := axm f (n / 128) (by omega)
   rw [aau] at ih
   rw [ai5 f (by omega), aau]
   intro x hx
   rcases List.mem_cons.1 hx with rfl | hx
   ·omega
   ·exact ih x hx
theorem bqa {R : OB} (hr : R = bO) {n : Int} (h : 0 ≤ n) : byB (R.row n) = true := by
 subst hr; exact axm 10 n h
end Go.Proofs.YtgekiddgdjeaiaaGreat
