/- Numbers' rows, plainly: what was laid is read, and what is read was laid so. No program in sight. -/
import Derived.Test.YtaohpdhhbnempaaRd1
namespace Go.Proofs.Ytaohpdhhbnempaa
open Go Go.RowKit Go.Lib Ckp Cfd Cpd Sx
set_option linter.unusedVariables false
set_option linter.unusedSimpArgs false
def byB (l : List Int) : Bool := l.all fun x => iLe 0 x && iLt x 256
theorem byB_iff {l : List Int} : byB l = true ↔ ∀ x ∈ l, 0 ≤ x ∧ x < 256 := by
 unfold byB
 rw [List.all_eq_true]
 simp only [zaT, iLe_t, iLt_t]
theorem byB_app {a b : List Int} : byB (a ++ b) = (byB a && byB b) := by unfold byB; rw [List.all_append]
theorem or_add (a d k : Nat) (hk : k ≤ 56) (ha : a < 2 ^ k) (hd : d < 128) : (BitVec.ofInt 64 (a : Int) ||| BitVec.ofInt 64 ((d * 2 ^ k : Nat) : Int)).toNat = a + d * 2 ^ k := by
 have h1 : 2 ^ k ≤ 2 ^ 56 := Nat.pow_le_pow_right (by decide) hk
 have h2 : d * 2 ^ k ≤ 127 * 2 ^ 56 := Nat.mul_le_mul (by omega) h1
 rw [BitVec.toNat_or, BitVec.toNat_ofInt, BitVec.toNat_ofInt]
 have e1 : ((a : Int) % ((2 ^ 64 : Nat) : Int)).toNat = a := by simp only [Nat.reducePow] at *; omega
 have e2 : (((d * 2 ^ k : Nat) : Int) % ((2 ^ 64 : Nat) : Int)).toNat = d * 2 ^ k := by
  generalize d * 2 ^ k = x at *
  simp only [Nat.reducePow] at *; omega
 rw [e1, e2, Nat.or_comm, Nat.mul_comm, ← Nat.two_pow_add_eq_or_of_lt ha, Nat.add_comm]
theorem orD_eq {n d : Int} {i : Nat} (hi : i ≤ 8) (h0 : 0 ≤ n) (h1 : n < 2 ^ (7 * i)) (hd : 0 ≤ d ∧ d < 256) : orD n d i = n + (d % 128) * 2 ^ (7 * i) := by
 obtain ⟨a, rfl⟩ : ∃ a : Nat, n = a := ⟨n.toNat, by omega⟩
 obtain ⟨e, he⟩ : ∃ e : Nat, d % 128 = e := ⟨(d % 128).toNat, by omega⟩
 have he2 : e < 128 := by omega
 have ht : d.tmod 128 = e := by rw [Int.tmod_eq_emod_of_nonneg hd.1]; exact he
 have ha : a < 2 ^ (7 * i) := by exact_mod_cast h1
 have hx : e * 2 ^ (7 * i) ≤ 127 * 2 ^ 56 := Nat.mul_le_mul (by omega) (Nat.pow_le_pow_right (by decide) (by omega))
 have hp : 2 ^ (7 * i) ≤ 2 ^ 56 := Nat.pow_le_pow_right (by decide) (by omega)
 have key := or_add a e (7 * i) (by omega) ha he2
 unfold orD
 rw [ht, he, Nat.min_eq_left (by omega)]
 have e1 : (e : Int) * 2 ^ (7 * i) = ((e * 2 ^ (7 * i) : Nat) : Int) := by simp
 rw [e1]
 generalize e * 2 ^ (7 * i) = x at *
 have e2 : IntKind.i64.wrap (x : Int) = x := by rw [IntKind.wrap_i64]; simp only [Nat.reducePow] at hx; omega
 rw [e2, key, IntKind.wrap_i64]
 simp only [Nat.reducePow] at hx hp
 omega
theorem rowG_small (f : Nat) {n : Int} (h : n < 128) : rowG (f + 1) n = [n] := by
 rw [rowG, show iLe 128 n = false by simp only [iLe_f]; omega]; rfl
theorem rowG_big (f : Nat) {n : Int} (h : 128 ≤ n) : rowG (f + 1) n = (n % 128 + 128) :: rowG f (n / 128) := by
 rw [rowG, show iLe 128 n = true by simp only [iLe_t]; omega, Int.tmod_eq_emod_of_nonneg (by omega), Int.tdiv_eq_ediv_of_nonneg (by omega)]; rfl
theorem wr_f {l : List Int} {i : Nat} : wrF l i = false ↔ i < l.length ∧ i ≤ 8 ∧ (0 < i → l.getD i 0 ≠ 0) := by
 unfold wrF dgt
 cases h1 : Nat.ble l.length i
 ·have : ¬ l.length ≤ i := by rw [← Nat.ble_eq, h1]; decide
  cases h2 : Nat.blt 8 i
  ·have : ¬ 8 < i := by rw [← Nat.blt_eq, h2]; decide
   cases h3 : Nat.blt 0 i
   ·have : ¬ 0 < i := by rw [← Nat.blt_eq, h3]; decide
    simp; omega
   ·rw [Nat.blt_eq] at h3
    simp only [cond_false, cond_true, iBeq_f]
    constructor
    ·intro h; exact ⟨by omega, by omega, fun _ => h⟩
    ·intro h; exact h.2.2 h3
  ·rw [Nat.blt_eq] at h2; simp; omega
 ·rw [Nat.ble_eq] at h1; simp; omega
theorem p7 (i : Nat) : (2 : Int) ^ (7 * (i + 1)) = 128 * 2 ^ (7 * i) := by
 rw [show 7 * (i + 1) = 7 * i + 7 by omega, Int.pow_add]
 simp only [Int.reducePow]; omega
theorem num_at (rest : List Int) : ∀ (k : Nat) (pre : List Int) (n a : Int) (f g : Nat), pre.length + k = 9 → 9 ≤ f + pre.length → 10 ≤ g + pre.length → 0 ≤ n → n < 2 ^ (63 - 7 * pre.length) → (0 < pre.length → 0 < n) → 0 ≤ a → a < 2 ^ (7 * pre.length) →
  numG (pre ++ (rowG f n ++ rest)) g pre.length a = (true, a + n * 2 ^ (7 * pre.length), pre.length + (rowG f n).length)
 | 0, pre, n, a, f, g, h1, h2, h3, h4, h5, h6, h7, h8 => by
  have : pre.length = 9 := by omega
  rw [this] at h5 h6
  simp at h5
  have := h6 (by decide)
  omega
 | k + 1, pre, n, a, f, g, h1, h2, h3, h4, h5, h6, h7, h8 => by
  obtain ⟨f, rfl⟩ : ∃ f', f = f' + 1 := ⟨f - 1, by omega⟩
  obtain ⟨g, rfl⟩ : ∃ g', g = g' + 1 := ⟨g - 1, by omega⟩
  by_cases hn : n < 128
  ·rw [rowG_small f hn]
   have hd : (pre ++ ([n] ++ rest)).getD pre.length 0 = n := by simp
   have hw : wrF (pre ++ ([n] ++ rest)) pre.length = false := wr_f.2 ⟨by simp, by omega, fun h => by rw [hd]; have := h6 h; omega⟩
   rw [numG, hw, dgt, hd, show iLt n 128 = true by simp only [iLt_t]; exact hn, cond_false, cond_true, orD_eq (by omega) h7 h8 ⟨h4, by omega⟩, Int.emod_eq_of_lt h4 hn]
   rfl
  ·rw [rowG_big f (by omega)]
   have hd : (pre ++ ((n % 128 + 128) :: rowG f (n / 128) ++ rest)).getD pre.length 0 = n % 128 + 128 := by simp
   have hw : wrF (pre ++ ((n % 128 + 128) :: rowG f (n / 128) ++ rest)) pre.length = false := wr_f.2 ⟨by simp, by omega, fun h => by rw [hd]; omega⟩
   have hk : pre.length ≤ 7 := by
    apply Nat.le_of_not_lt
    intro hc
    have : pre.length = 8 := by omega
    rw [this] at h5
    simp at h5
    omega
   have hp := p7 pre.length
   rw [numG, hw, dgt, hd, show iLt (n % 128 + 128) 128 = false by simp only [iLt_f]; omega, cond_false, cond_false, orD_eq (by omega) h7 h8 ⟨by omega, by omega⟩, show (n % 128 + 128) % 128 = n % 128 by omega]
   have ih := num_at rest k (pre ++ [n % 128 + 128]) (n / 128) (a + n % 128 * 2 ^ (7 * pre.length)) f g (by simp; omega) (by simp; omega) (by simp; omega) (by omega) ?_ (by simp; omega) ?_ ?_
   ·simp only [zlA, List.length_cons, List.length_nil, Nat.zero_add] at ih
    rw [show pre ++ ((n % 128 + 128) :: rowG f (n / 128) ++ rest) = pre ++ [n % 128 + 128] ++ (rowG f (n / 128) ++ rest) by simp, ih, hp]
    refine Prod.ext rfl (Prod.ext ?_ (by simp; omega))
    show a + n % 128 * 2 ^ (7 * pre.length) + n / 128 * (128 * 2 ^ (7 * pre.length)) = a + n * 2 ^ (7 * pre.length)
    rw [← Int.mul_assoc, Int.add_assoc, ← Int.add_mul, show n % 128 + n / 128 * 128 = n by omega]
   ·simp only [zlA, List.length_cons, List.length_nil, Nat.zero_add]
    have e : (2 : Int) ^ (63 - 7 * pre.length) = 128 * 2 ^ (63 - 7 * (pre.length + 1)) := by
     rw [show 63 - 7 * pre.length = 63 - 7 * (pre.length + 1) + 7 by omega, Int.pow_add]
     simp only [Int.reducePow]; omega
    rw [e] at h5
    omega
   ·have : 0 ≤ n % 128 * 2 ^ (7 * pre.length) := Int.mul_nonneg (by omega) (Int.pow_nonneg (by decide))
    omega
   ·simp only [zlA, List.length_cons, List.length_nil, Nat.zero_add]
    rw [hp]
    have : n % 128 * 2 ^ (7 * pre.length) ≤ 127 * 2 ^ (7 * pre.length) := Int.mul_le_mul_of_nonneg_right (by omega) (Int.pow_nonneg (by decide))
    omega
theorem num_row (rest : List Int) {n : Int} (h0 : 0 ≤ n) (h1 : n < 9223372036854775808) : numG (rowI n ++ rest) 10 0 0 = (true, n, (rowI n).length) := by
 have := num_at rest 9 [] n 0 10 10 rfl (by simp) (by simp) h0 (by simp only [List.length_nil]; exact h1) (fun h => by simp at h) (Int.le_refl 0) (by decide)
 simpa [rowI] using this
theorem num_canon {l : List Int} (hb : byB l = true) : ∀ (g i : Nat) (a v : Int) (m f : Nat), numG l g i a = (true, v, m) → 9 ≤ f + i → 0 ≤ a → a < 2 ^ (7 * i) →
  ∃ n : Int, 0 ≤ n ∧ n < 2 ^ (63 - 7 * i) ∧ v = a + n * 2 ^ (7 * i) ∧ (0 < i → 0 < n) ∧ l.drop i = rowG f n ++ l.drop m ∧ m ≤ l.length ∧ i ≤ 8
 | 0, i, a, v, m, f, h, _, _, _ => by simp [numG] at h
 | g + 1, i, a, v, m, f, h, hf, h0, h1 => by
  rw [numG] at h
  cases w : wrF l i
  ·rw [w, cond_false] at h
   obtain ⟨w1, w2, w3⟩ := wr_f.1 w
   have hd : 0 ≤ l.getD i 0 ∧ l.getD i 0 < 256 := by
    rw [List.getD_eq_getElem?_getD, List.getElem?_eq_getElem w1]
    exact byB_iff.1 hb _ (List.getElem_mem w1)
   have hdr : l.drop i = l.getD i 0 :: l.drop (i + 1) := by
    rw [List.drop_eq_getElem_cons w1, List.getD_eq_getElem?_getD, List.getElem?_eq_getElem w1]; rfl
   unfold dgt at h
   rw [orD_eq w2 h0 h1 hd] at h
   obtain ⟨d, hdd⟩ : ∃ d, l.getD i 0 = d := ⟨_, rfl⟩
   rw [hdd] at h hd hdr w3
   obtain ⟨f, rfl⟩ : ∃ f', f = f' + 1 := ⟨f - 1, by omega⟩
   cases t : iLt d 128
   ·rw [t, cond_false] at h
    simp only [iLt_f] at t
    have hp := p7 i
    obtain ⟨n, n1, n2, n3, n4, n5, n6, n7⟩ := num_canon hb g (i + 1) _ v m f h (by omega) (by
      have : 0 ≤ d % 128 * 2 ^ (7 * i) := Int.mul_nonneg (by omega) (Int.pow_nonneg (by decide))
      omega) (by
      have : d % 128 * 2 ^ (7 * i) ≤ 127 * 2 ^ (7 * i) := Int.mul_le_mul_of_nonneg_right (by omega) (Int.pow_nonneg (by decide))
      omega)
    have n4 := n4 (by omega)
    refine ⟨d % 128 + 128 * n, by omega, ?_, ?_, fun _ => by omega, ?_, n6, w2⟩
    ·have e : (2 : Int) ^ (63 - 7 * i) = 128 * 2 ^ (63 - 7 * (i + 1)) := by
      rw [show 63 - 7 * i = 63 - 7 * (i + 1) + 7 by omega, Int.pow_add]
      simp only [Int.reducePow]; omega
     rw [e]; omega
    ·rw [n3, hp, Int.add_mul, Int.mul_comm 128 n, ← Int.mul_assoc, Int.add_assoc]
    ·rw [rowG_big f (by omega), show (d % 128 + 128 * n) % 128 + 128 = d by omega, show (d % 128 + 128 * n) / 128 = n by omega, hdr, n5]; rfl
   ·rw [t, cond_true] at h
    simp only [iLt_t] at t
    simp only [zpI, true_and] at h
    obtain ⟨rfl, rfl⟩ := h
    refine ⟨d, hd.1, ?_, by rw [Int.emod_eq_of_lt hd.1 t], fun hi => by have := w3 hi; omega, by rw [rowG_small f t, hdr]; rfl, w1, w2⟩
    have : (2 : Int) ^ 7 ≤ 2 ^ (63 - 7 * i) := Int.le_of_dvd (Int.pow_pos (by decide)) ⟨2 ^ (63 - 7 * i - 7), by rw [← Int.pow_add]; congr 1; omega⟩
    simp only [Int.reducePow] at this
    omega
  ·rw [w, cond_true] at h
   simp at h
theorem num_back {l : List Int} (hb : byB l = true) {v : Int} {m : Nat} (h : numG l 10 0 0 = (true, v, m)) : 0 ≤ v ∧ v < 9223372036854775808 ∧ l = rowI v ++ l.drop m ∧ m ≤ l.length := by
 obtain ⟨n, n1, n2, n3, _, n5, n6, _⟩ := num_canon hb 10 0 0 v m 10 h (by omega) (Int.le_refl 0) (by decide)
 obtain rfl : v = n := by rw [n3]; simp
 exact ⟨n1, by simpa using n2, n5, n6⟩
theorem rowG_byB : ∀ (f : Nat) (n : Int), 0 ≤ n → byB (rowG f n) = true
 | 0, _, _ => rfl
 | f + 1, n, h => by
  by_cases hn : n < 128
  ·rw [rowG_small f hn, byB_iff]; simp; omega
  ·have ih := rowG_byB f (n / 128) (by omega)
   rw [byB_iff] at ih
   rw [rowG_big f (by omega), byB_iff]
   intro x hx
   rcases List.mem_cons.1 hx with rfl | hx
   ·omega
   ·exact ih x hx
theorem by_isH (m : Nat → Int) (h : oo.isH (AV m) = true) : byB (tabI m 32) = true := by
 have e : oo.isH (AV m) = isHa (AV m) := by kernel_rfl
 rw [e] at h
 unfold isHa at h
 rw [zaT] at h
 have h2 := h.2
 unfold AV at h2
 generalize tabI m 32 = l at h2 ⊢
 rw [byB_iff]
 intro x hx
 have := List.all_eq_true.1 h2 (.int .u8 x) (List.mem_map.2 ⟨x, hx, rfl⟩)
 simpa [byteV] using this
theorem byB_row {R : OB} (hr : R = bO) {n : Int} (h : 0 ≤ n) : byB (R.row n) = true := by
 subst hr; exact rowG_byB 10 n h
end Go.Proofs.Ytaohpdhhbnempaa
