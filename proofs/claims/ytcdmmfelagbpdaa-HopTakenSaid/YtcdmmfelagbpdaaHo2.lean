/- Contracts: corsnedref01's Coins, Add, parts, Part at millionths. -/
import Derived.Test.YtcdmmfelagbpdaaHo1
import Derived.Lib.QuoteBits
namespace Go.Proofs.Ytcdmmfelagbpdaa
open Go.RowKit Go.Lib Ckp
set_option linter.unusedVariables false
set_option linter.unusedSimpArgs false
theorem rcoins_any (a : Int) (w : World) : Calls Try.prog 80 #[.int .i64 a] w fun e w' => e = .returned (.bool (inn a 0 1125899906842624)) ∧ w = w' := by
 go_enter Try.func80, Try.ntmps80
 go_wp2
 all_goals go_ret
 all_goals exact ⟨by first | (simp_all [inn]; done) | (simp_all [inn]; intros; omega), rfl⟩
theorem radd01_any (x y : Int) (w : World) : Calls Try.prog 52 #[.int .i64 x, .int .i64 y] w fun e w' => e = .returned (.tuple #[.int .i64 (tadd x y).1, .bool (tadd x y).2]) ∧ w = w' := by
 have hx : inn x 0 1125899906842624 = decide (0 ≤ x ∧ x ≤ 1125899906842624) := by simp [inn]
 have hy : inn y 0 1125899906842624 = decide (0 ≤ y ∧ y ≤ 1125899906842624) := by simp [inn]
 have hz : inn (x + y) 0 1125899906842624 = decide (0 ≤ x + y ∧ x + y ≤ 1125899906842624) := by simp [inn]
 by_cases h1 : 0 ≤ x ∧ x ≤ 1125899906842624
 ·by_cases h2 : 0 ≤ y ∧ y ≤ 1125899906842624
  ·by_cases h3 : x + y ≤ 1125899906842624
   ·have e : tadd x y = (x + y, true) := by unfold tadd; rw [if_pos ⟨h1, h2, h3⟩]
    rw [e]
    rw [decide_eq_true h1] at hx; rw [decide_eq_true h2] at hy; rw [decide_eq_true (by omega)] at hz
    clear e
    go_enter Try.func52, Try.ntmps52
    go_wp2_with (go_at_call 80; refine (rcoins_any _ _).mono ?_; rintro e w' ⟨rfl, rfl⟩)
    go_ret2
    exact ⟨rfl, rfl⟩
   ·have e : tadd x y = (0, false) := by unfold tadd; rw [if_neg (fun h => h3 h.2.2)]
    rw [e]
    rw [decide_eq_true h1] at hx; rw [decide_eq_true h2] at hy; rw [decide_eq_false (by omega)] at hz
    clear e
    go_enter Try.func52, Try.ntmps52
    go_wp2_with (go_at_call 80; refine (rcoins_any _ _).mono ?_; rintro e w' ⟨rfl, rfl⟩)
    go_ret2
    exact ⟨rfl, rfl⟩
  ·have e : tadd x y = (0, false) := by unfold tadd; rw [if_neg (fun h => h2 h.2.1)]
   rw [e]
   rw [decide_eq_true h1] at hx; rw [decide_eq_false h2] at hy
   clear e hz
   go_enter Try.func52, Try.ntmps52
   go_wp2_with (go_at_call 80; refine (rcoins_any _ _).mono ?_; rintro e w' ⟨rfl, rfl⟩)
   go_ret2
   exact ⟨rfl, rfl⟩
 ·have e : tadd x y = (0, false) := by unfold tadd; rw [if_neg (fun h => h1 h.1)]
  rw [e]
  rw [decide_eq_false h1] at hx
  clear e hy hz
  go_enter Try.func52, Try.ntmps52
  go_wp2_with (go_at_call 80; refine (rcoins_any _ _).mono ?_; rintro e w' ⟨rfl, rfl⟩)
  go_ret2
  exact ⟨rfl, rfl⟩
/-! The reference's way: binary digit by binary digit. -/
/-- q and r behind the digits of a above place k (k - 1 the next one). -/
def Bd (a n q r : Int) (k : Nat) : Prop := q * 1000000 + r = a / (2 ^ k : Nat) * n
theorem bd_step {a n q r : Int} {k : Nat} (ha : 0 ≤ a) (h : Bd a n q r (k + 1)) (b : Int) (hb : b = a / (2 ^ k : Nat) % 2) :
  (2 * q + 2 * r / 1000000 + b * (n / 1000000) + (2 * r % 1000000 + b * (n % 1000000)) / 1000000) * 1000000 + (2 * r % 1000000 + b * (n % 1000000)) % 1000000 = a / (2 ^ k : Nat) * n := by
 unfold Bd at h
 have e1 : a / (2 ^ k : Nat) = 2 * (a / (2 ^ (k + 1) : Nat)) + b := by
  have : a / (2 ^ (k + 1) : Nat) = a / (2 ^ k : Nat) / 2 := by
   rw [Int.ediv_ediv_of_nonneg (Int.natCast_nonneg _), Nat.pow_succ, Int.natCast_mul]; rfl
  omega
 have e2 := Int.emod_add_mul_ediv (2 * r) 1000000
 have e3 := Int.emod_add_mul_ediv n 1000000
 have e4 := Int.emod_add_mul_ediv (2 * r % 1000000 + b * (n % 1000000)) 1000000
 have e5 : (2 * (a / (2 ^ (k + 1) : Nat)) + b) * n = 2 * (q * 1000000 + r) + b * n := by rw [Int.add_mul, Int.mul_assoc, h]
 rw [e1, e5]
 have hb2 : b = 0 ∨ b = 1 := by omega
 rcases hb2 with hb2 | hb2
 ·rw [hb2] at e4 ⊢; simp only [Int.zero_mul, Int.add_zero] at e4 ⊢; omega
 ·rw [hb2] at e4 ⊢; simp only [Int.one_mul] at e4 ⊢; omega
theorem bd_over {a n q r : Int} {k : Nat} (ha : 0 ≤ a) (hn : 0 ≤ n) (h : Bd a n q r k) (hr : 0 ≤ r) (hq : 1125899906842624 < q) : hpart a n = (0, false) := by
 unfold hpart
 rw [if_neg]
 rintro ⟨h1, h2, h3⟩
 unfold Bd at h
 have h4 : a / (2 ^ k : Nat) * n ≤ a * n := Int.mul_le_mul_of_nonneg_right (Int.ediv_le_self _ ha) hn
 have h5 : a * n < (1125899906842624 + 1) * 1000000 := by
  have := Int.lt_ediv_add_one_mul_self (a * n) (show (0 : Int) < 1000000 by omega)
  have h6 : a * n / 1000000 + 1 ≤ 1125899906842624 + 1 := by omega
  have := Int.mul_le_mul_of_nonneg_right h6 (show (0 : Int) ≤ 1000000 by omega)
  omega
 omega
theorem bd_end {a n q r : Int} (ha : 0 ≤ a ∧ a ≤ 1125899906842624) (hn : 0 ≤ n) (h : Bd a n q r 0) (hr : 0 ≤ r) (hr2 : r < 1000000) (hq : q ≤ 1125899906842624) : hpart a n = (q, true) := by
 unfold Bd at h
 have e : a * n / 1000000 = q := by
  have h1 : a / ((2 ^ 0 : Nat) : Int) = a := by simp
  rw [h1] at h
  rw [← h]; omega
 unfold hpart
 rw [e, if_pos ⟨ha, hn, hq⟩]
theorem bd_step1 {a n q r : Int} {k : Nat} (ha : 0 ≤ a) (h : Bd a n q r (k + 1)) (hb : a / (2 ^ k : Nat) % 2 = 1) :
  Bd a n (2 * q + 2 * r / 1000000 + n / 1000000 + (2 * r % 1000000 + n % 1000000) / 1000000) ((2 * r % 1000000 + n % 1000000) % 1000000) k := by
 have := bd_step ha h 1 hb.symm
 simpa only [Bd, Int.one_mul] using this
theorem bd_step0 {a n q r : Int} {k : Nat} (ha : 0 ≤ a) (h : Bd a n q r (k + 1)) (hb : a / (2 ^ k : Nat) % 2 = 0) :
  Bd a n (2 * q + 2 * r / 1000000 + 2 * r % 1000000 / 1000000) (2 * r % 1000000 % 1000000) k := by
 have := bd_step ha h 0 hb.symm
 simpa only [Bd, Int.zero_mul, Int.add_zero] using this
theorem and1_i64 (X : Nat) (hX : X < 9223372036854775808) : bits .and .i64 (X : Int) 1 = ((X % 2 : Nat) : Int) := by
 show IntKind.i64.wrap ((BitVec.ofInt 64 (X : Int) &&& BitVec.ofInt 64 ((1 : Nat) : Int)).toNat : Int) = _
 rw [BitVec.toNat_and, ofInt_u64 X (by omega), ofInt_u64 1 (by omega), Nat.and_one_is_mod]
 have h : X % 2 = 0 ∨ X % 2 = 1 := by omega
 rcases h with h | h <;> rw [h] <;> decide
theorem digit {a : Int} (ha : 0 ≤ a) (ha2 : a ≤ 1125899906842624) (k : Nat) : bits .and .i64 (a / 2 ^ k) 1 = a / ((2 ^ k : Nat) : Int) % 2 := by
 obtain ⟨A, rfl⟩ : ∃ A : Nat, a = (A : Int) := ⟨a.toNat, by omega⟩
 have e : (A : Int) / 2 ^ k = ((A / 2 ^ k : Nat) : Int) := by rw [Int.natCast_ediv, Int.natCast_pow]; rfl
 have h := Nat.div_le_self A (2 ^ k)
 rw [e, and1_i64 _ (by omega), ← Int.natCast_ediv]; rfl
def SomeR (x : Int) (ok : Bool) (w : World) (e : Ending) (w' : World) : Prop := (∃ r : Int, e = .returned (.tuple #[.int .i64 x, .int .i64 r, .bool ok])) ∧ w = w'
set_option maxRecDepth 100000 in
set_option maxHeartbeats 1000000 in
theorem rparts_any (a n : Int) (hn : n ≤ 9223372036854775807) (w : World) : Calls Try.prog 79 #[.int .i64 a, .int .i64 n, .int .i64 1000000] w (SomeR (hpart a n).1 (hpart a n).2 w) := by
 have hC : inn a 0 1125899906842624 = decide (0 ≤ a ∧ a ≤ 1125899906842624) := by simp [inn]
 by_cases h1 : 0 ≤ a ∧ a ≤ 1125899906842624
 ·rw [decide_eq_true h1] at hC
  by_cases h2 : 0 ≤ n
  ·obtain ⟨h1a, h1b⟩ := h1
   go_enter Try.func79, Try.ntmps79
   go_wp2_with (go_at_call 80; refine (rcoins_any _ _).mono ?_; rintro e w' ⟨rfl, rfl⟩)
   go_loop [9, 10, 13] (fun qv rv kv => ∃ (q r k : Int), 0 ≤ q ∧ q ≤ 1125899906842624 ∧ 0 ≤ r ∧ r < 1000000 ∧ -1 ≤ k ∧ k ≤ 50 ∧ Bd a n q r (k + 1).toNat ∧ qv = .int .u64 q ∧ rv = .int .u64 r ∧ kv = .int .i64 k) (fun _ _ kv => (intOf kv + 1).toNat)
   case atStart =>
    refine ⟨0, 0, 50, by omega, by omega, by omega, by omega, by omega, by omega, ?_, rfl, rfl, rfl⟩
    unfold Bd
    have : a / ((2 ^ (51 : Nat) : Nat) : Int) = 0 := Int.ediv_eq_zero_of_lt h1a (Int.lt_of_le_of_lt h1b (by decide))
    show (0 : Int) * 1000000 + 0 = a / ((2 ^ (51 : Nat) : Nat) : Int) * n
    rw [this]; simp
   case round =>
    obtain ⟨q, r, k, hq0, hq1, hr0, hr1, hk0, hk1, hbd, rfl, rfl, rfl⟩ := hrel
    by_cases hk : 0 ≤ k
    ·have hd := digit h1a h1b k.toNat
     have hb := hbd
     have ek : (k + 1).toNat = k.toNat + 1 := by omega
     rw [ek] at hb
     have hr3 : 0 ≤ (2 * r % 1000000 + n % 1000000) % 1000000 ∧ (2 * r % 1000000 + n % 1000000) % 1000000 < 1000000 := by omega
     have hr4 : 0 ≤ 2 * r % 1000000 % 1000000 ∧ 2 * r % 1000000 % 1000000 < 1000000 := by omega
     have em : (k - 1 + 1).toNat = k.toNat := by omega
     have hdd : a / ((2 ^ k.toNat : Nat) : Int) % 2 = 1 ∨ a / ((2 ^ k.toNat : Nat) : Int) % 2 = 0 := by omega
     have HE := Lib.hid (And.intro em (And.intro hr3 hr4))
     clear ek em hr3 hr4 hbd
     rcases hdd with hdd | hdd
     ·have hs := bd_step1 h1a hb hdd
      have hbit : (bits .and .i64 (a / 2 ^ k.toNat) 1 == 1) = true := by rw [hd, hdd]; rfl
      have HS := Lib.hid hs
      have HO := Lib.hid (fun hq => bd_over h1a h2 hs HE.out.2.1.1 hq)
      clear hb hd hdd hs
      go_wp2_with fail
      ·go_ret3
       exact ⟨⟨0, by rw [HO.out (by assumption)]; first | done | rfl⟩, rfl⟩
      ·go_round
       case rel => exact ⟨_, _, k - 1, by omega, by assumption, HE.out.2.1.1, HE.out.2.1.2, by omega, by omega, by rw [HE.out.1]; exact HS.out, rfl, rfl, rfl⟩
       case measure => simp [intOf]; omega
     ·have hs := bd_step0 h1a hb hdd
      have hbit : (bits .and .i64 (a / 2 ^ k.toNat) 1 == 1) = false := by rw [hd, hdd]; rfl
      have HS := Lib.hid hs
      have HO := Lib.hid (fun hq => bd_over h1a h2 hs HE.out.2.2.1 hq)
      clear hb hd hdd hs
      go_wp2_with fail
      ·go_ret3
       exact ⟨⟨0, by rw [HO.out (by assumption)]; first | done | rfl⟩, rfl⟩
      ·go_round
       case rel => exact ⟨_, _, k - 1, by omega, by assumption, HE.out.2.2.1, HE.out.2.2.2, by omega, by omega, by rw [HE.out.1]; exact HS.out, rfl, rfl, rfl⟩
       case measure => simp [intOf]; omega
    ·have e0 : (k + 1).toNat = 0 := by omega
     rw [e0] at hbd
     have hp := bd_end ⟨h1a, h1b⟩ h2 hbd hr0 hr1 hq1
     have HP := Lib.hid hp
     clear e0 hp hbd
     go_wp2_with fail
     go_ret3
     exact ⟨⟨r, by rw [HP.out]; rfl⟩, rfl⟩
  ·have e : hpart a n = (0, false) := by unfold hpart; rw [if_neg (fun h => h2 h.2.1)]
   rw [e]
   clear e
   go_enter Try.func79, Try.ntmps79
   go_wp2_with (go_at_call 80; refine (rcoins_any _ _).mono ?_; rintro e w' ⟨rfl, rfl⟩)
   go_ret3
   exact ⟨⟨_, rfl⟩, rfl⟩
 ·have e : hpart a n = (0, false) := by unfold hpart; rw [if_neg (fun h => h1 h.1)]
  rw [e]
  rw [decide_eq_false h1] at hC
  clear e
  go_enter Try.func79, Try.ntmps79
  go_wp2_with (go_at_call 80; refine (rcoins_any _ _).mono ?_; rintro e w' ⟨rfl, rfl⟩)
  go_ret3
  exact ⟨⟨_, rfl⟩, rfl⟩
theorem rPart_any (a n : Int) (hn : n ≤ 9223372036854775807) (w : World) : Calls Try.prog 51 #[.int .i64 a, .int .i64 n, .int .i64 1000000] w fun e w' => e = .returned (.tuple #[.int .i64 (hpart a n).1, .bool (hpart a n).2]) ∧ w = w' := by
 have H := Lib.hid (fun w => rparts_any a n hn w)
 generalize hpart a n = p at *
 go_enter Try.func51, Try.ntmps51
 go_wp2_with (go_at_call 79; (with_reducible refine (H.out _).mono ?_); rintro e w' ⟨⟨r, rfl⟩, rfl⟩)
 go_ret2
 exact ⟨rfl, rfl⟩
end Go.Proofs.Ytcdmmfelagbpdaa
