/- Contracts: num.Part at millionths, and its reference (printed by genHn.py out of Ho1). -/
import Derived.Test.YtcdmmfelagbpdaaGreatHo0
import Derived.Test.YtcdmmfelagbpdaaGreatRef06
import Derived.Test.YtcdmmfelagbpdaaGreatArgs
import Derived.WalkSmall
namespace Go.Proofs.YtcdmmfelagbpdaaGreat
open Go.RowKit Go.Lib Ckp
set_option linter.unusedVariables false
set_option linter.unusedSimpArgs false
def inn (n lo hi : Int) : Bool := decide (lo ≤ n) && decide (n ≤ hi)
theorem coins_any (a : Int) (w : World) : Calls Tryz.prog 56 #[.int .i64 a] w fun e w' => e = .returned (.bool (inn a 0 1125899906842624)) ∧ w = w' := by
 go_enter Tryz.func56, Tryz.ntmps56
 go_wp2
 all_goals go_ret
 all_goals exact ⟨by first | (simp_all [inn]; done) | (simp_all [inn]; intros; omega), rfl⟩
theorem div_m (hi lo : Nat) (hlo : lo < 18446744073709551616) (hhi : hi < 1000000) (w : World) :
  Calls Tryz.prog 83 #[.int .u64 hi, .int .u64 lo, .int .u64 1000000] w fun e w' => e = .returned (.tuple #[.int .u64 (((hi * 18446744073709551616 + lo) / 1000000 : Nat) : Int), .int .u64 (((hi * 18446744073709551616 + lo) % 1000000 : Nat) : Int)]) ∧ ∃ n, w' = w.drewN n := by
 by_cases h : hi = 0
 ·subst h
  have := div64_0 lo 1000000 hlo (by decide) (by decide) w
  simpa using this
 ·exact div64_44 hi lo 1000000 (by omega) hlo hhi (by decide) (by decide) lz_m w
def hpart (a n : Int) : Int × Bool := if (0 ≤ a ∧ a ≤ 1125899906842624) ∧ 0 ≤ n ∧ a * n / 1000000 ≤ 1125899906842624 then (a * n / 1000000, true) else (0, false)
def SomeL (x : Int) (ok : Bool) (w : World) (e : Ending) (w' : World) : Prop := (∃ L : Bool, e = .returned (.tuple #[.int .i64 x, .bool L, .bool ok])) ∧ ∃ k, w' = w.drewN k
theorem part_key (a n : Int) (h1 : 0 ≤ a ∧ a ≤ 1125899906842624) (h2 : 0 ≤ n) (hn : n ≤ 9223372036854775807) : ∃ X Y : Int,
  (∀ w : World, Calls Tryz.prog 82 #[.int .u64 a, .int .u64 n] w fun e w' => e = .returned (.tuple #[.int .u64 X, .int .u64 Y]) ∧ w = w') ∧
  (X < 1000000 → ∃ Q R : Int, 0 ≤ Q ∧ hpart a n = (if Q ≤ 1125899906842624 then (Q, true) else (0, false)) ∧ ∀ w : World, Calls Tryz.prog 83 #[.int .u64 X, .int .u64 Y, .int .u64 1000000] w fun e w' => e = .returned (.tuple #[.int .u64 Q, .int .u64 R]) ∧ ∃ k, w' = w.drewN k) ∧
  (¬ X < 1000000 → hpart a n = (0, false)) := by
 obtain ⟨A, rfl⟩ : ∃ A : Nat, a = (A : Int) := ⟨a.toNat, by omega⟩
 obtain ⟨N, rfl⟩ : ∃ N : Nat, n = (N : Int) := ⟨n.toNat, by omega⟩
 have hmul : (A : Int) * (N : Int) / 1000000 = ((A * N / 1000000 : Nat) : Int) := by rw [← Int.natCast_mul, Int.natCast_ediv]; rfl
 have hsum := Nat.div_add_mod' (A * N) 18446744073709551616
 have hlo := Nat.mod_lt (A * N) (show 18446744073709551616 > 0 by decide)
 have hspec : hpart (A : Int) (N : Int) = if A * N / 1000000 ≤ 1125899906842624 then (((A * N / 1000000 : Nat) : Int), true) else (0, false) := by
  unfold hpart
  rw [hmul]
  by_cases h : A * N / 1000000 ≤ 1125899906842624
  ·rw [if_pos ⟨h1, h2, by omega⟩, if_pos h]
  ·rw [if_neg (fun hh => h (by have := hh.2.2; omega)), if_neg h]
 refine ⟨_, _, fun w => mul64_any A N (by omega) (by omega) w, fun h3 => ?_, fun h3 => ?_⟩
 ·have hD := fun w => div_m (A * N / 18446744073709551616) (A * N % 18446744073709551616) hlo (by omega) w
  rw [hsum] at hD
  refine ⟨_, _, Int.natCast_nonneg _, ?_, hD⟩
  rw [hspec]
  by_cases h : A * N / 1000000 ≤ 1125899906842624
  ·rw [if_pos h, if_pos (by omega)]
  ·rw [if_neg h, if_neg (by omega)]
 ·rw [hspec, if_neg]
  intro h
  have : A * N < 1125899906842625 * 1000000 := by rw [← Nat.div_lt_iff_lt_mul (by decide)]; omega
  omega
set_option maxRecDepth 100000 in
set_option maxHeartbeats 1000000 in
theorem npart_any (a n : Int) (hn : n ≤ 9223372036854775807) (w : World) : Calls Tryz.prog 55 #[.int .i64 a, .int .i64 n, .int .i64 1000000] w (SomeL (hpart a n).1 (hpart a n).2 w) := by
 have hC : inn a 0 1125899906842624 = decide (0 ≤ a ∧ a ≤ 1125899906842624) := by simp [inn]
 by_cases h1 : 0 ≤ a ∧ a ≤ 1125899906842624
 ·rw [decide_eq_true h1] at hC
  by_cases h2 : 0 ≤ n
  ·obtain ⟨X, Y, hM, hyes, hno⟩ := part_key a n h1 h2 hn
   have HM := Lib.hid hM
   obtain ⟨h1a, h1b⟩ := h1
   clear hM
   by_cases h3 : X < 1000000
   ·obtain ⟨Q, R, hQ, hs, hD⟩ := hyes h3
    have HD := Lib.hid hD
    rw [hs]
    clear hyes hno hD hs
    by_cases h4 : Q ≤ 1125899906842624
    ·rw [if_pos h4]
     go_enter Tryz.func55, Tryz.ntmps55
     go_wp2_with (first
      | (go_at_call 56; refine (coins_any _ _).mono ?_; rintro e w' ⟨rfl, rfl⟩)
      | (go_at_call 82; (with_reducible refine (HM.out _).mono ?_); rintro e w' ⟨rfl, rfl⟩)
      | (go_at_call 83; (with_reducible refine (HD.out _).mono ?_); rintro e w' ⟨rfl, k, rfl⟩))
     go_ret3
     exact ⟨⟨_, rfl⟩, _, rfl⟩
    ·rw [if_neg h4]
     go_enter Tryz.func55, Tryz.ntmps55
     go_wp2_with (first
      | (go_at_call 56; refine (coins_any _ _).mono ?_; rintro e w' ⟨rfl, rfl⟩)
      | (go_at_call 82; (with_reducible refine (HM.out _).mono ?_); rintro e w' ⟨rfl, rfl⟩)
      | (go_at_call 83; (with_reducible refine (HD.out _).mono ?_); rintro e w' ⟨rfl, k, rfl⟩))
     go_ret3
     exact ⟨⟨_, rfl⟩, _, rfl⟩
   ·rw [hno h3]
    clear hyes hno
    go_enter Tryz.func55, Tryz.ntmps55
    go_wp2_with (first
     | (go_at_call 56; refine (coins_any _ _).mono ?_; rintro e w' ⟨rfl, rfl⟩)
     | (go_at_call 82; (with_reducible refine (HM.out _).mono ?_); rintro e w' ⟨rfl, rfl⟩))
    go_ret3
    exact ⟨⟨_, rfl⟩, 0, rfl⟩
  ·have e : hpart a n = (0, false) := by unfold hpart; rw [if_neg (fun h => h2 h.2.1)]
   rw [e]
   clear e
   go_enter Tryz.func55, Tryz.ntmps55
   go_wp2_with (go_at_call 56; refine (coins_any _ _).mono ?_; rintro e w' ⟨rfl, rfl⟩)
   go_ret3
   exact ⟨⟨_, rfl⟩, 0, rfl⟩
 ·have e : hpart a n = (0, false) := by unfold hpart; rw [if_neg (fun h => h1 h.1)]
  rw [e]
  rw [decide_eq_false h1] at hC
  clear e
  go_enter Tryz.func55, Tryz.ntmps55
  go_wp2_with (go_at_call 56; refine (coins_any _ _).mono ?_; rintro e w' ⟨rfl, rfl⟩)
  go_ret3
  exact ⟨⟨_, rfl⟩, 0, rfl⟩
theorem nPart_any (a n : Int) (hn : n ≤ 9223372036854775807) (w : World) : Calls Tryz.prog 24 #[.int .i64 a, .int .i64 n, .int .i64 1000000] w fun e w' => e = .returned (.tuple #[.int .i64 (hpart a n).1, .bool (hpart a n).2]) ∧ ∃ k, w' = w.drewN k := by
 have H := Lib.hid (fun w => npart_any a n hn w)
 generalize hpart a n = p at *
 go_enter Tryz.func24, Tryz.ntmps24
 go_wp2_with (go_at_call 55; (with_reducible refine (H.out _).mono ?_); rintro e w' ⟨⟨L, rfl⟩, k, rfl⟩)
 go_ret2
 exact ⟨rfl, k, rfl⟩
end Go.Proofs.YtcdmmfelagbpdaaGreat
