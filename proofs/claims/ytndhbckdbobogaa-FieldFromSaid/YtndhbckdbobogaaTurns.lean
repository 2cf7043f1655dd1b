/- The walks of FieldTurns and FieldPowers. -/
import Derived.Test.YtndhbckdbobogaaRings
namespace Go.Proofs.Ytndhbckdbobogaa
open Go.RowKit Go.Lib Cfd Ckp
set_option linter.unusedVariables false

/-- What is turned. -/
@[irreducible] def fi (a : Nat) : Nat := fpow a 2305843009213688667
theorem fi_lt (a : Nat) : fi a < 2305843009213688669 := by unfold fi; exact fpow_lt _ _
theorem fi_mul {a : Nat} (h : ¬ a % 2305843009213688669 = 0) : fmul a (fi a) = 1 := by
  unfold fi fmul fpow
  rw [← Cnt.pw_succ']
  exact Cnt.fermat Cnt.prQ h
theorem fi_pow {a : Nat} (h : ¬ a % 2305843009213688669 = 0) : fpow a 2305843009213688668 = 1 := Cnt.fermat Cnt.prQ h
theorem fmul_zero {a b : Nat} (ha : ¬ a % 2305843009213688669 = 0) (hb : ¬ b % 2305843009213688669 = 0) : ¬ fmul a b = 0 := by
  intro h
  rcases Cnt.prQ.euclid (Nat.dvd_of_mod_eq_zero h) with h1 | h1
  · exact ha (Nat.mod_eq_zero_of_dvd h1)
  · exact hb (Nat.mod_eq_zero_of_dvd h1)
theorem fi_nz {a : Nat} (h : ¬ a % 2305843009213688669 = 0) : ¬ fi a % 2305843009213688669 = 0 := by
  intro h0
  have h1 := fi_mul h
  unfold fmul at h1
  rw [Nat.mul_mod, h0, Nat.mul_zero] at h1
  exact absurd h1 (by decide)
theorem fmul_cancel {a b c : Nat} (ha : ¬ a % 2305843009213688669 = 0) (h : fmul a b = fmul a c) (hb : b < 2305843009213688669) (hc : c < 2305843009213688669) : b = c := by
  have := Cnt.cancel Cnt.prQ ha h
  rwa [Nat.mod_eq_of_lt hb, Nat.mod_eq_of_lt hc] at this
theorem fi_fi {a : Nat} (h : ¬ a % 2305843009213688669 = 0) : fi (fi a) = fmul a 1 := by
  refine fmul_cancel (fi_nz h) ?_ (fi_lt _) (fmul_lt _ _)
  rw [fi_mul (fi_nz h), ← r_assoc_mul, r_comm_mul a, fi_mul h]
  rfl
theorem fi_prod {a b : Nat} (ha : ¬ a % 2305843009213688669 = 0) (hb : ¬ b % 2305843009213688669 = 0) : fi (fmul a b) = fmul (fi a) (fi b) := by
  unfold fi fmul fpow
  rw [Cnt.pw_prod]
theorem inv_yes' (a : Nat) (h : ¬ a % 2305843009213688669 = 0) (w : World) : Calls Try.prog 16 #[.int .u64 a] w fun e w' => e = .returned (.tuple #[.int .u64 (fi a : Nat), .bool true]) ∧ ∃ k, w' = w.drewN k := by
  unfold fi; exact inv_yes a h w
theorem inv_no' (a : Nat) (h : a % 2305843009213688669 = 0) (w : World) : Calls Try.prog 16 #[.int .u64 a] w fun e w' => e = .returned (.tuple #[.int .u64 0, .bool false]) ∧ ∃ k, w' = w.drewN k := inv_no a h w
theorem fmul_mod (a b : Nat) : fmul a b % 2305843009213688669 = fmul a b := Nat.mod_eq_of_lt (fmul_lt _ _)
theorem pow_q (a : Nat) (h : ¬ a % 2305843009213688669 = 0) (w : World) : Calls Try.prog 28 #[.int .u64 a, .int .u64 2305843009213688668] w fun e w' => e = .returned (.int .u64 1) ∧ ∃ k, w' = w.drewN k := by
  have hp := pow_any a 2305843009213688668 (by decide) w
  rw [fi_pow h] at hp
  exact hp

theorem inv_0 (w : World) : Calls Try.prog 16 #[.int .u64 0] w fun e w' => e = .returned (.tuple #[.int .u64 0, .bool false]) ∧ ∃ k, w' = w.drewN k := inv_no 0 rfl w
theorem mul_one_any (a : Nat) (w : World) : Calls Try.prog 24 #[.int .u64 (a : Int), .int .u64 1] w fun e w' => e = .returned (.int .u64 (fmul a 1 : Nat)) ∧ ∃ n, w' = w.drewN n := mul_any a 1 w

theorem walk_turns_00 (a b : Nat) (h1 : a % 2305843009213688669 = 0) (h2 : b % 2305843009213688669 = 0) (w : World) :
    Calls Try.prog 5 #[.int .u64 (a : Int), .int .u64 (b : Int)] w fun e w' => e = .returned (.bool true) ∧ Kp w w' := by
  have hm : fmul a b = 0 := by unfold fmul; rw [Nat.mul_mod, h1, Nat.zero_mul]
  have hz : (((a : Int) % 2305843009213688669) != 0) = false := by simp; omega
  have CA := Lib.hid (fun w => inv_no' a h1 w)
  have CB := Lib.hid (fun w => inv_no' b h2 w)
  clear h1 h2
  go_enter Try.func5, Try.ntmps5
  go_wp2_with (first
      | (go_at_call 15; refine (small5 _).mono ?_; rintro e w1 ⟨rfl, hK⟩)
      | (go_at_call 16; first | ((with_reducible refine (CA.out _).mono ?_); rintro e w' ⟨rfl, k, rfl⟩) | ((with_reducible refine (CB.out _).mono ?_); rintro e w' ⟨rfl, k, rfl⟩) | ((with_reducible refine (inv_0 _).mono ?_); rintro e w' ⟨rfl, k, rfl⟩))
      | (go_at_call 28; (with_reducible refine (pow_q a (by omega) _).mono ?_); rintro e w' ⟨rfl, k, rfl⟩)
      | (go_at_call 18; refine (right_any _ _).mono ?_; rintro e w' ⟨rfl, rfl⟩)
      | (go_at_call 24; first | ((with_reducible refine (mul_any _ _ _).mono ?_); rintro e w' ⟨rfl, k, rfl⟩) | ((with_reducible refine (mul_one_any a _).mono ?_); rintro e w' ⟨rfl, k, rfl⟩)))
  go_ret
  exact ⟨rfl, hK.drewN _⟩

theorem walk_turns_01 (a b : Nat) (h1 : a % 2305843009213688669 = 0) (h2 : ¬ b % 2305843009213688669 = 0) (w : World) :
    Calls Try.prog 5 #[.int .u64 (a : Int), .int .u64 (b : Int)] w fun e w' => e = .returned (.bool true) ∧ Kp w w' := by
  have hm : fmul a b = 0 := by unfold fmul; rw [Nat.mul_mod, h1, Nat.zero_mul]
  have hz : (((a : Int) % 2305843009213688669) != 0) = false := by simp; omega
  have CA := Lib.hid (fun w => inv_no' a h1 w)
  have CB := Lib.hid (fun w => inv_yes' b h2 w)
  clear h1 h2
  go_enter Try.func5, Try.ntmps5
  go_wp2_with (first
      | (go_at_call 15; refine (small5 _).mono ?_; rintro e w1 ⟨rfl, hK⟩)
      | (go_at_call 16; first | ((with_reducible refine (CA.out _).mono ?_); rintro e w' ⟨rfl, k, rfl⟩) | ((with_reducible refine (CB.out _).mono ?_); rintro e w' ⟨rfl, k, rfl⟩) | ((with_reducible refine (inv_0 _).mono ?_); rintro e w' ⟨rfl, k, rfl⟩))
      | (go_at_call 28; (with_reducible refine (pow_q a (by omega) _).mono ?_); rintro e w' ⟨rfl, k, rfl⟩)
      | (go_at_call 18; refine (right_any _ _).mono ?_; rintro e w' ⟨rfl, rfl⟩)
      | (go_at_call 24; first | ((with_reducible refine (mul_any _ _ _).mono ?_); rintro e w' ⟨rfl, k, rfl⟩) | ((with_reducible refine (mul_one_any a _).mono ?_); rintro e w' ⟨rfl, k, rfl⟩)))
  go_ret
  exact ⟨rfl, hK.drewN _⟩

theorem walk_turns_10 (a b : Nat) (h1 : ¬ a % 2305843009213688669 = 0) (h2 : b % 2305843009213688669 = 0) (w : World) :
    Calls Try.prog 5 #[.int .u64 (a : Int), .int .u64 (b : Int)] w fun e w' => e = .returned (.bool true) ∧ Kp w w' := by
  have hm : fmul a b = 0 := by unfold fmul; rw [Nat.mul_mod, h2, Nat.mul_zero]
  have hz : (((a : Int) % 2305843009213688669) != 0) = true := by simp; omega
  have CA := Lib.hid (fun w => inv_yes' a h1 w)
  have CX := Lib.hid (fun w => inv_yes' (fi a) (fi_nz h1) w)
  have CP := Lib.hid (fun w => pow_q a h1 w)
  have CB := Lib.hid (fun w => inv_no' b h2 w)
  have e1 := fi_mul h1
  have e2 := fi_fi h1
  have e3 := r_right (fi_lt a)
  clear h1 h2
  go_enter Try.func5, Try.ntmps5
  go_wp2_with (first
      | (go_at_call 15; refine (small5 _).mono ?_; rintro e w1 ⟨rfl, hK⟩)
      | (go_at_call 16; first | ((with_reducible refine (CA.out _).mono ?_); rintro e w' ⟨rfl, k, rfl⟩) | ((with_reducible refine (CX.out _).mono ?_); rintro e w' ⟨rfl, k, rfl⟩) | ((with_reducible refine (CB.out _).mono ?_); rintro e w' ⟨rfl, k, rfl⟩) | ((with_reducible refine (inv_0 _).mono ?_); rintro e w' ⟨rfl, k, rfl⟩))
      | (go_at_call 28; (with_reducible refine (CP.out _).mono ?_); rintro e w' ⟨rfl, k, rfl⟩)
      | (go_at_call 18; refine (right_any _ _).mono ?_; rintro e w' ⟨rfl, rfl⟩)
      | (go_at_call 24; first | ((with_reducible refine (mul_any _ _ _).mono ?_); rintro e w' ⟨rfl, k, rfl⟩) | ((with_reducible refine (mul_one_any a _).mono ?_); rintro e w' ⟨rfl, k, rfl⟩)))
  go_ret
  exact ⟨rfl, hK.drewN _⟩

theorem walk_turns_11 (a b : Nat) (h1 : ¬ a % 2305843009213688669 = 0) (h2 : ¬ b % 2305843009213688669 = 0) (w : World) :
    Calls Try.prog 5 #[.int .u64 (a : Int), .int .u64 (b : Int)] w fun e w' => e = .returned (.bool true) ∧ Kp w w' := by
  have hm : ((fmul a b : Int) == 0) = false := by have := fmul_zero h1 h2; simp; omega
  have hm' : ¬ fmul a b = 0 := fmul_zero h1 h2
  have hz : (((a : Int) % 2305843009213688669) != 0) = true := by simp; omega
  have hmz : ¬ fmul a b % 2305843009213688669 = 0 := by rw [fmul_mod]; exact fmul_zero h1 h2
  have CA := Lib.hid (fun w => inv_yes' a h1 w)
  have CX := Lib.hid (fun w => inv_yes' (fi a) (fi_nz h1) w)
  have CP := Lib.hid (fun w => pow_q a h1 w)
  have CB := Lib.hid (fun w => inv_yes' b h2 w)
  have CZ := Lib.hid (fun w => inv_yes' (fmul a b) hmz w)
  have e1 := fi_mul h1
  have e2 := fi_fi h1
  have e3 := r_right (fi_lt a)
  have e4 := fi_prod h1 h2
  clear h1 h2 hmz
  go_enter Try.func5, Try.ntmps5
  go_wp2_with (first
      | (go_at_call 15; refine (small5 _).mono ?_; rintro e w1 ⟨rfl, hK⟩)
      | (go_at_call 16; first | ((with_reducible refine (CA.out _).mono ?_); rintro e w' ⟨rfl, k, rfl⟩) | ((with_reducible refine (CX.out _).mono ?_); rintro e w' ⟨rfl, k, rfl⟩) | ((with_reducible refine (CB.out _).mono ?_); rintro e w' ⟨rfl, k, rfl⟩) | ((with_reducible refine (CZ.out _).mono ?_); rintro e w' ⟨rfl, k, rfl⟩))
      | (go_at_call 28; (with_reducible refine (CP.out _).mono ?_); rintro e w' ⟨rfl, k, rfl⟩)
      | (go_at_call 18; refine (right_any _ _).mono ?_; rintro e w' ⟨rfl, rfl⟩)
      | (go_at_call 24; first | ((with_reducible refine (mul_any _ _ _).mono ?_); rintro e w' ⟨rfl, k, rfl⟩) | ((with_reducible refine (mul_one_any a _).mono ?_); rintro e w' ⟨rfl, k, rfl⟩)))
  go_ret
  exact ⟨rfl, hK.drewN _⟩

theorem walk_turns (a : Nat) (ha : a < 18446744073709551616) (b : Nat) (hb : b < 18446744073709551616) (w : World) :
    Calls Try.prog 5 #[.int .u64 (a : Int), .int .u64 (b : Int)] w fun e w' => e = .returned (.bool true) ∧ Kp w w' := by
  by_cases h1 : a % 2305843009213688669 = 0
  · by_cases h2 : b % 2305843009213688669 = 0
    · exact walk_turns_00 a b h1 h2 w
    · exact walk_turns_01 a b h1 h2 w
  · by_cases h2 : b % 2305843009213688669 = 0
    · exact walk_turns_10 a b h1 h2 w
    · exact walk_turns_11 a b h1 h2 w

theorem p_add (a x y : Nat) : fmul (fpow a x) (fpow a y) = fpow a (x + y) := Cnt.pw_add _ _ _ _
theorem p_mul (a x y : Nat) : fpow (fpow a x) y = fpow a (x * y) := Cnt.pw_mul _ _ _ _
theorem p_prod (a b x : Nat) : fpow (fmul a b) x = fmul (fpow a x) (fpow b x) := Cnt.pw_prod _ _ _ _
theorem pow_one_any (a : Nat) (w : World) : Calls Try.prog 28 #[.int .u64 (a : Int), .int .u64 1] w fun e w' => e = .returned (.int .u64 (fmul a 1 : Nat)) ∧ ∃ n, w' = w.drewN n := by
  have h := pow_any a 1 (by decide) w
  rw [show fpow a 1 = fmul a 1 from by unfold fpow fmul; rw [Cnt.pw_one, Nat.mul_one]] at h
  exact h
theorem pow_zero_any (a : Nat) (w : World) : Calls Try.prog 28 #[.int .u64 (a : Int), .int .u64 0] w fun e w' => e = .returned (.int .u64 1) ∧ ∃ n, w' = w.drewN n := by
  have h := pow_any a 0 (by decide) w
  rw [show fpow a 0 = 1 from Cnt.pw_zero _ _ (by decide)] at h
  exact h
theorem walk_powers (a : Nat) (ha : a < 18446744073709551616) (b : Nat) (hb : b < 18446744073709551616) (n : Nat) (hn : n < 4294967296) (m : Nat) (hm : m < 4294967296) (w : World) :
    Calls Try.prog 6 #[.int .u64 (a : Int), .int .u64 (b : Int), .int .u32 (n : Int), .int .u32 (m : Int)] w fun e w' => e = .returned (.bool true) ∧ Kp w w' := by
  obtain ⟨s, hs⟩ : ∃ s, s = n + m := ⟨_, rfl⟩
  obtain ⟨t, ht⟩ : ∃ t, t = n * m := ⟨_, rfl⟩
  have htl : t < 18446744073709551616 := by
    have : n * m ≤ 4294967295 * 4294967295 := Nat.mul_le_mul (by omega) (by omega)
    omega
  have hsl : s < 18446744073709551616 := by omega
  have e1 : (n : Int) + (m : Int) = (s : Int) := by omega
  have e2 : (n : Int) * (m : Int) = (t : Int) := by rw [ht, Int.natCast_mul]
  have h1 := p_add a n m
  have h2 := p_mul a n m
  have h3 := p_prod a b n
  rw [← hs] at h1
  rw [← ht] at h2
  have HS := Lib.hid hs
  have HT := Lib.hid ht
  clear hs ht
  go_enter Try.func6, Try.ntmps6
  go_wp2_with (first
    | (go_at_call 15; refine (small5 _).mono ?_; rintro e w1 ⟨rfl, hK⟩)
    | (go_at_call 28; first | ((with_reducible refine (pow_any _ _ (by omega) _).mono ?_); rintro e w' ⟨rfl, k, rfl⟩) | ((with_reducible refine (pow_one_any _ _).mono ?_); rintro e w' ⟨rfl, k, rfl⟩) | ((with_reducible refine (pow_zero_any _ _).mono ?_); rintro e w' ⟨rfl, k, rfl⟩))
    | (go_at_call 24; first | ((with_reducible refine (mul_any _ _ _).mono ?_); rintro e w' ⟨rfl, k, rfl⟩) | ((with_reducible refine (mul_one_any a _).mono ?_); rintro e w' ⟨rfl, k, rfl⟩)))
  go_ret
  exact ⟨rfl, hK.drewN _⟩
end Go.Proofs.Ytndhbckdbobogaa
