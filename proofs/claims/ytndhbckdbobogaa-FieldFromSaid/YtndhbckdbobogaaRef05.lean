/- Contracts of the reference of layer 5: it computes what Fd says. -/
import Derived.Test.YtndhbckdbobogaaTurns
namespace Go.Proofs.Ytndhbckdbobogaa
open Go.RowKit Go.Lib Cfd Ckp
set_option linter.unusedVariables false

theorem rright_any (a : Nat) (w : World) : Calls Try.prog 19 #[.int .u64 a] w fun e w' => e = .returned (.bool (fright a)) ∧ w = w' := by
  have e1 : decide ((a : Int) < 2305843009213688669) = fright a := by unfold fright; simp only [decide_eq_decide]; omega
  go_enter Try.func19, Try.ntmps19
  go_wp2
  go_ret
  exact ⟨rfl, rfl⟩
theorem rof_any (a : Nat) (w : World) : Calls Try.prog 48 #[.int .u64 a] w fun e w' => e = .returned (.int .u64 (fof a : Nat)) ∧ w = w' := by
  have e1 : (a : Int) % 2305843009213688669 = (fof a : Nat) := (Int.natCast_emod _ _).symm
  go_enter Try.func48, Try.ntmps48
  go_wp2
  go_ret
  exact ⟨rfl, rfl⟩
theorem rneg_any (a : Nat) (w : World) : Calls Try.prog 27 #[.int .u64 a] w fun e w' => e = .returned (.int .u64 (fneg a : Nat)) ∧ w = w' := by
  have hl := fof_lt a
  have e1 : (2305843009213688669 - (fof a : Int)) % 2305843009213688669 = (fneg a : Nat) := by unfold fneg fof; omega
  go_enter Try.func27, Try.ntmps27
  go_wp2_with (go_at_call 48; refine (rof_any _ _).mono ?_; rintro e w' ⟨rfl, rfl⟩)
  go_ret
  exact ⟨ret_int e1, rfl⟩
theorem radd_any (a b : Nat) (w : World) : Calls Try.prog 21 #[.int .u64 a, .int .u64 b] w fun e w' => e = .returned (.int .u64 (fadd a b : Nat)) ∧ w = w' := by
  have hl := fof_lt a
  have hm := fof_lt b
  have e1 : ((fof a : Int) + (fof b : Int)) % 2305843009213688669 = (fadd a b : Nat) := by unfold fadd fof; omega
  have hf := fadd_lt a b
  go_enter Try.func21, Try.ntmps21
  go_wp2_with (first | (go_at_call 48; refine (rof_any _ _).mono ?_; rintro e w' ⟨rfl, rfl⟩))
  go_ret
  exact ⟨ret_int e1, rfl⟩
theorem rsub_any (a b : Nat) (w : World) : Calls Try.prog 23 #[.int .u64 a, .int .u64 b] w fun e w' => e = .returned (.int .u64 (fsub a b : Nat)) ∧ w = w' := by
  go_enter Try.func23, Try.ntmps23
  go_wp2_with (first | (go_at_call 27; refine (rneg_any _ _).mono ?_; rintro e w' ⟨rfl, rfl⟩) | (go_at_call 21; refine (radd_any _ _ _).mono ?_; rintro e w' ⟨rfl, rfl⟩))
  go_ret
  exact ⟨rfl, rfl⟩

/-- Doubling. -/
theorem dbl_odd (o x y : Nat) (h : y % 2 = 1) : fadd (fadd o x) (fmul (fadd x x) (y / 2)) = fadd o (fmul x y) := by
  have e : x * y = (x + x) * (y / 2) + x := by
    have e1 : y = 2 * (y / 2) + 1 := by omega
    generalize y / 2 = z at *
    subst e1
    rw [Nat.mul_add, Nat.mul_one, ← Nat.two_mul, ← Nat.mul_assoc, Nat.mul_comm x 2]
  unfold fadd fmul
  rw [Nat.mod_add_mod, Nat.add_mod_mod, Nat.add_mod_mod, e, Nat.add_mod (o + x), Nat.mod_mul_mod, ← Nat.add_mod]
  congr 1; omega
theorem dbl_even (o x y : Nat) (h : ¬ y % 2 = 1) : fadd o (fmul (fadd x x) (y / 2)) = fadd o (fmul x y) := by
  have e : x * y = (x + x) * (y / 2) := by
    have e1 : y = 2 * (y / 2) := by omega
    generalize y / 2 = z at *
    subst e1
    rw [← Nat.two_mul, ← Nat.mul_assoc, Nat.mul_comm x 2]
  unfold fadd fmul
  rw [e, Nat.mod_mul_mod]
theorem fadd_zero {a : Nat} (h : a < 2305843009213688669) : fadd a 0 = a := by unfold fadd; rw [Nat.add_zero]; exact Nat.mod_eq_of_lt h
theorem dbl_start (a b : Nat) : fadd 0 (fmul (fof a) (fof b)) = fmul a b := by
  rw [fof_mul]; unfold fadd; rw [Nat.zero_add]; exact Nat.mod_eq_of_lt (fmul_lt _ _)

theorem rmul_any (a b : Nat) (w : World) : Calls Try.prog 25 #[.int .u64 a, .int .u64 b] w fun e w' => e = .returned (.int .u64 (fmul a b : Nat)) ∧ w = w' := by
  have hl := fof_lt a
  have hm := fof_lt b
  have HS := Lib.hid (dbl_start a b)
  go_enter Try.func25, Try.ntmps25
  go_wp2_with (first | (go_at_call 48; refine (rof_any _ _).mono ?_; rintro e w' ⟨rfl, rfl⟩))
  go_loop [5, 6, 7] (fun xv yv ov => ∃ x y o : Nat, x < 2305843009213688669 ∧ y < 2305843009213688669 ∧ o < 2305843009213688669 ∧ fadd o (fmul x y) = fmul a b ∧ xv = .int .u64 (x : Int) ∧ yv = .int .u64 (y : Int) ∧ ov = .int .u64 (o : Int)) (fun _ yv _ => (intOf yv).toNat)
  case atStart => exact ⟨fof a, fof b, 0, hl, hm, by decide, HS.out, rfl, rfl, rfl⟩
  case round =>
    obtain ⟨x, y, o, hx, hy, ho, hi, rfl, rfl, rfl⟩ := hrel
    have HI := Lib.hid hi
    clear hi
    by_cases hz : y = 0
    · have hz' : ¬ (0 : Int) < (y : Int) := by omega
      have hfin : o = fmul a b := by rw [← HI.out, hz]; unfold fmul; rw [Nat.mul_zero]; exact (fadd_zero ho).symm
      have HF := Lib.hid hfin
      clear hz hfin
      go_wp2_with fail
      go_ret
      exact ⟨ret_int (congrArg Nat.cast HF.out), rfl⟩
    · have hz' : (0 : Int) < (y : Int) := by omega
      have e1 : ((o : Int) + (x : Int)) % 2305843009213688669 = (fadd o x : Nat) := by unfold fadd; omega
      have e2 : ((x : Int) + (x : Int)) % 2305843009213688669 = (fadd x x : Nat) := by unfold fadd; omega
      have hf1 := fadd_lt o x
      have hf2 := fadd_lt x x
      by_cases hp : y % 2 = 1
      · have hp' : ((y : Int) % 2 == 1) = true := by simp; omega
        have HO := Lib.hid (dbl_odd o x y hp)
        go_wp2_with fail
        go_round
        case rel => exact ⟨fadd x x, y / 2, fadd o x, hf2, by omega, hf1, HO.out.trans HI.out, rfl, by go_num, rfl⟩
        case measure => simp [intOf]; omega
      · have hp' : ((y : Int) % 2 == 1) = false := by simp; omega
        have HO := Lib.hid (dbl_even o x y hp)
        go_wp2_with fail
        go_round
        case rel => exact ⟨fadd x x, y / 2, o, hf2, by omega, ho, HO.out.trans HI.out, rfl, by go_num, rfl⟩
        case measure => simp [intOf]; omega

/-- The power's loop from the top bit down: what stands in 'out' behind so many bits. -/
theorem top_odd (a n : Nat) (h : n % 2 = 1) : fmul (fmul (fpow a (n / 2)) (fpow a (n / 2))) a = fpow a n := by
  unfold fmul fpow
  rw [Cnt.pw_add, ← Cnt.pw_succ, show n / 2 + n / 2 + 1 = n from by omega]
theorem top_even (a n : Nat) (h : ¬ n % 2 = 1) : fmul (fpow a (n / 2)) (fpow a (n / 2)) = fpow a n := by
  unfold fmul fpow
  rw [Cnt.pw_add, show n / 2 + n / 2 = n from by omega]

theorem bit_of (n i : Nat) (hn : n < 18446744073709551616) : bits .and .u64 ((n : Int) / 2 ^ i) 1 = ((n / 2 ^ i % 2 : Nat) : Int) := by
  have e : (n : Int) / 2 ^ i = ((n / 2 ^ i : Nat) : Int) := by rw [Int.natCast_ediv, Int.natCast_pow]; rfl
  have hl : n / 2 ^ i ≤ n := Nat.div_le_self _ _
  rw [e, and_one_u64 _ (Int.natCast_nonneg _) (by omega)]
  omega
theorem bit_odd (n i : Nat) (hn : n < 18446744073709551616) (h : (bits .and .u64 ((n : Int) / 2 ^ i) 1 == 1) = true) : n / 2 ^ i % 2 = 1 := by
  rw [bit_of n i hn] at h
  have := eq_of_beq h
  omega
theorem bit_even (n i : Nat) (hn : n < 18446744073709551616) (h : (bits .and .u64 ((n : Int) / 2 ^ i) 1 == 1) = false) : ¬ n / 2 ^ i % 2 = 1 := by
  rw [bit_of n i hn] at h
  intro h1
  rw [h1] at h
  exact absurd h (by decide)
theorem half_at (n i : Nat) : n / 2 ^ (i + 1) = n / 2 ^ i / 2 := by rw [Nat.pow_succ, Nat.div_div_eq_div_mul]

theorem rpow_any (a n : Nat) (hn : n < 18446744073709551616) (w : World) : Calls Try.prog 29 #[.int .u64 a, .int .u64 n] w fun e w' => e = .returned (.int .u64 (fpow a n : Nat)) ∧ w = w' := by
  have HN := Lib.hid hn
  go_enter Try.func29, Try.ntmps29
  go_wp2_with fail
  go_loop [5, 6] (fun ov iv => ∃ j o : Nat, j ≤ 64 ∧ o < 2305843009213688669 ∧ o = fpow a (n / 2 ^ j) ∧ ov = .int .u64 (o : Int) ∧ iv = .int .i64 ((j : Int) - 1)) (fun _ iv => (intOf iv + 1).toNat)
  case atStart => exact ⟨64, 1, by omega, by decide, by rw [Nat.div_eq_of_lt (by exact HN.out)]; exact (Cnt.pw_zero _ _ (by decide)).symm, rfl, by go_num⟩
  case round =>
    obtain ⟨j, o, hj, ho, hi, rfl, rfl⟩ := hrel
    have HI := Lib.hid hi
    clear hi
    by_cases hz : j = 0
    · subst hz
      have hf : o = fpow a n := by rw [HI.out]; simp
      have HF := Lib.hid hf
      clear hf
      go_wp2_with fail
      go_ret
      exact ⟨ret_int (congrArg Nat.cast HF.out), rfl⟩
    · obtain ⟨i, rfl⟩ : ∃ i, j = i + 1 := ⟨j - 1, by omega⟩
      have hi : ((i + 1 : Nat) : Int) - 1 = (i : Int) := by omega
      rw [hi]
      clear hi hz
      go_wp2_with (go_at_call 25; refine (rmul_any _ _ _).mono ?_; rintro e w' ⟨rfl, rfl⟩)
      · have hb := bit_odd n i HN.out ‹_›
        have hr : fmul (fmul o o) a = fpow a (n / 2 ^ i) := by rw [HI.out, half_at]; exact top_odd a _ hb
        go_round
        case rel => exact ⟨i, _, by omega, fmul_lt _ _, hr, rfl, rfl⟩
        case measure => simp [intOf]
      · have hb := bit_even n i HN.out ‹_›
        have hr : fmul o o = fpow a (n / 2 ^ i) := by rw [HI.out, half_at]; exact top_even a _ hb
        go_round
        case rel => exact ⟨i, _, by omega, fmul_lt _ _, hr, rfl, rfl⟩
        case measure => simp [intOf]

/-- Euclid's steps: at each, now is y times a, old is x times a, modulo the order. -/
structure Eu (a old now x y : Nat) : Prop where
  hx : fmul x a = fof old
  hy : fmul y a = fof now
  bx : x < 2305843009213688669
  bY : y < 2305843009213688669
  lt : now < old
  top : old ≤ 2305843009213688669
  pos : 0 < now
  cop : Nat.gcd old now = 1
theorem Eu.start (a : Nat) (h : ¬ a % 2305843009213688669 = 0) : Eu a 2305843009213688669 (fof a) 0 1 := by
  refine ⟨by unfold fmul fof; rw [Nat.zero_mul], by unfold fmul fof; rw [Nat.one_mul, Nat.mod_mod], by decide, by decide, fof_lt a, Nat.le_refl _, by unfold fof; omega, ?_⟩
  exact Cnt.prQ.cop fun hd => h (by have := Nat.mod_eq_zero_of_dvd hd; unfold fof at this; rwa [Nat.mod_mod] at this)
theorem fsub_add (x z : Nat) : fadd (fsub x z) z = fof x := by unfold fsub fadd fneg fof; omega
theorem fmul_add (x z a : Nat) : fmul (fadd x z) a = fadd (fmul x a) (fmul z a) := by
  rw [r_comm_mul a, r_dist, r_comm_mul, r_comm_mul z]
theorem Eu.step {a old now x y : Nat} (h : Eu a old now x y) (h1 : 1 < now) : Eu a now (old % now) y (fsub x (fmul (old / now) y)) := by
  have hlt : old % now < now := Nat.mod_lt _ h.pos
  refine ⟨h.hy, ?_, h.bY, fsub_lt _ _, hlt, by have := h.lt; have := h.top; omega, ?_, ?_⟩
  · have e1 := fmul_add (fsub x (fmul (old / now) y)) (fmul (old / now) y) a
    rw [fsub_add, r_assoc_mul, h.hy] at e1
    have e2 : fmul (fof x) a = fof old := by rw [fof_self h.bx]; exact h.hx
    rw [e2] at e1
    have e3 : fof old = fadd (fof (old % now)) (fmul (old / now) (fof now)) := by
      have e4 := Nat.div_add_mod' old now
      unfold fadd fmul fof
      rw [Nat.mul_mod_mod, Nat.add_mod_mod, Nat.mod_add_mod, Nat.add_comm, e4]
    rw [e3] at e1
    have l1 := fof_lt (old % now)
    have l2 := fmul_lt (fsub x (fmul (old / now) y)) a
    have l3 := fmul_lt (old / now) (fof now)
    generalize fmul (old / now) (fof now) = t at *
    generalize fmul (fsub x (fmul (old / now) y)) a = u at *
    generalize fof (old % now) = v at *
    unfold fadd at e1
    omega
  · rcases Nat.eq_zero_or_pos (old % now) with h0 | h0
    · have hg := h.cop
      rw [Nat.gcd_comm, Nat.gcd_rec, h0, Nat.gcd_zero_left] at hg
      omega
    · exact h0
  · rw [Nat.gcd_comm, ← Nat.gcd_rec, Nat.gcd_comm]; exact h.cop
theorem Eu.fin {a old now x y : Nat} (h : Eu a old now x y) (h1 : now = 1) (ha : ¬ a % 2305843009213688669 = 0) : y = fi a := by
  have e := h.hy
  rw [h1, r_comm_mul] at e
  refine fmul_cancel ha ?_ h.bY (fi_lt a)
  rw [e, fi_mul ha]; rfl

theorem rinv_no (a : Nat) (h : a % 2305843009213688669 = 0) (w : World) : Calls Try.prog 17 #[.int .u64 a] w fun e w' => e = .returned (.tuple #[.int .u64 0, .bool false]) ∧ ∃ k, w' = w.drewN k := by
  have e1 : ((fof a : Int) == 0) = true := by unfold fof; simp; omega
  go_enter Try.func17, Try.ntmps17
  go_wp2_with (first | (go_at_call 48; refine (rof_any _ _).mono ?_; rintro e w' ⟨rfl, rfl⟩))
  go_ret2
  exact ⟨rfl, 0, rfl⟩
theorem rinv_yes (a : Nat) (h : ¬ a % 2305843009213688669 = 0) (w : World) : Calls Try.prog 17 #[.int .u64 a] w fun e w' => e = .returned (.tuple #[.int .u64 (fi a : Nat), .bool true]) ∧ ∃ k, w' = w.drewN k := by
  have e1 : ((fof a : Int) == 0) = false := by unfold fof; simp; omega
  have HS := Lib.hid (Eu.start a h)
  have HA := Lib.hid h
  clear h
  go_enter Try.func17, Try.ntmps17
  go_wp2_with (first | (go_at_call 48; refine (rof_any _ _).mono ?_; rintro e w' ⟨rfl, rfl⟩))
  go_loop [4, 5, 6, 7] (fun ov nv xv yv => ∃ old now x y : Nat, Eu a old now x y ∧ ov = .int .u64 (old : Int) ∧ nv = .int .u64 (now : Int) ∧ xv = .int .u64 (x : Int) ∧ yv = .int .u64 (y : Int)) (fun _ nv _ _ => (intOf nv).toNat)
  case atStart => exact ⟨_, _, 0, 1, HS.out, rfl, rfl, rfl, rfl⟩
  case round =>
    obtain ⟨old, now, x, y, heu, rfl, rfl, rfl, rfl⟩ := hrel
    have hp := heu.pos
    have hlt := heu.lt
    have htop := heu.top
    by_cases h1 : now = 1
    · have HF := Lib.hid (heu.fin h1 HA.out)
      have h1' : ¬ (1 : Int) < (now : Int) := by omega
      clear heu h1
      go_wp2_with fail
      go_ret2
      exact ⟨by rw [← HF.out]; rfl, 0, rfl⟩
    · have HN := Lib.hid (heu.step (by omega))
      have h1' : (1 : Int) < (now : Int) := by omega
      have hnz : ¬ (now : Int) = 0 := by omega
      have hlt2 : old % now < now := Nat.mod_lt _ hp
      obtain ⟨q, hq⟩ : ∃ q, q = old / now := ⟨_, rfl⟩
      obtain ⟨r, hr⟩ : ∃ r, r = old % now := ⟨_, rfl⟩
      have hql : q ≤ old := by rw [hq]; exact Nat.div_le_self _ _
      have eq1 : (old : Int) / (now : Int) = (q : Int) := by rw [hq]; exact (Int.natCast_ediv _ _).symm
      have er1 : (old : Int) % (now : Int) = (r : Int) := by rw [hr]; exact (Int.natCast_emod _ _).symm
      rw [← hr] at hlt2
      have HQ := Lib.hid (And.intro hq hr)
      clear heu h1 hq hr
      go_wp2_with (first | (go_at_call 25; refine (rmul_any _ _ _).mono ?_; rintro e w' ⟨rfl, rfl⟩) | (go_at_call 23; refine (rsub_any _ _ _).mono ?_; rintro e w' ⟨rfl, rfl⟩))
      go_round
      case rel => exact ⟨now, r, y, fsub x (fmul q y), by rw [HQ.out.1, HQ.out.2]; exact HN.out, rfl, rfl, rfl, rfl⟩
      case measure => simp [intOf]; omega
end Go.Proofs.Ytndhbckdbobogaa
