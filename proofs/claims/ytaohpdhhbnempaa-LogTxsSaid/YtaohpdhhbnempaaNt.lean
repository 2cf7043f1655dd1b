/- Number theory that the group's laws want: Fermat's little theorem, Pocklington's test, and that Order and Modulus are prime. No program in sight. -/
namespace Cnt

def Pr (p : Nat) : Prop := 2 ≤ p ∧ ∀ m, m ∣ p → m = 1 ∨ m = p

def fp (m : Nat) : Nat → Nat → Nat → Nat
 | 0, _, _ => 1 % m
 | f + 1, a, n => if n = 0 then 1 % m else if n % 2 = 1 then a * fp m f (a * a % m) (n / 2) % m else fp m f (a * a % m) (n / 2)

theorem fp_pow (m : Nat) : ∀ f a n, n < 2 ^ f → fp m f a n = a ^ n % m
 | 0, a, n, h => by
  have : n = 0 := by simpa using h
  subst this; rw [fp, Nat.pow_zero]
 | f + 1, a, n, h => by
  rw [fp]
  by_cases h0 : n = 0
  ·subst h0; rw [if_pos rfl, Nat.pow_zero]
  ·rw [if_neg h0]
   have hr := fp_pow m f (a * a % m) (n / 2) (by rw [Nat.pow_succ] at h; omega)
   have hs : (a * a % m) ^ (n / 2) % m = a ^ (2 * (n / 2)) % m := by rw [← Nat.pow_mod, Nat.pow_mul, show a ^ 2 = a * a from by rw [Nat.pow_succ, Nat.pow_one]]
   rw [hr, hs]
   by_cases h1 : n % 2 = 1
   ·rw [if_pos h1]
    have e : n = 2 * (n / 2) + 1 := by omega
    have e2 : a ^ n = a * a ^ (2 * (n / 2)) := by rw [Nat.mul_comm, ← Nat.pow_succ]; exact congrArg (a ^ ·) e
    rw [e2, Nat.mul_mod_mod]
   ·rw [if_neg h1]
    have e : 2 * (n / 2) = n := by omega
    rw [e]
@[irreducible] def pw (a n m : Nat) : Nat := match a with
 | 0 => 0 ^ (min n 1) % m
 | a + 1 => match Nat.blt n 18446744073709551616 with
  | true => fp m 64 (a + 1) n
  | false => (a + 1) ^ n % m

theorem pw_eq (a n m : Nat) : pw a n m = a ^ n % m := by
 unfold pw
 split
 ·congr 1
  cases n with
  | zero => rfl
  | succ n => rw [show min (n + 1) 1 = 1 by omega, Nat.pow_one, Nat.zero_pow (by omega)]
 ·split
  ·rename_i h; exact fp_pow m 64 _ n (by have := Nat.le_of_ble_eq_true h; omega)
  ·rfl
theorem pw_lt (a n : Nat) {m : Nat} (h : 0 < m) : pw a n m < m := by rw [pw_eq]; exact Nat.mod_lt _ h
theorem pw_mod (a n m : Nat) : pw (a % m) n m = pw a n m := by rw [pw_eq, pw_eq, Nat.pow_mod a]
theorem pw_zero (a m : Nat) (h : 1 < m) : pw a 0 m = 1 := by rw [pw_eq, Nat.pow_zero, Nat.mod_eq_of_lt h]
theorem pw_one (a m : Nat) : pw a 1 m = a % m := by rw [pw_eq, Nat.pow_one]
theorem pw_add (a x y m : Nat) : pw a x m * pw a y m % m = pw a (x + y) m := by
 rw [pw_eq, pw_eq, pw_eq, Nat.pow_add, ← Nat.mul_mod]
theorem pw_mul (a x y m : Nat) : pw (pw a x m) y m = pw a (x * y) m := by
 rw [pw_eq, pw_eq, pw_eq, ← Nat.pow_mod, Nat.pow_mul]
theorem pw_prod (a b x m : Nat) : pw (a * b % m) x m = pw a x m * pw b x m % m := by
 rw [pw_mod, pw_eq, pw_eq, pw_eq, Nat.mul_pow, Nat.mul_mod]
theorem pw_succ (a x m : Nat) : pw a (x + 1) m = pw a x m * a % m := by
 rw [← pw_add, pw_one, Nat.mul_mod, Nat.mod_mod, ← Nat.mul_mod]
theorem pw_succ' (a x m : Nat) : pw a (x + 1) m = a * pw a x m % m := by
 rw [pw_succ, Nat.mul_comm]
theorem one_pw (x m : Nat) (h : 1 < m) : pw 1 x m = 1 := by rw [pw_eq, Nat.one_pow, Nat.mod_eq_of_lt h]

theorem pw_sq (a k m : Nat) : pw (a * a % m) k m = pw a (2 * k) m := by
 rw [pw_mod, pw_eq, pw_eq, Nat.pow_mul, show a ^ 2 = a * a from by rw [Nat.pow_succ, Nat.pow_one]]

theorem fp_eq (m : Nat) : ∀ f a n, n < 2 ^ f → fp m f a n = pw a n m
 | 0, a, n, h => by
  have : n = 0 := by simpa using h
  subst this; rw [fp, pw_eq, Nat.pow_zero]
 | f + 1, a, n, h => by
  rw [fp]
  by_cases h0 : n = 0
  ·subst h0; rw [if_pos rfl, pw_eq, Nat.pow_zero]
  ·rw [if_neg h0]
   have hr := fp_eq m f (a * a % m) (n / 2) (by rw [Nat.pow_succ] at h; omega)
   rw [hr, pw_sq]
   by_cases h1 : n % 2 = 1
   ·rw [if_pos h1]
    have e : n = 2 * (n / 2) + 1 := by omega
    rw [← pw_succ', ← e]
   ·rw [if_neg h1]
    have e : 2 * (n / 2) = n := by omega
    rw [e]

/-! Euclid. -/
theorem Pr.pos {p : Nat} (h : Pr p) : 0 < p := by have := h.1; omega
theorem Pr.cop {p a : Nat} (h : Pr p) (ha : ¬ p ∣ a) : Nat.Coprime p a := by
 rcases h.2 _ (Nat.gcd_dvd_left p a) with e | e
 ·exact e
 ·exact absurd (e ▸ Nat.gcd_dvd_right p a) ha
theorem Pr.euclid {p a b : Nat} (h : Pr p) (hd : p ∣ a * b) : p ∣ a ∨ p ∣ b := by
 by_cases ha : p ∣ a
 ·exact Or.inl ha
 ·exact Or.inr ((h.cop ha).dvd_of_dvd_mul_left hd)
theorem Pr.not_dvd_one {p : Nat} (h : Pr p) : ¬ p ∣ 1 := by
 intro hd; have := Nat.le_of_dvd (by omega) hd; have := h.1; omega

theorem exists_prime : ∀ n, 2 ≤ n → ∃ p, Pr p ∧ p ∣ n := by
 intro n
 induction n using Nat.strongRecOn with
 | _ n ih =>
  intro hn
  by_cases hp : ∀ m, m ∣ n → m = 1 ∨ m = n
  ·exact ⟨n, ⟨hn, hp⟩, Nat.dvd_refl n⟩
  ·have ⟨m, hm⟩ := Classical.not_forall.mp hp
   have ⟨h1, h2⟩ := Classical.not_imp.mp hm
   have h3 : m ≠ 1 := fun e => h2 (Or.inl e)
   have h4 : m ≠ n := fun e => h2 (Or.inr e)
   have hle := Nat.le_of_dvd (by omega) h1
   have h0 : m ≠ 0 := by rintro rfl; have := Nat.eq_zero_of_zero_dvd h1; omega
   obtain ⟨p, hp, hd⟩ := ih m (by omega) (by omega)
   exact ⟨p, hp, Nat.dvd_trans hd h1⟩

/-! Binomials, for Fermat. -/
def ch : Nat → Nat → Nat
 | _, 0 => 1
 | 0, _ + 1 => 0
 | n + 1, k + 1 => ch n k + ch n (k + 1)

theorem ch_zero (n : Nat) : ch n 0 = 1 := by cases n <;> rfl

theorem ch_mul : ∀ n k, (k + 1) * ch (n + 1) (k + 1) = (n + 1) * ch n k
 | 0, 0 => rfl
 | 0, k + 1 => by simp [ch]
 | n + 1, 0 => by
  have h := ch_mul n 0
  rw [ch_zero] at h ⊢
  simp only [ch, ch_zero] at h ⊢
  omega
 | n + 1, k + 1 => by
  have h1 := ch_mul n k
  have h2 := ch_mul n (k + 1)
  rw [show ch (n + 2) (k + 2) = ch (n + 1) (k + 1) + ch (n + 1) (k + 2) from rfl, Nat.mul_add, h2]
  rw [show (k + 1 + 1) * ch (n + 1) (k + 1) = (k + 1) * ch (n + 1) (k + 1) + ch (n + 1) (k + 1) from Nat.succ_mul _ _, h1]
  rw [show ch (n + 1) (k + 1) = ch n k + ch n (k + 1) from rfl, show (n + 1 + 1) * (ch n k + ch n (k + 1)) = (n + 1) * (ch n k + ch n (k + 1)) + (ch n k + ch n (k + 1)) from Nat.succ_mul _ _, Nat.mul_add]
  omega

theorem ch_over : ∀ n k, n < k → ch n k = 0
 | 0, k + 1, _ => rfl
 | n + 1, k + 1, h => by rw [ch, ch_over n k (by omega), ch_over n (k + 1) (by omega)]

theorem ch_self : ∀ n, ch n n = 1
 | 0 => rfl
 | n + 1 => by rw [ch, ch_self n, ch_over n (n + 1) (by omega)]

def bs (n a : Nat) : Nat → Nat
 | 0 => 0
 | k + 1 => bs n a k + ch n k * a ^ k

theorem bs_step (n a : Nat) : ∀ m, bs (n + 1) a (m + 1) = bs n a (m + 1) + a * bs n a m
 | 0 => by simp [bs, ch_zero]
 | m + 1 => by
  rw [show bs (n + 1) a (m + 1 + 1) = bs (n + 1) a (m + 1) + ch (n + 1) (m + 1) * a ^ (m + 1) from rfl, bs_step n a m]
  rw [show bs n a (m + 1 + 1) = bs n a (m + 1) + ch n (m + 1) * a ^ (m + 1) from rfl]
  rw [show ch (n + 1) (m + 1) = ch n m + ch n (m + 1) from rfl, Nat.add_mul]
  rw [show a * bs n a (m + 1) = a * bs n a m + a * (ch n m * a ^ m) from by rw [show bs n a (m + 1) = bs n a m + ch n m * a ^ m from rfl, Nat.mul_add]]
  rw [show a * (ch n m * a ^ m) = ch n m * a ^ (m + 1) from by rw [Nat.pow_succ, Nat.mul_left_comm, Nat.mul_comm a]]
  omega

theorem bs_all : ∀ n a, bs n a (n + 1) = (a + 1) ^ n
 | 0, a => by simp [bs, ch]
 | n + 1, a => by
  rw [bs_step, bs_all n a, show bs n a (n + 1 + 1) = bs n a (n + 1) + ch n (n + 1) * a ^ (n + 1) from rfl, ch_over n (n + 1) (by omega), bs_all n a, Nat.zero_mul, Nat.add_zero, Nat.pow_succ (a + 1), Nat.mul_succ, Nat.mul_comm a]
  omega

theorem bs_mod {p : Nat} (hp : Pr p) (a : Nat) : ∀ m, m < p → bs p a (m + 1) % p = 1 % p
 | 0, _ => by simp [bs, ch_zero]
 | m + 1, h => by
  rw [show bs p a (m + 1 + 1) = bs p a (m + 1) + ch p (m + 1) * a ^ (m + 1) from rfl]
  have hd : p ∣ ch p (m + 1) := by
   obtain ⟨n, rfl⟩ : ∃ n, p = n + 1 := ⟨p - 1, by omega⟩
   have hm := ch_mul n m
   have h1 : (n + 1) ∣ (m + 1) * ch (n + 1) (m + 1) := ⟨ch n m, hm⟩
   rcases hp.euclid h1 with h2 | h2
   ·have := Nat.le_of_dvd (by omega) h2; omega
   ·exact h2
  have hz : ch p (m + 1) * a ^ (m + 1) % p = 0 := Nat.mod_eq_zero_of_dvd (Nat.dvd_mul_right_of_dvd hd _)
  rw [Nat.add_mod, hz, Nat.add_zero, Nat.mod_mod, bs_mod hp a m (by omega)]

theorem pow_succ_mod {p : Nat} (hp : Pr p) (a : Nat) : (a + 1) ^ p % p = (a ^ p + 1) % p := by
 have h := bs_all p a
 rw [show bs p a (p + 1) = bs p a p + ch p p * a ^ p from rfl, ch_self, Nat.one_mul] at h
 rw [← h]
 obtain ⟨n, e⟩ : ∃ n, p = n + 1 := ⟨p - 1, by have := hp.1; omega⟩
 have hm := bs_mod hp a n (by omega)
 rw [← e] at hm
 rw [Nat.add_mod, hm, ← Nat.add_mod, Nat.add_comm]

theorem fermat' {p : Nat} (hp : Pr p) : ∀ a, a ^ p % p = a % p
 | 0 => by rw [Nat.zero_pow hp.pos]
 | a + 1 => by rw [pow_succ_mod hp, Nat.add_mod, fermat' hp a, ← Nat.add_mod]

theorem cancel {p a b c : Nat} (hp : Pr p) (ha : a % p ≠ 0) (h : a * b % p = a * c % p) : b % p = c % p := by
 have hna : ¬ p ∣ a := fun hd => ha (Nat.mod_eq_zero_of_dvd hd)
 rcases Nat.le_total b c with hl | hl
 ·have h1 := Nat.sub_mod_eq_zero_of_mod_eq h.symm
  rw [← Nat.mul_sub] at h1
  rcases hp.euclid (Nat.dvd_of_mod_eq_zero h1) with h2 | ⟨k, hk⟩
  ·exact absurd h2 hna
  ·have : c = b + p * k := by omega
   rw [this, Nat.add_mul_mod_self_left]
 ·have h1 := Nat.sub_mod_eq_zero_of_mod_eq h
  rw [← Nat.mul_sub] at h1
  rcases hp.euclid (Nat.dvd_of_mod_eq_zero h1) with h2 | ⟨k, hk⟩
  ·exact absurd h2 hna
  ·have : b = c + p * k := by omega
   rw [this, Nat.add_mul_mod_self_left]

theorem fermat {p a : Nat} (hp : Pr p) (ha : a % p ≠ 0) : pw a (p - 1) p = 1 := by
 rw [pw_eq]
 have h := fermat' hp a
 obtain ⟨n, e⟩ : ∃ n, p = n + 1 := ⟨p - 1, by have := hp.1; omega⟩
 have e2 : p - 1 = n := by omega
 rw [e2]
 have h3 : a ^ p = a * a ^ n := by rw [e, Nat.pow_succ, Nat.mul_comm]
 rw [h3] at h
 have h4 := cancel hp ha (h.trans (by rw [Nat.mul_one]) : a * a ^ n % p = a * 1 % p)
 rw [h4, Nat.mod_eq_of_lt hp.1]

/-! Orders. -/
theorem pw_gcd {a m : Nat} (hm : 1 < m) : ∀ x y, pw a x m = 1 → pw a y m = 1 → pw a (Nat.gcd x y) m = 1 := by
 intro x y
 induction x, y using Nat.gcd.induction with
 | H0 n => intro _ h; simpa using h
 | H1 x y _ ih =>
  intro hx hy
  rw [Nat.gcd_rec]
  apply ih
  ·have e : y = x * (y / x) + y % x := (Nat.div_add_mod y x).symm
   have h := hy
   rw [e, ← pw_add, ← pw_mul, hx, one_pw _ _ hm, Nat.one_mul, Nat.mod_eq_of_lt (pw_lt _ _ (by omega))] at h
   exact h
  ·exact hx

theorem pw_dvd {a m s x : Nat} (hs : s ∣ m) : pw a x m % s = pw a x s := by
 rw [pw_eq, pw_eq, Nat.mod_mod_of_dvd _ hs]

theorem pock {n F a : Nat} (hF : Pr F) (hn : 2 ≤ n) (hd : F ∣ n - 1) (hbig : n < F * F) (h1 : pw a (n - 1) n = 1) (h2 : Nat.gcd (pw a ((n - 1) / F) n - 1) n = 1) : Pr n := by
 have key : ∀ s, Pr s → s ∣ n → n < s * s := by
  intro s hs hsn
  have hs2 := hs.1
  generalize hb : pw a ((n - 1) / F) n = b at *
  have e1 : pw b F n = 1 := by rw [← hb, pw_mul, Nat.div_mul_cancel hd, h1]
  have e2 : pw b F s = 1 := by rw [← pw_dvd hsn, e1, Nat.mod_eq_of_lt (by omega)]
  have hne : b % s ≠ 1 := by
   intro e
   have hz : s ∣ b - 1 := Nat.dvd_of_mod_eq_zero (Nat.sub_mod_eq_zero_of_mod_eq (by rw [e, Nat.mod_eq_of_lt (by omega)]))
   have := Nat.dvd_gcd hz hsn
   rw [h2] at this
   exact hs.not_dvd_one this
  have hb0 : b % s ≠ 0 := by
   intro e
   rw [← pw_mod, e, pw_eq, Nat.zero_pow hF.pos] at e2
   simp at e2
  have e3 := fermat hs hb0
  have hFs : F ∣ s - 1 := by
   apply Classical.byContradiction
   intro hc
   have hg := pw_gcd (by omega) _ _ e2 e3
   rw [hF.cop hc, pw_one] at hg
   exact hne hg
  have hle := Nat.le_of_dvd (by omega) hFs
  exact Nat.lt_of_lt_of_le hbig (Nat.mul_le_mul (by omega) (by omega))
 refine ⟨hn, fun m hm => ?_⟩
 apply Classical.byContradiction
 intro hc
 have hc1 : m ≠ 1 := fun e => hc (Or.inl e)
 have hc2 : m ≠ n := fun e => hc (Or.inr e)
 obtain ⟨k, hk⟩ := hm
 have hm0 : m ≠ 0 := by rintro rfl; rw [Nat.zero_mul] at hk; omega
 have hk0 : k ≠ 0 := by rintro rfl; rw [Nat.mul_zero] at hk; omega
 have hk1 : k ≠ 1 := by rintro rfl; rw [Nat.mul_one] at hk; exact hc2 hk.symm
 rcases Nat.le_total m k with hl | hl
 ·obtain ⟨s, hs, hsm⟩ := exists_prime m (by omega)
  have h4 := key s hs (hk ▸ Nat.dvd_mul_right_of_dvd hsm k)
  have h5 := Nat.le_of_dvd (by omega) hsm
  have h6 : s * s ≤ m * k := Nat.mul_le_mul h5 (by omega)
  omega
 ·obtain ⟨s, hs, hsm⟩ := exists_prime k (by omega)
  have h4 := key s hs (hk ▸ Nat.dvd_mul_left_of_dvd hsm m)
  have h5 := Nat.le_of_dvd (by omega) hsm
  have h6 : s * s ≤ m * k := Nat.mul_le_mul (by omega) h5
  omega

def nodiv (n : Nat) : Nat → Bool
 | 0 => true
 | d + 1 => (decide (d < 2) || !(n % d == 0)) && nodiv n d

theorem nodiv_of (n : Nat) : ∀ d, nodiv n d = true → ∀ m, 2 ≤ m → m < d → ¬ m ∣ n
 | 0, _, _, _, h => by omega
 | d + 1, h, m, h2, hl => by
  simp only [nodiv, Bool.and_eq_true, Bool.or_eq_true, decide_eq_true_eq, Bool.not_eq_true', beq_eq_false_iff_ne] at h
  by_cases e : m = d
  ·subst e
   intro hd
   have := Nat.mod_eq_zero_of_dvd hd
   omega
  ·exact nodiv_of n d h.2 m h2 (by omega)

theorem trial {n d : Nat} (hn : 2 ≤ n) (hd : n < d * d) (h : nodiv n d = true) : Pr n := by
 refine ⟨hn, fun m hm => ?_⟩
 apply Classical.byContradiction
 intro hc
 have hc1 : m ≠ 1 := fun e => hc (Or.inl e)
 have hc2 : m ≠ n := fun e => hc (Or.inr e)
 obtain ⟨k, hk⟩ := hm
 have hm0 : m ≠ 0 := by rintro rfl; rw [Nat.zero_mul] at hk; omega
 have hk0 : k ≠ 0 := by rintro rfl; rw [Nat.mul_zero] at hk; omega
 have hk1 : k ≠ 1 := by rintro rfl; rw [Nat.mul_one] at hk; exact hc2 hk.symm
 have nd := nodiv_of n d h
 by_cases hmd : m < d
 ·exact nd m (by omega) hmd ⟨k, hk⟩
 ·by_cases hkd : k < d
  ·exact nd k (by omega) hkd ⟨m, by rw [Nat.mul_comm]; exact hk⟩
  ·have : d * d ≤ m * k := Nat.mul_le_mul (by omega) (by omega)
   omega

theorem pockf {n F : Nat} (a : Nat) (hF : Pr F) (hn : (decide (2 ≤ n) && decide ((n - 1) % F = 0) && decide (n < F * F) && decide (n < 2 ^ 64) && decide (fp n 64 a (n - 1) = 1) && decide (Nat.gcd (fp n 64 a ((n - 1) / F) - 1) n = 1)) = true) : Pr n := by
 simp only [Bool.and_eq_true, decide_eq_true_eq] at hn
 obtain ⟨⟨⟨⟨⟨h1, h2⟩, h3⟩, h4⟩, h5⟩, h6⟩ := hn
 have hq : (n - 1) / F < 2 ^ 64 := Nat.lt_of_le_of_lt (Nat.div_le_self _ _) (by omega)
 rw [fp_eq _ _ _ _ (by omega)] at h5
 rw [fp_eq _ _ _ _ hq] at h6
 exact pock hF h1 (Nat.dvd_of_mod_eq_zero h2) h3 h5 h6

theorem pr1 : Pr 172411 := trial (d := 416) (by omega) (by omega) (by decide +kernel)
theorem pr2 : Pr 7930907 := pockf 2 pr1 (by decide +kernel)
theorem pr3 : Pr 11864636873 := pockf 2 pr2 (by decide +kernel)
theorem pr4 : Pr 1732236983459 := pockf 2 pr3 (by decide +kernel)
theorem pr5 : Pr 249442125618097 := pockf 2 pr4 (by decide +kernel)
theorem prQ : Pr 2305843009213688669 := pockf 2 pr5 (by decide +kernel)
theorem prP : Pr 4611686018427377339 := pockf 2 prQ (by decide +kernel)

end Cnt
