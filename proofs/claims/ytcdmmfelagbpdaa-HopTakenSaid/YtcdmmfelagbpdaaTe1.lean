/- Contracts of package terms and its reference: numbers and terms. -/
import Derived.Test.YtcdmmfelagbpdaaRef06
import Derived.Test.YtcdmmfelagbpdaaArgs
import Derived.WalkSmall
namespace Go.Proofs.Ytcdmmfelagbpdaa
open Go.RowKit Go.Lib Ckp Cfd
set_option linter.unusedVariables false
set_option maxRecDepth 8192
set_option linter.unusedSimpArgs false

def inn (n lo hi : Int) : Bool := decide (lo ≤ n) && decide (n ≤ hi)
def tright (d r l c a m : Int) : Bool := inn d 0 65536 && inn l 1 4096 && inn c 0 16 && inn r d 1125899906842624 && inn a 1 1125899906842624 && inn m 0 1125899906842624
/-- Terms as a value. -/
abbrev TV (d r l c a m : Int) : Value := .agg #[.int .i64 d, .int .i64 r, .int .i64 l, .int .i64 c, .int .i64 a, .int .i64 m]

theorem within_any (n lo hi : Int) (w : World) : Calls Try.prog 46 #[.int .i64 n, .int .i64 lo, .int .i64 hi] w fun e w' => e = .returned (.bool (inn n lo hi)) ∧ w = w' := by
 go_enter Try.func46, Try.ntmps46
 go_wp2
 all_goals go_ret
 all_goals exact ⟨by first | (simp_all [inn]; done) | (simp_all [inn]; intros; omega), rfl⟩

theorem rin_any (n lo hi : Int) (w : World) : Calls Try.prog 47 #[.int .i64 n, .int .i64 lo, .int .i64 hi] w fun e w' => e = .returned (.bool (inn n lo hi)) ∧ w = w' := by
 go_enter Try.func47, Try.ntmps47
 go_wp2
 all_goals go_ret
 all_goals exact ⟨by first | (simp_all [inn]; done) | (simp_all [inn]; intros; omega), rfl⟩

theorem tright_any (d r l c a m : Int) (w : World) : Calls Try.prog 15 #[TV d r l c a m] w fun e w' => e = .returned (.bool (tright d r l c a m)) ∧ ∃ o, w' = w.alloc o := by
 go_enter Try.func15, Try.ntmps15
 go_wp2_with (go_at_call 46; refine (within_any _ _ _ _).mono ?_; rintro e w' ⟨rfl, rfl⟩)
 all_goals go_ret
 all_goals exact ⟨by simp_all [tright], _, rfl⟩
theorem tright_kp (d r l c a m : Int) (w : World) : Calls Try.prog 15 #[TV d r l c a m] w fun e w' => e = .returned (.bool (tright d r l c a m)) ∧ Kp w w' :=
 (tright_any d r l c a m w).mono fun _ _ ⟨h, o, e⟩ => ⟨h, by rw [e]; exact (Kp.refl w).alloc _⟩

theorem rtright_any (d r l c a m : Int) (w : World) : Calls Try.prog 16 #[TV d r l c a m] w fun e w' => e = .returned (.bool (tright d r l c a m)) ∧ ∃ o, w' = w.alloc o := by
 go_enter Try.func16, Try.ntmps16
 go_wp2_with (go_at_call 47; refine (rin_any _ _ _ _).mono ?_; rintro e w' ⟨rfl, rfl⟩)
 all_goals go_ret
 all_goals exact ⟨by simp_all [tright], _, rfl⟩
theorem rtright_kp (d r l c a m : Int) (w : World) : Calls Try.prog 16 #[TV d r l c a m] w fun e w' => e = .returned (.bool (tright d r l c a m)) ∧ Kp w w' :=
 (rtright_any d r l c a m w).mono fun _ _ ⟨h, o, e⟩ => ⟨h, by rw [e]; exact (Kp.refl w).alloc _⟩

theorem shown_any (d r l c a m n : Int) (w : World) : Calls Try.prog 17 #[TV d r l c a m, .int .i64 n] w fun e w' => e = .returned (.bool (decide (d ≤ n))) ∧ Kp w w' := by
 go_enter Try.func17, Try.ntmps17
 go_wp2
 go_ret
 exact ⟨by first | rfl | simp_all, ((Kp.refl w).alloc _)⟩
theorem rshown_any (d r l c a m n : Int) (w : World) : Calls Try.prog 18 #[TV d r l c a m, .int .i64 n] w fun e w' => e = .returned (.bool (decide (d ≤ n))) ∧ Kp w w' := by
 go_enter Try.func18, Try.ntmps18
 go_wp2
 go_ret
 exact ⟨by first | rfl | simp_all, ((Kp.refl w).alloc _)⟩

def tweight (n : Int) : Int := if 0 ≤ n ∧ n ≤ 16 then 68 + 8 * n else 0
def tfee (r n : Int) : Int := if 0 ≤ r ∧ r ≤ 1000 then r * tweight n else 0
theorem tweight_b (n : Int) : 0 ≤ tweight n ∧ tweight n ≤ 196 := by unfold tweight; split <;> omega
theorem tweight_any (n : Int) (w : World) : Calls Try.prog 19 #[.int .i64 n] w fun e w' => e = .returned (.int .i64 (tweight n)) ∧ w = w' := by
 go_enter Try.func19, Try.ntmps19
 go_wp2
 all_goals go_ret
 all_goals refine ⟨?_, rfl⟩
 all_goals (unfold tweight; first | (rw [if_neg (by omega)]; first | done | rfl) | (rw [if_pos (by omega)]; first | done | rfl))
theorem rtweight_any (n : Int) (w : World) : Calls Try.prog 20 #[.int .i64 n] w fun e w' => e = .returned (.int .i64 (tweight n)) ∧ w = w' := by
 have hi : inn n 0 16 = decide (0 ≤ n ∧ n ≤ 16) := by simp [inn]
 go_enter Try.func20, Try.ntmps20
 by_cases h : 0 ≤ n ∧ n ≤ 16
 all_goals (simp only [h, decide_true, decide_false] at hi)
 all_goals go_wp2_with (go_at_call 47; refine (rin_any _ _ _ _).mono ?_; rintro e w' ⟨rfl, rfl⟩)
 all_goals go_ret
 all_goals refine ⟨?_, rfl⟩
 ·unfold tweight; rw [if_pos h]; show Ending.returned (.int .i64 (36 + (4 + n) * 8)) = _; rw [show 36 + (4 + n) * 8 = 68 + 8 * n by omega]
 ·unfold tweight; rw [if_neg h]; rfl
theorem tfee_any (r n : Int) (w : World) : Calls Try.prog 21 #[.int .i64 r, .int .i64 n] w fun e w' => e = .returned (.int .i64 (tfee r n)) ∧ w = w' := by
 have hb := tweight_b n
 have hm : 0 ≤ r → r ≤ 1000 → 0 ≤ r * tweight n ∧ r * tweight n ≤ 196000 := fun h1 h2 =>
  ⟨Int.mul_nonneg h1 hb.1, by have := Int.mul_le_mul h2 hb.2 hb.1 (by omega); omega⟩
 go_enter Try.func21, Try.ntmps21
 by_cases h : 0 ≤ r ∧ r ≤ 1000
 ·obtain ⟨h1, h2⟩ := h
  have hm2 := hm h1 h2
  obtain ⟨y, hy⟩ : ∃ y, y = r * tweight n := ⟨_, rfl⟩
  rw [← hy] at hm2
  have hy2 : r * tweight n = y := hy.symm
  clear hm hy
  go_wp2_with (go_at_call 19; refine (tweight_any _ _).mono ?_; rintro e w' ⟨rfl, rfl⟩)
  go_ret
  refine ⟨?_, rfl⟩
  unfold tfee; rw [if_pos ⟨h1, h2⟩, hy2]; first | done | rfl
 ·go_wp2
  all_goals go_ret
  all_goals refine ⟨?_, rfl⟩
  all_goals (unfold tfee; rw [if_neg h]; first | done | rfl)
theorem rtfee_any (r n : Int) (w : World) : Calls Try.prog 22 #[.int .i64 r, .int .i64 n] w fun e w' => e = .returned (.int .i64 (tfee r n)) ∧ w = w' := by
 have hb := tweight_b n
 have hm : 0 ≤ r → r ≤ 1000 → 0 ≤ r * tweight n ∧ r * tweight n ≤ 196000 := fun h1 h2 =>
  ⟨Int.mul_nonneg h1 hb.1, by have := Int.mul_le_mul h2 hb.2 hb.1 (by omega); omega⟩
 have hi : inn r 0 1000 = decide (0 ≤ r ∧ r ≤ 1000) := by simp [inn]
 go_enter Try.func22, Try.ntmps22
 by_cases h : 0 ≤ r ∧ r ≤ 1000
 ·simp only [h, and_self, decide_true] at hi
  obtain ⟨h1, h2⟩ := h
  have hm2 := hm h1 h2
  obtain ⟨y, hy⟩ : ∃ y, y = r * tweight n := ⟨_, rfl⟩
  rw [← hy] at hm2
  have hy2 : r * tweight n = y := hy.symm
  clear hm hy
  go_wp2_with (first | (go_at_call 47; refine (rin_any _ _ _ _).mono ?_; rintro e w' ⟨rfl, rfl⟩) | (go_at_call 20; refine (rtweight_any _ _).mono ?_; rintro e w' ⟨rfl, rfl⟩))
  go_ret
  refine ⟨?_, rfl⟩
  unfold tfee; rw [if_pos ⟨h1, h2⟩, hy2]; first | done | rfl
 ·simp only [h, decide_false] at hi
  go_wp2_with (go_at_call 47; refine (rin_any _ _ _ _).mono ?_; rintro e w' ⟨rfl, rfl⟩)
  go_ret
  refine ⟨?_, rfl⟩
  unfold tfee; rw [if_neg h]; first | done | rfl
end Go.Proofs.Ytcdmmfelagbpdaa
