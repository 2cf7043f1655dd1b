/- Contracts of terms.Fit and its reference (printed by gente3.py). -/
import Derived.Test.YtcdmmfelagbpdaaTe2
import Derived.LoopN
import Derived.Lib.QuoteBits
namespace Go.Proofs.Ytcdmmfelagbpdaa
open Go.RowKit Go.Lib Ckp Cfd Cpd
set_option linter.unusedVariables false
set_option maxRecDepth 8192
set_option linter.unusedSimpArgs false

theorem andNot_op (op : Int) (h : -9223372036854775808 ≤ op ∧ op ≤ 9223372036854775807) : (bits .andNot .i64 op 1 != 0) = decide (¬ (op = 0 ∨ op = 1)) := by
 by_cases h0 : op = 0
 ·subst h0; decide
 by_cases h1 : op = 1
 ·subst h1; decide
 have e : bits .andNot .i64 op 1 = IntKind.i64.wrap (((op % 18446744073709551616).toNat / 2 * 2 : Nat) : Int) := by
  show IntKind.i64.wrap ((BitVec.ofInt 64 op &&& ~~~BitVec.ofInt 64 ((1 : Nat) : Int)).toNat : Int) = _
  rw [BitVec.toNat_and, BitVec.toNat_not, ofInt_u64 1 (by omega), BitVec.toNat_ofInt]
  have e : 2 ^ 64 - 1 - 1 = 18446744073709551614 := by decide
  have e2 : ((2 ^ 64 : Nat) : Int) = 18446744073709551616 := by decide
  rw [e, e2, nat_hi64_1, Nat.mod_eq_of_lt (by omega)]
 have hz : bits .andNot .i64 op 1 ≠ 0 := by
  rw [e]
  generalize hk : (op % 18446744073709551616).toNat / 2 * 2 = k
  have hk2 : 0 < k ∧ k < 18446744073709551616 := by omega
  have e3 : (k : Int) % 2 ^ 64 = k := Int.emod_eq_of_lt (by omega) (by omega)
  simp only [IntKind.wrap, IntKind.bits, IntKind.signed, e3]
  split
  ·simp; omega
  ·omega
 simp [hz, h0, h1]

theorem idx_t0 (d r l c a m d' r' l' c' a' m' : Int) (w : World) : (Instr.index 41 (.agg #[.int .i64 d, .int .i64 r, .int .i64 l, .int .i64 c, .int .i64 a, .int .i64 m, .int .i64 d', .int .i64 r', .int .i64 l', .int .i64 c', .int .i64 a', .int .i64 m']) (.int .i64 0)).run Try.prog w = .ok (TV d r l c a m) w := by
 first | rfl | kernel_rfl | (simp [Instr.index, run_underlying Try.underlying41, asIntOf, go_sem]; trace_state; rfl)
theorem idx_t1 (d r l c a m d' r' l' c' a' m' : Int) (w : World) : (Instr.index 41 (.agg #[.int .i64 d, .int .i64 r, .int .i64 l, .int .i64 c, .int .i64 a, .int .i64 m, .int .i64 d', .int .i64 r', .int .i64 l', .int .i64 c', .int .i64 a', .int .i64 m']) (.int .i64 1)).run Try.prog w = .ok (TV d' r' l' c' a' m') w := by
 first | rfl | kernel_rfl | (simp [Instr.index, run_underlying Try.underlying41, asIntOf, go_sem]; trace_state; rfl)

def tfit (amt n op : Int) (T0 P0 T1 P1 : Bool) (r0 r1 : Int) : Int :=
 if ¬ ((1 ≤ amt ∧ amt ≤ 1125899906842624) ∧ (0 ≤ n ∧ n ≤ 63) ∧ (op = 0 ∨ op = 1)) then 1 else if ((T0 && P0) && (T1 && P1)) = false then 1 else if amt < r0 + r1 then 10 else 0

def tadd (x y : Int) : Int × Bool := if (0 ≤ x ∧ x ≤ 1125899906842624) ∧ (0 ≤ y ∧ y ≤ 1125899906842624) ∧ x + y ≤ 1125899906842624 then (x + y, true) else (0, false)
theorem coins_any (a : Int) (w : World) : Calls Try.prog 63 #[.int .i64 a] w fun e w' => e = .returned (.bool (inn a 0 1125899906842624)) ∧ w = w' := by
 go_enter Try.func63, Try.ntmps63
 go_wp2
 all_goals go_ret
 all_goals exact ⟨by first | (simp_all [inn]; done) | (simp_all [inn]; intros; omega), rfl⟩
theorem tadd_any (x y : Int) (w : World) : Calls Try.prog 38 #[.int .i64 x, .int .i64 y] w fun e w' => e = .returned (.tuple #[.int .i64 (tadd x y).1, .bool (tadd x y).2]) ∧ w = w' := by
 have hx : inn x 0 1125899906842624 = decide (0 ≤ x ∧ x ≤ 1125899906842624) := by simp [inn]
 have hy : inn y 0 1125899906842624 = decide (0 ≤ y ∧ y ≤ 1125899906842624) := by simp [inn]
 by_cases h1 : 0 ≤ x ∧ x ≤ 1125899906842624
 ·by_cases h2 : 0 ≤ y ∧ y ≤ 1125899906842624
  ·by_cases h3 : x + y ≤ 1125899906842624
   ·have e : tadd x y = (x + y, true) := by unfold tadd; rw [if_pos ⟨h1, h2, h3⟩]
    rw [e]
    rw [decide_eq_true h1] at hx; rw [decide_eq_true h2] at hy
    clear e
    go_enter Try.func38, Try.ntmps38
    go_wp2_with (go_at_call 63; refine (coins_any _ _).mono ?_; rintro e w' ⟨rfl, rfl⟩)
    go_ret2
    exact ⟨rfl, rfl⟩
   ·have e : tadd x y = (0, false) := by unfold tadd; rw [if_neg (fun h => h3 h.2.2)]
    rw [e]
    rw [decide_eq_true h1] at hx; rw [decide_eq_true h2] at hy
    clear e
    go_enter Try.func38, Try.ntmps38
    go_wp2_with (go_at_call 63; refine (coins_any _ _).mono ?_; rintro e w' ⟨rfl, rfl⟩)
    go_ret2
    exact ⟨rfl, rfl⟩
  ·have e : tadd x y = (0, false) := by unfold tadd; rw [if_neg (fun h => h2 h.2.1)]
   rw [e]
   rw [decide_eq_true h1] at hx; rw [decide_eq_false h2] at hy
   clear e
   go_enter Try.func38, Try.ntmps38
   go_wp2_with (go_at_call 63; refine (coins_any _ _).mono ?_; rintro e w' ⟨rfl, rfl⟩)
   go_ret2
   exact ⟨rfl, rfl⟩
 ·have e : tadd x y = (0, false) := by unfold tadd; rw [if_neg (fun h => h1 h.1)]
  rw [e]
  rw [decide_eq_false h1] at hx
  clear e hy
  go_enter Try.func38, Try.ntmps38
  go_wp2_with (go_at_call 63; refine (coins_any _ _).mono ?_; rintro e w' ⟨rfl, rfl⟩)
  go_ret2
  exact ⟨rfl, rfl⟩

abbrev CV (x0 x1 x2 x3 x4 x5 x6 x7 x8 x9 x10 x11 x12 x13 x14 x15 x16 x17 x18 x19 x20 x21 x22 x23 x24 x25 x26 x27 x28 x29 x30 x31 n amt d r l c a m d' r' l' c' a' m' op : Int) (p0 p1 p2 p3 p4 q0 q1 q2 q3 q4 : Nat) : Value := .agg #[.int .u8 x0, .int .u8 x1, .int .u8 x2, .int .u8 x3, .int .u8 x4, .int .u8 x5, .int .u8 x6, .int .u8 x7, .int .u8 x8, .int .u8 x9, .int .u8 x10, .int .u8 x11, .int .u8 x12, .int .u8 x13, .int .u8 x14, .int .u8 x15, .int .u8 x16, .int .u8 x17, .int .u8 x18, .int .u8 x19, .int .u8 x20, .int .u8 x21, .int .u8 x22, .int .u8 x23, .int .u8 x24, .int .u8 x25, .int .u8 x26, .int .u8 x27, .int .u8 x28, .int .u8 x29, .int .u8 x30, .int .u8 x31, .int .i64 n, .int .i64 amt, .int .u64 (p0 : Int), .int .u64 (p1 : Int), .int .u64 (p2 : Int), .int .u64 (p3 : Int), .int .u64 (p4 : Int), .int .u64 (q0 : Int), .int .u64 (q1 : Int), .int .u64 (q2 : Int), .int .u64 (q3 : Int), .int .u64 (q4 : Int), .int .i64 d, .int .i64 r, .int .i64 l, .int .i64 c, .int .i64 a, .int .i64 m, .int .i64 d', .int .i64 r', .int .i64 l', .int .i64 c', .int .i64 a', .int .i64 m', .int .i64 op]

set_option maxHeartbeats 4000000 in
theorem fit_any (x0 x1 x2 x3 x4 x5 x6 x7 x8 x9 x10 x11 x12 x13 x14 x15 x16 x17 x18 x19 x20 x21 x22 x23 x24 x25 x26 x27 x28 x29 x30 x31 n amt d r l c a m d' r' l' c' a' m' op : Int) (p0 p1 p2 p3 p4 q0 q1 q2 q3 q4 : Nat) (hp0 : p0 < 18446744073709551616) (hp1 : p1 < 18446744073709551616) (hp2 : p2 < 18446744073709551616) (hp3 : p3 < 18446744073709551616) (hp4 : p4 < 18446744073709551616) (hq0 : q0 < 18446744073709551616) (hq1 : q1 < 18446744073709551616) (hq2 : q2 < 18446744073709551616) (hq3 : q3 < 18446744073709551616) (hq4 : q4 < 18446744073709551616) (hop : -9223372036854775808 ≤ op ∧ op ≤ 9223372036854775807) (w : World) :
  Calls Try.prog 25 #[CV x0 x1 x2 x3 x4 x5 x6 x7 x8 x9 x10 x11 x12 x13 x14 x15 x16 x17 x18 x19 x20 x21 x22 x23 x24 x25 x26 x27 x28 x29 x30 x31 n amt d r l c a m d' r' l' c' a' m' op p0 p1 p2 p3 p4 q0 q1 q2 q3 q4] w fun e w' => e = .returned (.int .i64 (tfit amt n op (tright d r l c a m) ([p0, p1, p2, p3, p4].all pown) (tright d' r' l' c' a' m') ([q0, q1, q2, q3, q4].all pown) r r')) ∧ Kp w w' := by
 have hA := andNot_op op hop
 have H0 := Lib.hid (fun w => tright_any d r l c a m w)
 have H1 := Lib.hid (fun w => tright_any d' r' l' c' a' m' w)
 have K0 := Lib.hid (fun w => points_any p0 p1 p2 p3 p4 hp0 hp1 hp2 hp3 hp4 w)
 have K1 := Lib.hid (fun w => points_any q0 q1 q2 q3 q4 hq0 hq1 hq2 hq3 hq4 w)
 have hr0 : tright d r l c a m = true → 0 ≤ r ∧ r ≤ 1125899906842624 := by simp [tright, inn]; omega
 have hr1 : tright d' r' l' c' a' m' = true → 0 ≤ r' ∧ r' ≤ 1125899906842624 := by simp [tright, inn]; omega
 obtain ⟨t0, ht0⟩ : ∃ t0, tright d r l c a m = t0 := ⟨_, rfl⟩
 obtain ⟨t1, ht1⟩ : ∃ t1, tright d' r' l' c' a' m' = t1 := ⟨_, rfl⟩
 obtain ⟨s0, hs0⟩ : ∃ s0, [p0, p1, p2, p3, p4].all pown = s0 := ⟨_, rfl⟩
 obtain ⟨s1, hs1⟩ : ∃ s1, [q0, q1, q2, q3, q4].all pown = s1 := ⟨_, rfl⟩
 rw [ht0] at H0 hr0 ⊢; rw [ht1] at H1 hr1 ⊢; rw [hs0] at K0 ⊢; rw [hs1] at K1 ⊢
 clear ht0 ht1 hs0 hs1
 by_cases hg : (1 ≤ amt ∧ amt ≤ 1125899906842624) ∧ (0 ≤ n ∧ n ≤ 63) ∧ (op = 0 ∨ op = 1)
 ·obtain ⟨⟨hg1, hg2⟩, ⟨hg3, hg4⟩, hg5⟩ := hg
  rw [decide_eq_false (fun h => h hg5)] at hA
  unfold tfit
  rw [if_neg (fun h => h ⟨⟨hg1, hg2⟩, ⟨hg3, hg4⟩, hg5⟩)]
  clear hg5
  have hI0 := idx_t0 d r l c a m d' r' l' c' a' m'
  have hI1 := idx_t1 d r l c a m d' r' l' c' a' m'
  go_enter Try.func25, Try.ntmps25
  go_wp2_with fail
  refine wp_loop_rounds 3 ?_
  rw [rounds_succ]
  cases t0
  ·go_wp2_with (first | (go_at_call 15; refine (H0.out _).mono ?_; rintro e w' ⟨rfl, o, rfl⟩) | (go_at_call 48; refine (K0.out _).mono ?_; rintro e w' ⟨rfl, o1, o2, k, rfl⟩))
   go_ret
   exact ⟨rfl, by repeat (first | exact Kp.refl _ | refine Kp.alloc ?_ _ | refine Kp.drewN ?_ _ | (refine Kp.setCell ?_ (by simp) _))⟩
  ·cases s0
   ·go_wp2_with (first | (go_at_call 15; refine (H0.out _).mono ?_; rintro e w' ⟨rfl, o, rfl⟩) | (go_at_call 48; refine (K0.out _).mono ?_; rintro e w' ⟨rfl, o1, o2, k, rfl⟩))
    go_ret
    exact ⟨rfl, by repeat (first | exact Kp.refl _ | refine Kp.alloc ?_ _ | refine Kp.drewN ?_ _ | (refine Kp.setCell ?_ (by simp) _))⟩
   ·go_wp2_with (first | (go_at_call 15; refine (H0.out _).mono ?_; rintro e w' ⟨rfl, o, rfl⟩) | (go_at_call 48; refine (K0.out _).mono ?_; rintro e w' ⟨rfl, o1, o2, k, rfl⟩))
    rw [rounds_succ]
    cases t1
    ·go_wp2_with (first | (go_at_call 15; refine (H1.out _).mono ?_; rintro e w' ⟨rfl, o, rfl⟩) | (go_at_call 48; refine (K1.out _).mono ?_; rintro e w' ⟨rfl, o1, o2, k, rfl⟩))
     go_ret
     exact ⟨rfl, by repeat (first | exact Kp.refl _ | refine Kp.alloc ?_ _ | refine Kp.drewN ?_ _ | (refine Kp.setCell ?_ (by simp) _))⟩
    ·cases s1
     ·go_wp2_with (first | (go_at_call 15; refine (H1.out _).mono ?_; rintro e w' ⟨rfl, o, rfl⟩) | (go_at_call 48; refine (K1.out _).mono ?_; rintro e w' ⟨rfl, o1, o2, k, rfl⟩))
      go_ret
      exact ⟨rfl, by repeat (first | exact Kp.refl _ | refine Kp.alloc ?_ _ | refine Kp.drewN ?_ _ | (refine Kp.setCell ?_ (by simp) _))⟩
     ·go_wp2_with (first | (go_at_call 15; refine (H1.out _).mono ?_; rintro e w' ⟨rfl, o, rfl⟩) | (go_at_call 48; refine (K1.out _).mono ?_; rintro e w' ⟨rfl, o1, o2, k, rfl⟩))
      rw [rounds_succ]
      have hr0' := hr0 (by trivial)
      have hr1' := hr1 (by trivial)
      clear hr0 hr1
      have HT := Lib.hid (fun w => tadd_any r r' w)
      by_cases hs : r + r' ≤ 1125899906842624
      ·have e : tadd r r' = (r + r', true) := by unfold tadd; rw [if_pos ⟨hr0', hr1', hs⟩]
       rw [e] at HT
       clear e
       by_cases hx : amt < r + r'
       ·go_wp2_with (go_at_call 38; refine (HT.out _).mono ?_; rintro e w' ⟨rfl, rfl⟩)
        go_ret
        exact ⟨by simp [hx], by repeat (first | exact Kp.refl _ | refine Kp.alloc ?_ _ | refine Kp.drewN ?_ _ | (refine Kp.setCell ?_ (by simp) _))⟩
       ·go_wp2_with (go_at_call 38; refine (HT.out _).mono ?_; rintro e w' ⟨rfl, rfl⟩)
        go_ret
        exact ⟨by simp [hx], by repeat (first | exact Kp.refl _ | refine Kp.alloc ?_ _ | refine Kp.drewN ?_ _ | (refine Kp.setCell ?_ (by simp) _))⟩
      ·have e : tadd r r' = (0, false) := by unfold tadd; rw [if_neg (fun h => hs h.2.2)]
       rw [e] at HT
       clear e
       have hx : amt < r + r' := by omega
       go_wp2_with (go_at_call 38; refine (HT.out _).mono ?_; rintro e w' ⟨rfl, rfl⟩)
       go_ret
       exact ⟨by simp [hx], by repeat (first | exact Kp.refl _ | refine Kp.alloc ?_ _ | refine Kp.drewN ?_ _ | (refine Kp.setCell ?_ (by simp) _))⟩
 ·unfold tfit
  rw [if_pos hg]
  by_cases h1 : 1 ≤ amt
  ·by_cases h2 : amt ≤ 1125899906842624
   ·by_cases h3 : 0 ≤ n
    ·by_cases h4 : n ≤ 63
     ·have h5 : ¬ (op = 0 ∨ op = 1) := fun h => hg ⟨⟨h1, h2⟩, ⟨h3, h4⟩, h⟩
      rw [decide_eq_true h5] at hA
      clear hg h5
      go_enter Try.func25, Try.ntmps25
      go_wp2_with fail
      go_ret
      exact ⟨rfl, by repeat (first | exact Kp.refl _ | refine Kp.alloc ?_ _ | refine Kp.drewN ?_ _ | (refine Kp.setCell ?_ (by simp) _))⟩
     ·clear hg hA
      go_enter Try.func25, Try.ntmps25
      go_wp2_with fail
      go_ret
      exact ⟨rfl, by repeat (first | exact Kp.refl _ | refine Kp.alloc ?_ _ | refine Kp.drewN ?_ _ | (refine Kp.setCell ?_ (by simp) _))⟩
    ·clear hg hA
     go_enter Try.func25, Try.ntmps25
     go_wp2_with fail
     go_ret
     exact ⟨rfl, by repeat (first | exact Kp.refl _ | refine Kp.alloc ?_ _ | refine Kp.drewN ?_ _ | (refine Kp.setCell ?_ (by simp) _))⟩
   ·clear hg hA
    go_enter Try.func25, Try.ntmps25
    go_wp2_with fail
    go_ret
    exact ⟨rfl, by repeat (first | exact Kp.refl _ | refine Kp.alloc ?_ _ | refine Kp.drewN ?_ _ | (refine Kp.setCell ?_ (by simp) _))⟩
  ·clear hg hA
   go_enter Try.func25, Try.ntmps25
   go_wp2_with fail
   go_ret
   exact ⟨rfl, by repeat (first | exact Kp.refl _ | refine Kp.alloc ?_ _ | refine Kp.drewN ?_ _ | (refine Kp.setCell ?_ (by simp) _))⟩

end Go.Proofs.Ytcdmmfelagbpdaa
