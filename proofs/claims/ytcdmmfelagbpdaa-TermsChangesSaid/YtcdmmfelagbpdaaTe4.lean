/- Contract of corsnedref19.Fit (printed by gente4.py). -/
import Derived.Test.YtcdmmfelagbpdaaTe3
namespace Go.Proofs.Ytcdmmfelagbpdaa
open Go.RowKit Go.Lib Ckp Cfd Cpd
set_option linter.unusedVariables false
set_option maxRecDepth 8192
set_option linter.unusedSimpArgs false
theorem inn_yes {n lo hi : Int} (h : lo ≤ n ∧ n ≤ hi) : inn n lo hi = true := by simp [inn]; exact h
theorem inn_no {n lo hi : Int} (h : ¬ (lo ≤ n ∧ n ≤ hi)) : inn n lo hi = false := by simp [inn]; omega

set_option maxHeartbeats 8000000 in
theorem rfit_any (x0 x1 x2 x3 x4 x5 x6 x7 x8 x9 x10 x11 x12 x13 x14 x15 x16 x17 x18 x19 x20 x21 x22 x23 x24 x25 x26 x27 x28 x29 x30 x31 n amt d r l c a m d' r' l' c' a' m' op : Int) (p0 p1 p2 p3 p4 q0 q1 q2 q3 q4 : Nat) (hp0 : p0 < 18446744073709551616) (hp1 : p1 < 18446744073709551616) (hp2 : p2 < 18446744073709551616) (hp3 : p3 < 18446744073709551616) (hp4 : p4 < 18446744073709551616) (hq0 : q0 < 18446744073709551616) (hq1 : q1 < 18446744073709551616) (hq2 : q2 < 18446744073709551616) (hq3 : q3 < 18446744073709551616) (hq4 : q4 < 18446744073709551616) (hop : -9223372036854775808 ≤ op ∧ op ≤ 9223372036854775807) (w : World) :
    Calls Try.prog 26 #[CV x0 x1 x2 x3 x4 x5 x6 x7 x8 x9 x10 x11 x12 x13 x14 x15 x16 x17 x18 x19 x20 x21 x22 x23 x24 x25 x26 x27 x28 x29 x30 x31 n amt d r l c a m d' r' l' c' a' m' op p0 p1 p2 p3 p4 q0 q1 q2 q3 q4] w fun e w' => e = .returned (.int .i64 (tfit amt n op (tright d r l c a m) ([p0, p1, p2, p3, p4].all pown) (tright d' r' l' c' a' m') ([q0, q1, q2, q3, q4].all pown) r r')) ∧ Kp w w' := by
  have H0 := Lib.hid (fun w => rtright_any d r l c a m w)
  have B00 := Lib.hid (fun w => rown_any p0 w)
  have B01 := Lib.hid (fun w => rown_any p1 w)
  have B02 := Lib.hid (fun w => rown_any p2 w)
  have B03 := Lib.hid (fun w => rown_any p3 w)
  have B04 := Lib.hid (fun w => rown_any p4 w)
  have hr0 : tright d r l c a m = true → 0 ≤ r ∧ r ≤ 1125899906842624 := by simp [tright, inn]; omega
  have hs0 : [p0, p1, p2, p3, p4].all pown = (pown p0 && (pown p1 && (pown p2 && (pown p3 && pown p4)))) := by simp
  rw [hs0]
  clear hs0
  obtain ⟨t0, ht0⟩ : ∃ t, tright d r l c a m = t := ⟨_, rfl⟩
  rw [ht0] at H0 hr0 ⊢
  clear ht0
  obtain ⟨b00, hb⟩ : ∃ t, pown p0 = t := ⟨_, rfl⟩
  rw [hb] at B00 ⊢
  clear hb
  obtain ⟨b01, hb⟩ : ∃ t, pown p1 = t := ⟨_, rfl⟩
  rw [hb] at B01 ⊢
  clear hb
  obtain ⟨b02, hb⟩ : ∃ t, pown p2 = t := ⟨_, rfl⟩
  rw [hb] at B02 ⊢
  clear hb
  obtain ⟨b03, hb⟩ : ∃ t, pown p3 = t := ⟨_, rfl⟩
  rw [hb] at B03 ⊢
  clear hb
  obtain ⟨b04, hb⟩ : ∃ t, pown p4 = t := ⟨_, rfl⟩
  rw [hb] at B04 ⊢
  clear hb
  have H1 := Lib.hid (fun w => rtright_any d' r' l' c' a' m' w)
  have B10 := Lib.hid (fun w => rown_any q0 w)
  have B11 := Lib.hid (fun w => rown_any q1 w)
  have B12 := Lib.hid (fun w => rown_any q2 w)
  have B13 := Lib.hid (fun w => rown_any q3 w)
  have B14 := Lib.hid (fun w => rown_any q4 w)
  have hr1 : tright d' r' l' c' a' m' = true → 0 ≤ r' ∧ r' ≤ 1125899906842624 := by simp [tright, inn]; omega
  have hs1 : [q0, q1, q2, q3, q4].all pown = (pown q0 && (pown q1 && (pown q2 && (pown q3 && pown q4)))) := by simp
  rw [hs1]
  clear hs1
  obtain ⟨t1, ht1⟩ : ∃ t, tright d' r' l' c' a' m' = t := ⟨_, rfl⟩
  rw [ht1] at H1 hr1 ⊢
  clear ht1
  obtain ⟨b10, hb⟩ : ∃ t, pown q0 = t := ⟨_, rfl⟩
  rw [hb] at B10 ⊢
  clear hb
  obtain ⟨b11, hb⟩ : ∃ t, pown q1 = t := ⟨_, rfl⟩
  rw [hb] at B11 ⊢
  clear hb
  obtain ⟨b12, hb⟩ : ∃ t, pown q2 = t := ⟨_, rfl⟩
  rw [hb] at B12 ⊢
  clear hb
  obtain ⟨b13, hb⟩ : ∃ t, pown q3 = t := ⟨_, rfl⟩
  rw [hb] at B13 ⊢
  clear hb
  obtain ⟨b14, hb⟩ : ∃ t, pown q4 = t := ⟨_, rfl⟩
  rw [hb] at B14 ⊢
  clear hb
  have HI1 := Lib.hid (fun w => rin_any amt 1 1125899906842624 w)
  have HI2 := Lib.hid (fun w => rin_any n 0 63 w)
  have HI3 := Lib.hid (fun w => rin_any op 0 1 w)
  by_cases hg1 : 1 ≤ amt ∧ amt ≤ 1125899906842624
  · rw [inn_yes hg1] at HI1
    by_cases hg2 : 0 ≤ n ∧ n ≤ 63
    · rw [inn_yes hg2] at HI2
      by_cases hg3 : 0 ≤ op ∧ op ≤ 1
      · rw [inn_yes hg3] at HI3
        unfold tfit
        rw [if_neg (fun h => h ⟨hg1, hg2, by omega⟩)]
        clear hg3 hop
        go_enter Try.func26, Try.ntmps26
        go_wp2_with (first | (go_at_call 47; with_reducible (refine (HI1.out _).mono ?_); rintro e w' ⟨rfl, rfl⟩) | (go_at_call 47; with_reducible (refine (HI2.out _).mono ?_); rintro e w' ⟨rfl, rfl⟩) | (go_at_call 47; with_reducible (refine (HI3.out _).mono ?_); rintro e w' ⟨rfl, rfl⟩))
        refine wp_loop_rounds 3 ?_
        rw [rounds_succ]
        cases t0
        · go_wp2_with (first | (go_at_call 47; with_reducible (refine (HI1.out _).mono ?_); rintro e w' ⟨rfl, rfl⟩) | (go_at_call 47; with_reducible (refine (HI2.out _).mono ?_); rintro e w' ⟨rfl, rfl⟩) | (go_at_call 47; with_reducible (refine (HI3.out _).mono ?_); rintro e w' ⟨rfl, rfl⟩) | (go_at_call 16; with_reducible (refine (H0.out _).mono ?_); rintro e w' ⟨rfl, o, rfl⟩))
          go_ret
          exact ⟨rfl, by repeat (first | exact Kp.refl _ | with_reducible refine Kp.alloc ?_ _ | with_reducible refine Kp.drewN ?_ _ | (with_reducible refine Kp.setCell ?_ (by simp) _))⟩
        · go_wp2_with (first | (go_at_call 47; with_reducible (refine (HI1.out _).mono ?_); rintro e w' ⟨rfl, rfl⟩) | (go_at_call 47; with_reducible (refine (HI2.out _).mono ?_); rintro e w' ⟨rfl, rfl⟩) | (go_at_call 47; with_reducible (refine (HI3.out _).mono ?_); rintro e w' ⟨rfl, rfl⟩) | (go_at_call 16; with_reducible (refine (H0.out _).mono ?_); rintro e w' ⟨rfl, o, rfl⟩))
          refine wp_loop_rounds 6 ?_
          rw [rounds_succ]
          cases b00
          · go_wp2_with (first | (go_at_call 47; with_reducible (refine (HI1.out _).mono ?_); rintro e w' ⟨rfl, rfl⟩) | (go_at_call 47; with_reducible (refine (HI2.out _).mono ?_); rintro e w' ⟨rfl, rfl⟩) | (go_at_call 47; with_reducible (refine (HI3.out _).mono ?_); rintro e w' ⟨rfl, rfl⟩) | (go_at_call 16; with_reducible (refine (H0.out _).mono ?_); rintro e w' ⟨rfl, o, rfl⟩) | (go_at_call 49; with_reducible (refine (B00.out _).mono ?_); rintro e w' ⟨rfl, rfl⟩))
            go_ret
            exact ⟨rfl, by repeat (first | exact Kp.refl _ | with_reducible refine Kp.alloc ?_ _ | with_reducible refine Kp.drewN ?_ _ | (with_reducible refine Kp.setCell ?_ (by simp) _))⟩
          · go_wp2_with (first | (go_at_call 47; with_reducible (refine (HI1.out _).mono ?_); rintro e w' ⟨rfl, rfl⟩) | (go_at_call 47; with_reducible (refine (HI2.out _).mono ?_); rintro e w' ⟨rfl, rfl⟩) | (go_at_call 47; with_reducible (refine (HI3.out _).mono ?_); rintro e w' ⟨rfl, rfl⟩) | (go_at_call 16; with_reducible (refine (H0.out _).mono ?_); rintro e w' ⟨rfl, o, rfl⟩) | (go_at_call 49; with_reducible (refine (B00.out _).mono ?_); rintro e w' ⟨rfl, rfl⟩))
            rw [rounds_succ]
            cases b01
            · go_wp2_with (first | (go_at_call 47; with_reducible (refine (HI1.out _).mono ?_); rintro e w' ⟨rfl, rfl⟩) | (go_at_call 47; with_reducible (refine (HI2.out _).mono ?_); rintro e w' ⟨rfl, rfl⟩) | (go_at_call 47; with_reducible (refine (HI3.out _).mono ?_); rintro e w' ⟨rfl, rfl⟩) | (go_at_call 16; with_reducible (refine (H0.out _).mono ?_); rintro e w' ⟨rfl, o, rfl⟩) | (go_at_call 49; with_reducible (refine (B01.out _).mono ?_); rintro e w' ⟨rfl, rfl⟩))
              go_ret
              exact ⟨rfl, by repeat (first | exact Kp.refl _ | with_reducible refine Kp.alloc ?_ _ | with_reducible refine Kp.drewN ?_ _ | (with_reducible refine Kp.setCell ?_ (by simp) _))⟩
            · go_wp2_with (first | (go_at_call 47; with_reducible (refine (HI1.out _).mono ?_); rintro e w' ⟨rfl, rfl⟩) | (go_at_call 47; with_reducible (refine (HI2.out _).mono ?_); rintro e w' ⟨rfl, rfl⟩) | (go_at_call 47; with_reducible (refine (HI3.out _).mono ?_); rintro e w' ⟨rfl, rfl⟩) | (go_at_call 16; with_reducible (refine (H0.out _).mono ?_); rintro e w' ⟨rfl, o, rfl⟩) | (go_at_call 49; with_reducible (refine (B01.out _).mono ?_); rintro e w' ⟨rfl, rfl⟩))
              rw [rounds_succ]
              cases b02
              · go_wp2_with (first | (go_at_call 47; with_reducible (refine (HI1.out _).mono ?_); rintro e w' ⟨rfl, rfl⟩) | (go_at_call 47; with_reducible (refine (HI2.out _).mono ?_); rintro e w' ⟨rfl, rfl⟩) | (go_at_call 47; with_reducible (refine (HI3.out _).mono ?_); rintro e w' ⟨rfl, rfl⟩) | (go_at_call 16; with_reducible (refine (H0.out _).mono ?_); rintro e w' ⟨rfl, o, rfl⟩) | (go_at_call 49; with_reducible (refine (B02.out _).mono ?_); rintro e w' ⟨rfl, rfl⟩))
                go_ret
                exact ⟨rfl, by repeat (first | exact Kp.refl _ | with_reducible refine Kp.alloc ?_ _ | with_reducible refine Kp.drewN ?_ _ | (with_reducible refine Kp.setCell ?_ (by simp) _))⟩
              · go_wp2_with (first | (go_at_call 47; with_reducible (refine (HI1.out _).mono ?_); rintro e w' ⟨rfl, rfl⟩) | (go_at_call 47; with_reducible (refine (HI2.out _).mono ?_); rintro e w' ⟨rfl, rfl⟩) | (go_at_call 47; with_reducible (refine (HI3.out _).mono ?_); rintro e w' ⟨rfl, rfl⟩) | (go_at_call 16; with_reducible (refine (H0.out _).mono ?_); rintro e w' ⟨rfl, o, rfl⟩) | (go_at_call 49; with_reducible (refine (B02.out _).mono ?_); rintro e w' ⟨rfl, rfl⟩))
                rw [rounds_succ]
                cases b03
                · go_wp2_with (first | (go_at_call 47; with_reducible (refine (HI1.out _).mono ?_); rintro e w' ⟨rfl, rfl⟩) | (go_at_call 47; with_reducible (refine (HI2.out _).mono ?_); rintro e w' ⟨rfl, rfl⟩) | (go_at_call 47; with_reducible (refine (HI3.out _).mono ?_); rintro e w' ⟨rfl, rfl⟩) | (go_at_call 16; with_reducible (refine (H0.out _).mono ?_); rintro e w' ⟨rfl, o, rfl⟩) | (go_at_call 49; with_reducible (refine (B03.out _).mono ?_); rintro e w' ⟨rfl, rfl⟩))
                  go_ret
                  exact ⟨rfl, by repeat (first | exact Kp.refl _ | with_reducible refine Kp.alloc ?_ _ | with_reducible refine Kp.drewN ?_ _ | (with_reducible refine Kp.setCell ?_ (by simp) _))⟩
                · go_wp2_with (first | (go_at_call 47; with_reducible (refine (HI1.out _).mono ?_); rintro e w' ⟨rfl, rfl⟩) | (go_at_call 47; with_reducible (refine (HI2.out _).mono ?_); rintro e w' ⟨rfl, rfl⟩) | (go_at_call 47; with_reducible (refine (HI3.out _).mono ?_); rintro e w' ⟨rfl, rfl⟩) | (go_at_call 16; with_reducible (refine (H0.out _).mono ?_); rintro e w' ⟨rfl, o, rfl⟩) | (go_at_call 49; with_reducible (refine (B03.out _).mono ?_); rintro e w' ⟨rfl, rfl⟩))
                  rw [rounds_succ]
                  cases b04
                  · go_wp2_with (first | (go_at_call 47; with_reducible (refine (HI1.out _).mono ?_); rintro e w' ⟨rfl, rfl⟩) | (go_at_call 47; with_reducible (refine (HI2.out _).mono ?_); rintro e w' ⟨rfl, rfl⟩) | (go_at_call 47; with_reducible (refine (HI3.out _).mono ?_); rintro e w' ⟨rfl, rfl⟩) | (go_at_call 16; with_reducible (refine (H0.out _).mono ?_); rintro e w' ⟨rfl, o, rfl⟩) | (go_at_call 49; with_reducible (refine (B04.out _).mono ?_); rintro e w' ⟨rfl, rfl⟩))
                    go_ret
                    exact ⟨rfl, by repeat (first | exact Kp.refl _ | with_reducible refine Kp.alloc ?_ _ | with_reducible refine Kp.drewN ?_ _ | (with_reducible refine Kp.setCell ?_ (by simp) _))⟩
                  · go_wp2_with (first | (go_at_call 47; with_reducible (refine (HI1.out _).mono ?_); rintro e w' ⟨rfl, rfl⟩) | (go_at_call 47; with_reducible (refine (HI2.out _).mono ?_); rintro e w' ⟨rfl, rfl⟩) | (go_at_call 47; with_reducible (refine (HI3.out _).mono ?_); rintro e w' ⟨rfl, rfl⟩) | (go_at_call 16; with_reducible (refine (H0.out _).mono ?_); rintro e w' ⟨rfl, o, rfl⟩) | (go_at_call 49; with_reducible (refine (B04.out _).mono ?_); rintro e w' ⟨rfl, rfl⟩))
                    rw [rounds_succ]
                    go_wp2_with (first | (go_at_call 47; with_reducible (refine (HI1.out _).mono ?_); rintro e w' ⟨rfl, rfl⟩) | (go_at_call 47; with_reducible (refine (HI2.out _).mono ?_); rintro e w' ⟨rfl, rfl⟩) | (go_at_call 47; with_reducible (refine (HI3.out _).mono ?_); rintro e w' ⟨rfl, rfl⟩) | (go_at_call 16; with_reducible (refine (H0.out _).mono ?_); rintro e w' ⟨rfl, o, rfl⟩))
                    rw [rounds_succ]
                    cases t1
                    · go_wp2_with (first | (go_at_call 47; with_reducible (refine (HI1.out _).mono ?_); rintro e w' ⟨rfl, rfl⟩) | (go_at_call 47; with_reducible (refine (HI2.out _).mono ?_); rintro e w' ⟨rfl, rfl⟩) | (go_at_call 47; with_reducible (refine (HI3.out _).mono ?_); rintro e w' ⟨rfl, rfl⟩) | (go_at_call 16; with_reducible (refine (H1.out _).mono ?_); rintro e w' ⟨rfl, o, rfl⟩))
                      go_ret
                      exact ⟨rfl, by repeat (first | exact Kp.refl _ | with_reducible refine Kp.alloc ?_ _ | with_reducible refine Kp.drewN ?_ _ | (with_reducible refine Kp.setCell ?_ (by simp) _))⟩
                    · go_wp2_with (first | (go_at_call 47; with_reducible (refine (HI1.out _).mono ?_); rintro e w' ⟨rfl, rfl⟩) | (go_at_call 47; with_reducible (refine (HI2.out _).mono ?_); rintro e w' ⟨rfl, rfl⟩) | (go_at_call 47; with_reducible (refine (HI3.out _).mono ?_); rintro e w' ⟨rfl, rfl⟩) | (go_at_call 16; with_reducible (refine (H1.out _).mono ?_); rintro e w' ⟨rfl, o, rfl⟩))
                      refine wp_loop_rounds 6 ?_
                      rw [rounds_succ]
                      cases b10
                      · go_wp2_with (first | (go_at_call 47; with_reducible (refine (HI1.out _).mono ?_); rintro e w' ⟨rfl, rfl⟩) | (go_at_call 47; with_reducible (refine (HI2.out _).mono ?_); rintro e w' ⟨rfl, rfl⟩) | (go_at_call 47; with_reducible (refine (HI3.out _).mono ?_); rintro e w' ⟨rfl, rfl⟩) | (go_at_call 16; with_reducible (refine (H1.out _).mono ?_); rintro e w' ⟨rfl, o, rfl⟩) | (go_at_call 49; with_reducible (refine (B10.out _).mono ?_); rintro e w' ⟨rfl, rfl⟩))
                        go_ret
                        exact ⟨rfl, by repeat (first | exact Kp.refl _ | with_reducible refine Kp.alloc ?_ _ | with_reducible refine Kp.drewN ?_ _ | (with_reducible refine Kp.setCell ?_ (by simp) _))⟩
                      · go_wp2_with (first | (go_at_call 47; with_reducible (refine (HI1.out _).mono ?_); rintro e w' ⟨rfl, rfl⟩) | (go_at_call 47; with_reducible (refine (HI2.out _).mono ?_); rintro e w' ⟨rfl, rfl⟩) | (go_at_call 47; with_reducible (refine (HI3.out _).mono ?_); rintro e w' ⟨rfl, rfl⟩) | (go_at_call 16; with_reducible (refine (H1.out _).mono ?_); rintro e w' ⟨rfl, o, rfl⟩) | (go_at_call 49; with_reducible (refine (B10.out _).mono ?_); rintro e w' ⟨rfl, rfl⟩))
                        rw [rounds_succ]
                        cases b11
                        · go_wp2_with (first | (go_at_call 47; with_reducible (refine (HI1.out _).mono ?_); rintro e w' ⟨rfl, rfl⟩) | (go_at_call 47; with_reducible (refine (HI2.out _).mono ?_); rintro e w' ⟨rfl, rfl⟩) | (go_at_call 47; with_reducible (refine (HI3.out _).mono ?_); rintro e w' ⟨rfl, rfl⟩) | (go_at_call 16; with_reducible (refine (H1.out _).mono ?_); rintro e w' ⟨rfl, o, rfl⟩) | (go_at_call 49; with_reducible (refine (B11.out _).mono ?_); rintro e w' ⟨rfl, rfl⟩))
                          go_ret
                          exact ⟨rfl, by repeat (first | exact Kp.refl _ | with_reducible refine Kp.alloc ?_ _ | with_reducible refine Kp.drewN ?_ _ | (with_reducible refine Kp.setCell ?_ (by simp) _))⟩
                        · go_wp2_with (first | (go_at_call 47; with_reducible (refine (HI1.out _).mono ?_); rintro e w' ⟨rfl, rfl⟩) | (go_at_call 47; with_reducible (refine (HI2.out _).mono ?_); rintro e w' ⟨rfl, rfl⟩) | (go_at_call 47; with_reducible (refine (HI3.out _).mono ?_); rintro e w' ⟨rfl, rfl⟩) | (go_at_call 16; with_reducible (refine (H1.out _).mono ?_); rintro e w' ⟨rfl, o, rfl⟩) | (go_at_call 49; with_reducible (refine (B11.out _).mono ?_); rintro e w' ⟨rfl, rfl⟩))
                          rw [rounds_succ]
                          cases b12
                          · go_wp2_with (first | (go_at_call 47; with_reducible (refine (HI1.out _).mono ?_); rintro e w' ⟨rfl, rfl⟩) | (go_at_call 47; with_reducible (refine (HI2.out _).mono ?_); rintro e w' ⟨rfl, rfl⟩) | (go_at_call 47; with_reducible (refine (HI3.out _).mono ?_); rintro e w' ⟨rfl, rfl⟩) | (go_at_call 16; with_reducible (refine (H1.out _).mono ?_); rintro e w' ⟨rfl, o, rfl⟩) | (go_at_call 49; with_reducible (refine (B12.out _).mono ?_); rintro e w' ⟨rfl, rfl⟩))
                            go_ret
                            exact ⟨rfl, by repeat (first | exact Kp.refl _ | with_reducible refine Kp.alloc ?_ _ | with_reducible refine Kp.drewN ?_ _ | (with_reducible refine Kp.setCell ?_ (by simp) _))⟩
                          · go_wp2_with (first | (go_at_call 47; with_reducible (refine (HI1.out _).mono ?_); rintro e w' ⟨rfl, rfl⟩) | (go_at_call 47; with_reducible (refine (HI2.out _).mono ?_); rintro e w' ⟨rfl, rfl⟩) | (go_at_call 47; with_reducible (refine (HI3.out _).mono ?_); rintro e w' ⟨rfl, rfl⟩) | (go_at_call 16; with_reducible (refine (H1.out _).mono ?_); rintro e w' ⟨rfl, o, rfl⟩) | (go_at_call 49; with_reducible (refine (B12.out _).mono ?_); rintro e w' ⟨rfl, rfl⟩))
                            rw [rounds_succ]
                            cases b13
                            · go_wp2_with (first | (go_at_call 47; with_reducible (refine (HI1.out _).mono ?_); rintro e w' ⟨rfl, rfl⟩) | (go_at_call 47; with_reducible (refine (HI2.out _).mono ?_); rintro e w' ⟨rfl, rfl⟩) | (go_at_call 47; with_reducible (refine (HI3.out _).mono ?_); rintro e w' ⟨rfl, rfl⟩) | (go_at_call 16; with_reducible (refine (H1.out _).mono ?_); rintro e w' ⟨rfl, o, rfl⟩) | (go_at_call 49; with_reducible (refine (B13.out _).mono ?_); rintro e w' ⟨rfl, rfl⟩))
                              go_ret
                              exact ⟨rfl, by repeat (first | exact Kp.refl _ | with_reducible refine Kp.alloc ?_ _ | with_reducible refine Kp.drewN ?_ _ | (with_reducible refine Kp.setCell ?_ (by simp) _))⟩
                            · go_wp2_with (first | (go_at_call 47; with_reducible (refine (HI1.out _).mono ?_); rintro e w' ⟨rfl, rfl⟩) | (go_at_call 47; with_reducible (refine (HI2.out _).mono ?_); rintro e w' ⟨rfl, rfl⟩) | (go_at_call 47; with_reducible (refine (HI3.out _).mono ?_); rintro e w' ⟨rfl, rfl⟩) | (go_at_call 16; with_reducible (refine (H1.out _).mono ?_); rintro e w' ⟨rfl, o, rfl⟩) | (go_at_call 49; with_reducible (refine (B13.out _).mono ?_); rintro e w' ⟨rfl, rfl⟩))
                              rw [rounds_succ]
                              cases b14
                              · go_wp2_with (first | (go_at_call 47; with_reducible (refine (HI1.out _).mono ?_); rintro e w' ⟨rfl, rfl⟩) | (go_at_call 47; with_reducible (refine (HI2.out _).mono ?_); rintro e w' ⟨rfl, rfl⟩) | (go_at_call 47; with_reducible (refine (HI3.out _).mono ?_); rintro e w' ⟨rfl, rfl⟩) | (go_at_call 16; with_reducible (refine (H1.out _).mono ?_); rintro e w' ⟨rfl, o, rfl⟩) | (go_at_call 49; with_reducible (refine (B14.out _).mono ?_); rintro e w' ⟨rfl, rfl⟩))
                                go_ret
                                exact ⟨rfl, by repeat (first | exact Kp.refl _ | with_reducible refine Kp.alloc ?_ _ | with_reducible refine Kp.drewN ?_ _ | (with_reducible refine Kp.setCell ?_ (by simp) _))⟩
                              · go_wp2_with (first | (go_at_call 47; with_reducible (refine (HI1.out _).mono ?_); rintro e w' ⟨rfl, rfl⟩) | (go_at_call 47; with_reducible (refine (HI2.out _).mono ?_); rintro e w' ⟨rfl, rfl⟩) | (go_at_call 47; with_reducible (refine (HI3.out _).mono ?_); rintro e w' ⟨rfl, rfl⟩) | (go_at_call 16; with_reducible (refine (H1.out _).mono ?_); rintro e w' ⟨rfl, o, rfl⟩) | (go_at_call 49; with_reducible (refine (B14.out _).mono ?_); rintro e w' ⟨rfl, rfl⟩))
                                rw [rounds_succ]
                                go_wp2_with (first | (go_at_call 47; with_reducible (refine (HI1.out _).mono ?_); rintro e w' ⟨rfl, rfl⟩) | (go_at_call 47; with_reducible (refine (HI2.out _).mono ?_); rintro e w' ⟨rfl, rfl⟩) | (go_at_call 47; with_reducible (refine (HI3.out _).mono ?_); rintro e w' ⟨rfl, rfl⟩) | (go_at_call 16; with_reducible (refine (H1.out _).mono ?_); rintro e w' ⟨rfl, o, rfl⟩))
                                rw [rounds_succ]
                                have hr0' := hr0 (by trivial)
                                have hr1' := hr1 (by trivial)
                                clear hr0 hr1
                                by_cases hx : amt < r + r'
                                · go_wp2_with fail
                                  go_ret
                                  exact ⟨by simp [hx], by repeat (first | exact Kp.refl _ | with_reducible refine Kp.alloc ?_ _ | with_reducible refine Kp.drewN ?_ _ | (with_reducible refine Kp.setCell ?_ (by simp) _))⟩
                                · go_wp2_with fail
                                  go_ret
                                  exact ⟨by simp [hx], by repeat (first | exact Kp.refl _ | with_reducible refine Kp.alloc ?_ _ | with_reducible refine Kp.drewN ?_ _ | (with_reducible refine Kp.setCell ?_ (by simp) _))⟩
      · rw [inn_no hg3] at HI3
        unfold tfit
        rw [if_pos (fun h => hg3 (by have := h.2.2; omega))]
        go_enter Try.func26, Try.ntmps26
        go_wp2_with (first | (go_at_call 47; with_reducible (refine (HI1.out _).mono ?_); rintro e w' ⟨rfl, rfl⟩) | (go_at_call 47; with_reducible (refine (HI2.out _).mono ?_); rintro e w' ⟨rfl, rfl⟩) | (go_at_call 47; with_reducible (refine (HI3.out _).mono ?_); rintro e w' ⟨rfl, rfl⟩))
        go_ret
        exact ⟨rfl, by repeat (first | exact Kp.refl _ | with_reducible refine Kp.alloc ?_ _ | with_reducible refine Kp.drewN ?_ _ | (with_reducible refine Kp.setCell ?_ (by simp) _))⟩
    · rw [inn_no hg2] at HI2
      unfold tfit
      rw [if_pos (fun h => hg2 h.2.1)]
      go_enter Try.func26, Try.ntmps26
      go_wp2_with (first | (go_at_call 47; with_reducible (refine (HI1.out _).mono ?_); rintro e w' ⟨rfl, rfl⟩) | (go_at_call 47; with_reducible (refine (HI2.out _).mono ?_); rintro e w' ⟨rfl, rfl⟩) | (go_at_call 47; with_reducible (refine (HI3.out _).mono ?_); rintro e w' ⟨rfl, rfl⟩))
      go_ret
      exact ⟨rfl, by repeat (first | exact Kp.refl _ | with_reducible refine Kp.alloc ?_ _ | with_reducible refine Kp.drewN ?_ _ | (with_reducible refine Kp.setCell ?_ (by simp) _))⟩
  · rw [inn_no hg1] at HI1
    unfold tfit
    rw [if_pos (fun h => hg1 h.1)]
    go_enter Try.func26, Try.ntmps26
    go_wp2_with (first | (go_at_call 47; with_reducible (refine (HI1.out _).mono ?_); rintro e w' ⟨rfl, rfl⟩) | (go_at_call 47; with_reducible (refine (HI2.out _).mono ?_); rintro e w' ⟨rfl, rfl⟩) | (go_at_call 47; with_reducible (refine (HI3.out _).mono ?_); rintro e w' ⟨rfl, rfl⟩))
    go_ret
    exact ⟨rfl, by repeat (first | exact Kp.refl _ | with_reducible refine Kp.alloc ?_ _ | with_reducible refine Kp.drewN ?_ _ | (with_reducible refine Kp.setCell ?_ (by simp) _))⟩
end Go.Proofs.Ytcdmmfelagbpdaa
