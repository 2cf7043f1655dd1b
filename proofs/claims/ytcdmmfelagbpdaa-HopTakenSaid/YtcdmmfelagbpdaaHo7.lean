/- Contracts of hop.Last and its reference (printed by genho7.py). -/
import Derived.Test.YtcdmmfelagbpdaaHo6
namespace Go.Proofs.Ytcdmmfelagbpdaa
open Go.RowKit Go.Lib Ckp Cfd Cpd Cwl
set_option linter.unusedVariables false
set_option linter.unusedSimpArgs false
set_option maxRecDepth 8192
/-- What the end of a way is told. -/
def hlast (n : Int) (T X V : Bool) (xq z : Nat) (xa a xe e h nap : Int) : Int :=
 if n ≠ -1 ∨ (T && X && V) = false then 1 else if xq ≠ z then 23 else if xa < a then 13 else if xe < e ∨ xe - h ≤ nap then 16 else 0
def last (n a e : Int) (q bl : Nat) (xa xe : Int) (xq : Nat) (h j r nap : Int) : Int :=
 hlast n (hpassed a e q) (hpassed xa xe xq) (hworld h j r nap) xq (padd q (pbase bl)) xa a xe e h nap

set_option maxHeartbeats 4000000 in
theorem last_any (n c a e xf xi xa xe h j r nap : Int) (q bl xq : Nat) (hq : q < 18446744073709551616) (hxq : xq < 18446744073709551616) (w : World) : Calls Try.prog 36 #[HvH n c a e q bl, QV xf xi xa xq xe, .int .i64 h, BV j r nap] w fun e' w' => e' = .returned (.int .i64 (last n a e q bl xa xe xq h j r nap)) ∧ Kp w w' := by
 have HO := Lib.hid (fun w => told_any n c a e q bl w)
 have HT := Lib.hid (fun w => hpassed_any 0 0 a q hq e w)
 have HX := Lib.hid (fun w => hpassed_any xf xi xa xq hxq xe w)
 have HW := Lib.hid (fun w => hworld_any h j r nap w)
 have HN : Hid (pright q = true → ∀ w, Calls Try.prog 55 #[HvH n c a e q bl] w fun e' w' => e' = .returned (.int .u64 (padd q (pbase bl) : Nat)) ∧ Kp w w') := Lib.hid (fun hr w => hown_any n c a e q bl hq hr w)
 have hb2 := fun k => hpassed_iff (a := xa) (e := xe) (q := xq) k
 have hb3 := fun k => hpassed_iff (a := a) (e := e) (q := q) k
 have hb4 := fun k => hworld_iff (h := h) (j := j) (b := r) (n := nap) k
 unfold last
 clear hq hxq
 generalize hpassed a e q = T at *
 generalize hpassed xa xe xq = X at *
 generalize hworld h j r nap = V at *
 generalize padd q (pbase bl) = z at *
 have Rh := Lib.hid (heap_kp (heap_new_at w (.cells #[.int .i64 n, .int .i64 c, .int .i64 a, .int .i64 e, .int .u64 (q : Int), .int .u64 (bl : Int)] 55) (k := w.heap.size) rfl) (((Kp.refl (w.alloc (.cells #[.int .i64 n, .int .i64 c, .int .i64 a, .int .i64 e, .int .u64 (q : Int), .int .u64 (bl : Int)] 55))).alloc (.cells #[.int .i64 xf, .int .i64 xi, .int .i64 xa, .int .u64 (xq : Int), .int .i64 xe] 52)).alloc (.cells #[.int .i64 j, .int .i64 r, .int .i64 nap] 57)))
 have Rx := Lib.hid (heap_kp (heap_new_at (w.alloc (.cells #[.int .i64 n, .int .i64 c, .int .i64 a, .int .i64 e, .int .u64 (q : Int), .int .u64 (bl : Int)] 55)) (.cells #[.int .i64 xf, .int .i64 xi, .int .i64 xa, .int .u64 (xq : Int), .int .i64 xe] 52) (k := w.heap.size + 1) (by simp)) ((Kp.refl _).alloc (.cells #[.int .i64 j, .int .i64 r, .int .i64 nap] 57)))
 have Rb := Lib.hid (heap_new_at ((w.alloc (.cells #[.int .i64 n, .int .i64 c, .int .i64 a, .int .i64 e, .int .u64 (q : Int), .int .u64 (bl : Int)] 55)).alloc (.cells #[.int .i64 xf, .int .i64 xi, .int .i64 xa, .int .u64 (xq : Int), .int .i64 xe] 52)) (.cells #[.int .i64 j, .int .i64 r, .int .i64 nap] 57) (k := w.heap.size + 2) (by simp))
 have hK := Kp.refl (((w.alloc (.cells #[.int .i64 n, .int .i64 c, .int .i64 a, .int .i64 e, .int .u64 (q : Int), .int .u64 (bl : Int)] 55)).alloc (.cells #[.int .i64 xf, .int .i64 xi, .int .i64 xa, .int .u64 (xq : Int), .int .i64 xe] 52)).alloc (.cells #[.int .i64 j, .int .i64 r, .int .i64 nap] 57))
 have KW := Lib.hid (show Kp w (((w.alloc (.cells #[.int .i64 n, .int .i64 c, .int .i64 a, .int .i64 e, .int .u64 (q : Int), .int .u64 (bl : Int)] 55)).alloc (.cells #[.int .i64 xf, .int .i64 xi, .int .i64 xa, .int .u64 (xq : Int), .int .i64 xe] 52)).alloc (.cells #[.int .i64 j, .int .i64 r, .int .i64 nap] 57)) from (((Kp.refl w).alloc _).alloc _).alloc _)
 by_cases hn : n = -1
 ·subst hn
  by_cases hall : (T && X && V) = true
  ·simp only [Bool.and_eq_true] at hall
   obtain ⟨⟨rfl, rfl⟩, rfl⟩ := hall
   obtain ⟨⟨ha1, ha2⟩, ⟨ha3, ha4⟩, _, _⟩ := hb2 rfl
   obtain ⟨⟨hc1, hc2⟩, ⟨hc3, hc4⟩, _, hpr⟩ := hb3 rfl
   obtain ⟨⟨he1, he2⟩, he3, he4⟩ := hb4 rfl
   have HP := Lib.hid (HN.out hpr)
   clear hb2 hb3 hb4 HN hpr
   generalize hqq : hlast (-1) true true true xq z xa a xe e h nap = Q
   have HQ := Lib.hid hqq
   clear hqq
   go_enter Try.func36, Try.ntmps36
   go_upto_region 3 with (first | (go_at_call 53; first | ((with_reducible (refine (HO.out _).mono ?_)); rintro e' w2 ⟨rfl, hk⟩; replace hK := Kp.trans hK hk; clear hk)) | (go_at_call 59; first | ((with_reducible (refine (HT.out _).mono ?_)); rintro e' w2 ⟨rfl, hk⟩; replace hK := Kp.trans hK hk; clear hk) | ((with_reducible (refine (HX.out _).mono ?_)); rintro e' w2 ⟨rfl, hk⟩; replace hK := Kp.trans hK hk; clear hk)) | (go_at_call 60; first | ((with_reducible (refine (HW.out _).mono ?_)); rintro e' w2 ⟨rfl, hk⟩; replace hK := Kp.trans hK hk; clear hk)) | (refine load_row rfl 55 _ rfl w.heap.size rfl 55 _ _ _ (heap_kp Rh.out hK) Try.underlying55 rfl (by kernel_rfl) ?_) | (refine load_row rfl 52 _ rfl (w.heap.size + 1) rfl 52 _ _ _ (heap_kp Rx.out hK) Try.underlying52 rfl (by kernel_rfl) ?_) | (refine load_row rfl 57 _ rfl (w.heap.size + 2) rfl 57 _ _ _ (heap_kp Rb.out hK) Try.underlying57 rfl (by kernel_rfl) ?_))
   have hx3 : w2.cell? ⟨w.heap.size + 1, 3, none⟩ = some (.int .u64 (xq : Int)) := by rw [cell_of_row _ _ _ _ _ _ (heap_kp Rx.out hK)]; rfl
   have hg3 := fun d os => cell_regrown hx3 d os
   have QH := Lib.hid (heap_kp Rh.out hK)
   clear hx3
   obtain ⟨bz, hbz, hbv⟩ : ∃ bz : Bool, ((xq : Int) != (z : Int)) = bz ∧ bz = decide (xq ≠ z) := by
    by_cases hh : xq = z
    ·subst hh; exact ⟨false, by simp, by simp⟩
    ·have hh' : ¬ (xq : Int) = (z : Int) := by omega
     exact ⟨true, by simp [hh'], by simp [hh]⟩
   have HB := Lib.hid hbv
   clear hbv
   refine wp_region_quiet_below (by kernel_rfl) (by kernel_rfl) ?_
   repeat (first | go_big_quiet_skip | (refine quiet_load_row rfl 55 _ rfl w.heap.size rfl 55 _ _ _ (row_later QH.out) Try.underlying55 rfl (by kernel_rfl) ?_; simp only [Act.put, List.setIfInBounds_toArray, List.set_cons_zero, List.set_cons_succ]) | go_big_quiet_step ((go_at_call 55; exact calls_kp (HP.out _))))
   refine wpQuiet_nil ?_
   intro w9 hw9
   replace hK := Kp.trans hK (kp_later hw9)
   clear hw9 hg3 hbz
   have ch2 := show w9.cell? ⟨w.heap.size, 2, none⟩ = some (.int .i64 a) from by rw [cell_of_row _ _ _ _ _ _ (heap_kp Rh.out hK)]; rfl
   have ch3 := show w9.cell? ⟨w.heap.size, 3, none⟩ = some (.int .i64 e) from by rw [cell_of_row _ _ _ _ _ _ (heap_kp Rh.out hK)]; rfl
   have cx2 := show w9.cell? ⟨w.heap.size + 1, 2, none⟩ = some (.int .i64 xa) from by rw [cell_of_row _ _ _ _ _ _ (heap_kp Rx.out hK)]; rfl
   have cx4 := show w9.cell? ⟨w.heap.size + 1, 4, none⟩ = some (.int .i64 xe) from by rw [cell_of_row _ _ _ _ _ _ (heap_kp Rx.out hK)]; rfl
   have cb2 := show w9.cell? ⟨w.heap.size + 2, 2, none⟩ = some (.int .i64 nap) from by rw [cell_of_row _ _ _ _ _ _ (heap_kp Rb.out hK)]; rfl
   cases bz
   ·have hz : xq = z := by simpa using HB.out.symm
    subst hz
    by_cases c1 : xa < a
    ·have e1 : Q = 13 := by rw [← HQ.out]; unfold hlast; rw [if_neg (by simp), if_neg (by simp), if_pos c1]
     subst e1
     clear HQ
     go_wp2_with fail
     go_ret
     exact ⟨rfl, KW.out.trans hK⟩
    ·by_cases c2 : xe < e
     ·have e1 : Q = 16 := by rw [← HQ.out]; unfold hlast; rw [if_neg (by simp), if_neg (by simp), if_neg c1, if_pos (.inl c2)]
      subst e1
      clear HQ
      go_wp2_with fail
      go_ret
      exact ⟨rfl, KW.out.trans hK⟩
     ·by_cases c3 : xe - h ≤ nap
      ·have e1 : Q = 16 := by rw [← HQ.out]; unfold hlast; rw [if_neg (by simp), if_neg (by simp), if_neg c1, if_pos (.inr c3)]
       subst e1
       clear HQ
       go_wp2_with fail
       go_ret
       exact ⟨rfl, KW.out.trans hK⟩
      ·have e1 : Q = 0 := by rw [← HQ.out]; unfold hlast; rw [if_neg (by simp), if_neg (by simp), if_neg c1, if_neg (fun hh => by rcases hh with hh | hh; exact c2 hh; exact c3 hh)]
       subst e1
       clear HQ
       go_wp2_with fail
       go_ret
       exact ⟨rfl, KW.out.trans hK⟩
   ·have hz : xq ≠ z := by simpa using HB.out.symm
    have e1 : Q = 23 := by rw [← HQ.out]; unfold hlast; rw [if_neg (by simp), if_pos hz]
    subst e1
    clear HQ
    go_wp2_with fail
    go_ret
    exact ⟨rfl, KW.out.trans hK⟩
  ·have e1 : hlast (-1) T X V xq z xa a xe e h nap = 1 := by unfold hlast; rw [if_pos (.inr (by simpa using hall))]
   rw [e1]
   clear e1 hb2 hb3 hb4
   cases T
   ·clear hall
    go_enter Try.func36, Try.ntmps36
    go_wp2_with (first | (go_at_call 53; first | ((with_reducible (refine (HO.out _).mono ?_)); rintro e' w2 ⟨rfl, hk⟩; replace hK := Kp.trans hK hk; clear hk)) | (go_at_call 59; first | ((with_reducible (refine (HT.out _).mono ?_)); rintro e' w2 ⟨rfl, hk⟩; replace hK := Kp.trans hK hk; clear hk) | ((with_reducible (refine (HX.out _).mono ?_)); rintro e' w2 ⟨rfl, hk⟩; replace hK := Kp.trans hK hk; clear hk)) | (go_at_call 60; first | ((with_reducible (refine (HW.out _).mono ?_)); rintro e' w2 ⟨rfl, hk⟩; replace hK := Kp.trans hK hk; clear hk)) | (refine load_row rfl 55 _ rfl w.heap.size rfl 55 _ _ _ (heap_kp Rh.out hK) Try.underlying55 rfl (by kernel_rfl) ?_) | (refine load_row rfl 52 _ rfl (w.heap.size + 1) rfl 52 _ _ _ (heap_kp Rx.out hK) Try.underlying52 rfl (by kernel_rfl) ?_) | (refine load_row rfl 57 _ rfl (w.heap.size + 2) rfl 57 _ _ _ (heap_kp Rb.out hK) Try.underlying57 rfl (by kernel_rfl) ?_))
    go_ret
    exact ⟨rfl, KW.out.trans hK⟩
   ·cases X
    ·clear hall
     go_enter Try.func36, Try.ntmps36
     go_wp2_with (first | (go_at_call 53; first | ((with_reducible (refine (HO.out _).mono ?_)); rintro e' w2 ⟨rfl, hk⟩; replace hK := Kp.trans hK hk; clear hk)) | (go_at_call 59; first | ((with_reducible (refine (HT.out _).mono ?_)); rintro e' w2 ⟨rfl, hk⟩; replace hK := Kp.trans hK hk; clear hk) | ((with_reducible (refine (HX.out _).mono ?_)); rintro e' w2 ⟨rfl, hk⟩; replace hK := Kp.trans hK hk; clear hk)) | (go_at_call 60; first | ((with_reducible (refine (HW.out _).mono ?_)); rintro e' w2 ⟨rfl, hk⟩; replace hK := Kp.trans hK hk; clear hk)) | (refine load_row rfl 55 _ rfl w.heap.size rfl 55 _ _ _ (heap_kp Rh.out hK) Try.underlying55 rfl (by kernel_rfl) ?_) | (refine load_row rfl 52 _ rfl (w.heap.size + 1) rfl 52 _ _ _ (heap_kp Rx.out hK) Try.underlying52 rfl (by kernel_rfl) ?_) | (refine load_row rfl 57 _ rfl (w.heap.size + 2) rfl 57 _ _ _ (heap_kp Rb.out hK) Try.underlying57 rfl (by kernel_rfl) ?_))
     go_ret
     exact ⟨rfl, KW.out.trans hK⟩
    ·cases V
     ·clear hall
      go_enter Try.func36, Try.ntmps36
      go_wp2_with (first | (go_at_call 53; first | ((with_reducible (refine (HO.out _).mono ?_)); rintro e' w2 ⟨rfl, hk⟩; replace hK := Kp.trans hK hk; clear hk)) | (go_at_call 59; first | ((with_reducible (refine (HT.out _).mono ?_)); rintro e' w2 ⟨rfl, hk⟩; replace hK := Kp.trans hK hk; clear hk) | ((with_reducible (refine (HX.out _).mono ?_)); rintro e' w2 ⟨rfl, hk⟩; replace hK := Kp.trans hK hk; clear hk)) | (go_at_call 60; first | ((with_reducible (refine (HW.out _).mono ?_)); rintro e' w2 ⟨rfl, hk⟩; replace hK := Kp.trans hK hk; clear hk)) | (refine load_row rfl 55 _ rfl w.heap.size rfl 55 _ _ _ (heap_kp Rh.out hK) Try.underlying55 rfl (by kernel_rfl) ?_) | (refine load_row rfl 52 _ rfl (w.heap.size + 1) rfl 52 _ _ _ (heap_kp Rx.out hK) Try.underlying52 rfl (by kernel_rfl) ?_) | (refine load_row rfl 57 _ rfl (w.heap.size + 2) rfl 57 _ _ _ (heap_kp Rb.out hK) Try.underlying57 rfl (by kernel_rfl) ?_))
      go_ret
      exact ⟨rfl, KW.out.trans hK⟩
     ·exact absurd rfl hall
 ·have e1 : hlast n T X V xq z xa a xe e h nap = 1 := by unfold hlast; rw [if_pos (.inl hn)]
  rw [e1]
  have hn' : (n != -1) = true := by simpa using hn
  clear e1 hb2 hb3 hb4 hn
  go_enter Try.func36, Try.ntmps36
  go_wp2_with (first | (go_at_call 53; first | ((with_reducible (refine (HO.out _).mono ?_)); rintro e' w2 ⟨rfl, hk⟩; replace hK := Kp.trans hK hk; clear hk)) | (go_at_call 59; first | ((with_reducible (refine (HT.out _).mono ?_)); rintro e' w2 ⟨rfl, hk⟩; replace hK := Kp.trans hK hk; clear hk) | ((with_reducible (refine (HX.out _).mono ?_)); rintro e' w2 ⟨rfl, hk⟩; replace hK := Kp.trans hK hk; clear hk)) | (go_at_call 60; first | ((with_reducible (refine (HW.out _).mono ?_)); rintro e' w2 ⟨rfl, hk⟩; replace hK := Kp.trans hK hk; clear hk)) | (refine load_row rfl 55 _ rfl w.heap.size rfl 55 _ _ _ (heap_kp Rh.out hK) Try.underlying55 rfl (by kernel_rfl) ?_) | (refine load_row rfl 52 _ rfl (w.heap.size + 1) rfl 52 _ _ _ (heap_kp Rx.out hK) Try.underlying52 rfl (by kernel_rfl) ?_) | (refine load_row rfl 57 _ rfl (w.heap.size + 2) rfl 57 _ _ _ (heap_kp Rb.out hK) Try.underlying57 rfl (by kernel_rfl) ?_))
  go_ret
  exact ⟨rfl, KW.out.trans hK⟩

set_option maxHeartbeats 4000000 in
theorem rlast_any (n c a e xf xi xa xe h j r nap : Int) (q bl xq : Nat) (w : World) : Calls Try.prog 37 #[HvH n c a e q bl, QV xf xi xa xq xe, .int .i64 h, BV j r nap] w fun e' w' => e' = .returned (.int .i64 (last n a e q bl xa xe xq h j r nap)) ∧ Kp w w' := by
 have HO := Lib.hid (fun w => rtold_any n c a e q bl w)
 have HT := Lib.hid (fun w => rhpassed_any 0 0 a q e w)
 have HX := Lib.hid (fun w => rhpassed_any xf xi xa xq xe w)
 have HW := Lib.hid (fun w => rhworld_any h j r nap w)
 have HN : Hid (pright q = true → ∀ w, Calls Try.prog 58 #[HvH n c a e q bl] w fun e' w' => e' = .returned (.int .u64 (padd q (pbase bl) : Nat)) ∧ Kp w w') := Lib.hid (fun _ w => rhown_any n c a e q bl w)
 have hb2 := fun k => hpassed_iff (a := xa) (e := xe) (q := xq) k
 have hb3 := fun k => hpassed_iff (a := a) (e := e) (q := q) k
 have hb4 := fun k => hworld_iff (h := h) (j := j) (b := r) (n := nap) k
 unfold last
 skip
 generalize hpassed a e q = T at *
 generalize hpassed xa xe xq = X at *
 generalize hworld h j r nap = V at *
 generalize padd q (pbase bl) = z at *
 have Rh := Lib.hid (heap_kp (heap_new_at w (.cells #[.int .i64 n, .int .i64 c, .int .i64 a, .int .i64 e, .int .u64 (q : Int), .int .u64 (bl : Int)] 55) (k := w.heap.size) rfl) (((Kp.refl (w.alloc (.cells #[.int .i64 n, .int .i64 c, .int .i64 a, .int .i64 e, .int .u64 (q : Int), .int .u64 (bl : Int)] 55))).alloc (.cells #[.int .i64 xf, .int .i64 xi, .int .i64 xa, .int .u64 (xq : Int), .int .i64 xe] 52)).alloc (.cells #[.int .i64 j, .int .i64 r, .int .i64 nap] 57)))
 have Rx := Lib.hid (heap_kp (heap_new_at (w.alloc (.cells #[.int .i64 n, .int .i64 c, .int .i64 a, .int .i64 e, .int .u64 (q : Int), .int .u64 (bl : Int)] 55)) (.cells #[.int .i64 xf, .int .i64 xi, .int .i64 xa, .int .u64 (xq : Int), .int .i64 xe] 52) (k := w.heap.size + 1) (by simp)) ((Kp.refl _).alloc (.cells #[.int .i64 j, .int .i64 r, .int .i64 nap] 57)))
 have Rb := Lib.hid (heap_new_at ((w.alloc (.cells #[.int .i64 n, .int .i64 c, .int .i64 a, .int .i64 e, .int .u64 (q : Int), .int .u64 (bl : Int)] 55)).alloc (.cells #[.int .i64 xf, .int .i64 xi, .int .i64 xa, .int .u64 (xq : Int), .int .i64 xe] 52)) (.cells #[.int .i64 j, .int .i64 r, .int .i64 nap] 57) (k := w.heap.size + 2) (by simp))
 have hK := Kp.refl (((w.alloc (.cells #[.int .i64 n, .int .i64 c, .int .i64 a, .int .i64 e, .int .u64 (q : Int), .int .u64 (bl : Int)] 55)).alloc (.cells #[.int .i64 xf, .int .i64 xi, .int .i64 xa, .int .u64 (xq : Int), .int .i64 xe] 52)).alloc (.cells #[.int .i64 j, .int .i64 r, .int .i64 nap] 57))
 have KW := Lib.hid (show Kp w (((w.alloc (.cells #[.int .i64 n, .int .i64 c, .int .i64 a, .int .i64 e, .int .u64 (q : Int), .int .u64 (bl : Int)] 55)).alloc (.cells #[.int .i64 xf, .int .i64 xi, .int .i64 xa, .int .u64 (xq : Int), .int .i64 xe] 52)).alloc (.cells #[.int .i64 j, .int .i64 r, .int .i64 nap] 57)) from (((Kp.refl w).alloc _).alloc _).alloc _)
 by_cases hn : n = -1
 ·subst hn
  by_cases hall : (T && X && V) = true
  ·simp only [Bool.and_eq_true] at hall
   obtain ⟨⟨rfl, rfl⟩, rfl⟩ := hall
   obtain ⟨⟨ha1, ha2⟩, ⟨ha3, ha4⟩, _, _⟩ := hb2 rfl
   obtain ⟨⟨hc1, hc2⟩, ⟨hc3, hc4⟩, _, hpr⟩ := hb3 rfl
   obtain ⟨⟨he1, he2⟩, he3, he4⟩ := hb4 rfl
   have HP := Lib.hid (HN.out hpr)
   clear hb2 hb3 hb4 HN hpr
   generalize hqq : hlast (-1) true true true xq z xa a xe e h nap = Q
   have HQ := Lib.hid hqq
   clear hqq
   go_enter Try.func37, Try.ntmps37
   go_upto_region 3 with (first | (go_at_call 56; first | ((with_reducible (refine (HO.out _).mono ?_)); rintro e' w2 ⟨rfl, hk⟩; replace hK := Kp.trans hK hk; clear hk)) | (go_at_call 61; first | ((with_reducible (refine (HT.out _).mono ?_)); rintro e' w2 ⟨rfl, hk⟩; replace hK := Kp.trans hK hk; clear hk) | ((with_reducible (refine (HX.out _).mono ?_)); rintro e' w2 ⟨rfl, hk⟩; replace hK := Kp.trans hK hk; clear hk)) | (go_at_call 62; first | ((with_reducible (refine (HW.out _).mono ?_)); rintro e' w2 ⟨rfl, hk⟩; replace hK := Kp.trans hK hk; clear hk)) | (refine load_row rfl 55 _ rfl w.heap.size rfl 55 _ _ _ (heap_kp Rh.out hK) Try.underlying55 rfl (by kernel_rfl) ?_) | (refine load_row rfl 52 _ rfl (w.heap.size + 1) rfl 52 _ _ _ (heap_kp Rx.out hK) Try.underlying52 rfl (by kernel_rfl) ?_) | (refine load_row rfl 57 _ rfl (w.heap.size + 2) rfl 57 _ _ _ (heap_kp Rb.out hK) Try.underlying57 rfl (by kernel_rfl) ?_))
   have hx3 : w2.cell? ⟨w.heap.size + 1, 3, none⟩ = some (.int .u64 (xq : Int)) := by rw [cell_of_row _ _ _ _ _ _ (heap_kp Rx.out hK)]; rfl
   have hg3 := fun d os => cell_regrown hx3 d os
   have QH := Lib.hid (heap_kp Rh.out hK)
   clear hx3
   obtain ⟨bz, hbz, hbv⟩ : ∃ bz : Bool, ((xq : Int) != (z : Int)) = bz ∧ bz = decide (xq ≠ z) := by
    by_cases hh : xq = z
    ·subst hh; exact ⟨false, by simp, by simp⟩
    ·have hh' : ¬ (xq : Int) = (z : Int) := by omega
     exact ⟨true, by simp [hh'], by simp [hh]⟩
   have HB := Lib.hid hbv
   clear hbv
   refine wp_region_quiet_below (by kernel_rfl) (by kernel_rfl) ?_
   repeat (first | go_big_quiet_skip | (refine quiet_load_row rfl 55 _ rfl w.heap.size rfl 55 _ _ _ (row_later QH.out) Try.underlying55 rfl (by kernel_rfl) ?_; simp only [Act.put, List.setIfInBounds_toArray, List.set_cons_zero, List.set_cons_succ]) | go_big_quiet_step ((go_at_call 58; exact calls_kp (HP.out _))))
   refine wpQuiet_nil ?_
   intro w9 hw9
   replace hK := Kp.trans hK (kp_later hw9)
   clear hw9 hg3 hbz
   have ch2 := show w9.cell? ⟨w.heap.size, 2, none⟩ = some (.int .i64 a) from by rw [cell_of_row _ _ _ _ _ _ (heap_kp Rh.out hK)]; rfl
   have ch3 := show w9.cell? ⟨w.heap.size, 3, none⟩ = some (.int .i64 e) from by rw [cell_of_row _ _ _ _ _ _ (heap_kp Rh.out hK)]; rfl
   have cx2 := show w9.cell? ⟨w.heap.size + 1, 2, none⟩ = some (.int .i64 xa) from by rw [cell_of_row _ _ _ _ _ _ (heap_kp Rx.out hK)]; rfl
   have cx4 := show w9.cell? ⟨w.heap.size + 1, 4, none⟩ = some (.int .i64 xe) from by rw [cell_of_row _ _ _ _ _ _ (heap_kp Rx.out hK)]; rfl
   have cb2 := show w9.cell? ⟨w.heap.size + 2, 2, none⟩ = some (.int .i64 nap) from by rw [cell_of_row _ _ _ _ _ _ (heap_kp Rb.out hK)]; rfl
   cases bz
   ·have hz : xq = z := by simpa using HB.out.symm
    subst hz
    by_cases c1 : xa < a
    ·have e1 : Q = 13 := by rw [← HQ.out]; unfold hlast; rw [if_neg (by simp), if_neg (by simp), if_pos c1]
     subst e1
     clear HQ
     go_wp2_with fail
     go_ret
     exact ⟨rfl, KW.out.trans hK⟩
    ·by_cases c2 : xe < e
     ·have e1 : Q = 16 := by rw [← HQ.out]; unfold hlast; rw [if_neg (by simp), if_neg (by simp), if_neg c1, if_pos (.inl c2)]
      subst e1
      clear HQ
      go_wp2_with fail
      go_ret
      exact ⟨rfl, KW.out.trans hK⟩
     ·by_cases c3 : xe - h ≤ nap
      ·have e1 : Q = 16 := by rw [← HQ.out]; unfold hlast; rw [if_neg (by simp), if_neg (by simp), if_neg c1, if_pos (.inr c3)]
       subst e1
       clear HQ
       have c4 : xe ≤ h + nap := by omega
       go_wp2_with fail
       go_ret
       exact ⟨rfl, KW.out.trans hK⟩
      ·have e1 : Q = 0 := by rw [← HQ.out]; unfold hlast; rw [if_neg (by simp), if_neg (by simp), if_neg c1, if_neg (fun hh => by rcases hh with hh | hh; exact c2 hh; exact c3 hh)]
       subst e1
       clear HQ
       have c4 : ¬ xe ≤ h + nap := by omega
       go_wp2_with fail
       go_ret
       exact ⟨rfl, KW.out.trans hK⟩
   ·have hz : xq ≠ z := by simpa using HB.out.symm
    have e1 : Q = 23 := by rw [← HQ.out]; unfold hlast; rw [if_neg (by simp), if_pos hz]
    subst e1
    clear HQ
    go_wp2_with fail
    go_ret
    exact ⟨rfl, KW.out.trans hK⟩
  ·have e1 : hlast (-1) T X V xq z xa a xe e h nap = 1 := by unfold hlast; rw [if_pos (.inr (by simpa using hall))]
   rw [e1]
   clear e1 hb2 hb3 hb4
   cases T
   ·clear hall
    go_enter Try.func37, Try.ntmps37
    go_wp2_with (first | (go_at_call 56; first | ((with_reducible (refine (HO.out _).mono ?_)); rintro e' w2 ⟨rfl, hk⟩; replace hK := Kp.trans hK hk; clear hk)) | (go_at_call 61; first | ((with_reducible (refine (HT.out _).mono ?_)); rintro e' w2 ⟨rfl, hk⟩; replace hK := Kp.trans hK hk; clear hk) | ((with_reducible (refine (HX.out _).mono ?_)); rintro e' w2 ⟨rfl, hk⟩; replace hK := Kp.trans hK hk; clear hk)) | (go_at_call 62; first | ((with_reducible (refine (HW.out _).mono ?_)); rintro e' w2 ⟨rfl, hk⟩; replace hK := Kp.trans hK hk; clear hk)) | (refine load_row rfl 55 _ rfl w.heap.size rfl 55 _ _ _ (heap_kp Rh.out hK) Try.underlying55 rfl (by kernel_rfl) ?_) | (refine load_row rfl 52 _ rfl (w.heap.size + 1) rfl 52 _ _ _ (heap_kp Rx.out hK) Try.underlying52 rfl (by kernel_rfl) ?_) | (refine load_row rfl 57 _ rfl (w.heap.size + 2) rfl 57 _ _ _ (heap_kp Rb.out hK) Try.underlying57 rfl (by kernel_rfl) ?_))
    go_ret
    exact ⟨rfl, KW.out.trans hK⟩
   ·cases X
    ·clear hall
     go_enter Try.func37, Try.ntmps37
     go_wp2_with (first | (go_at_call 56; first | ((with_reducible (refine (HO.out _).mono ?_)); rintro e' w2 ⟨rfl, hk⟩; replace hK := Kp.trans hK hk; clear hk)) | (go_at_call 61; first | ((with_reducible (refine (HT.out _).mono ?_)); rintro e' w2 ⟨rfl, hk⟩; replace hK := Kp.trans hK hk; clear hk) | ((with_reducible (refine (HX.out _).mono ?_)); rintro e' w2 ⟨rfl, hk⟩; replace hK := Kp.trans hK hk; clear hk)) | (go_at_call 62; first | ((with_reducible (refine (HW.out _).mono ?_)); rintro e' w2 ⟨rfl, hk⟩; replace hK := Kp.trans hK hk; clear hk)) | (refine load_row rfl 55 _ rfl w.heap.size rfl 55 _ _ _ (heap_kp Rh.out hK) Try.underlying55 rfl (by kernel_rfl) ?_) | (refine load_row rfl 52 _ rfl (w.heap.size + 1) rfl 52 _ _ _ (heap_kp Rx.out hK) Try.underlying52 rfl (by kernel_rfl) ?_) | (refine load_row rfl 57 _ rfl (w.heap.size + 2) rfl 57 _ _ _ (heap_kp Rb.out hK) Try.underlying57 rfl (by kernel_rfl) ?_))
     go_ret
     exact ⟨rfl, KW.out.trans hK⟩
    ·cases V
     ·clear hall
      go_enter Try.func37, Try.ntmps37
      go_wp2_with (first | (go_at_call 56; first | ((with_reducible (refine (HO.out _).mono ?_)); rintro e' w2 ⟨rfl, hk⟩; replace hK := Kp.trans hK hk; clear hk)) | (go_at_call 61; first | ((with_reducible (refine (HT.out _).mono ?_)); rintro e' w2 ⟨rfl, hk⟩; replace hK := Kp.trans hK hk; clear hk) | ((with_reducible (refine (HX.out _).mono ?_)); rintro e' w2 ⟨rfl, hk⟩; replace hK := Kp.trans hK hk; clear hk)) | (go_at_call 62; first | ((with_reducible (refine (HW.out _).mono ?_)); rintro e' w2 ⟨rfl, hk⟩; replace hK := Kp.trans hK hk; clear hk)) | (refine load_row rfl 55 _ rfl w.heap.size rfl 55 _ _ _ (heap_kp Rh.out hK) Try.underlying55 rfl (by kernel_rfl) ?_) | (refine load_row rfl 52 _ rfl (w.heap.size + 1) rfl 52 _ _ _ (heap_kp Rx.out hK) Try.underlying52 rfl (by kernel_rfl) ?_) | (refine load_row rfl 57 _ rfl (w.heap.size + 2) rfl 57 _ _ _ (heap_kp Rb.out hK) Try.underlying57 rfl (by kernel_rfl) ?_))
      go_ret
      exact ⟨rfl, KW.out.trans hK⟩
     ·exact absurd rfl hall
 ·have e1 : hlast n T X V xq z xa a xe e h nap = 1 := by unfold hlast; rw [if_pos (.inl hn)]
  rw [e1]
  have hn' : (n != -1) = true := by simpa using hn
  clear e1 hb2 hb3 hb4 hn
  go_enter Try.func37, Try.ntmps37
  go_wp2_with (first | (go_at_call 56; first | ((with_reducible (refine (HO.out _).mono ?_)); rintro e' w2 ⟨rfl, hk⟩; replace hK := Kp.trans hK hk; clear hk)) | (go_at_call 61; first | ((with_reducible (refine (HT.out _).mono ?_)); rintro e' w2 ⟨rfl, hk⟩; replace hK := Kp.trans hK hk; clear hk) | ((with_reducible (refine (HX.out _).mono ?_)); rintro e' w2 ⟨rfl, hk⟩; replace hK := Kp.trans hK hk; clear hk)) | (go_at_call 62; first | ((with_reducible (refine (HW.out _).mono ?_)); rintro e' w2 ⟨rfl, hk⟩; replace hK := Kp.trans hK hk; clear hk)) | (refine load_row rfl 55 _ rfl w.heap.size rfl 55 _ _ _ (heap_kp Rh.out hK) Try.underlying55 rfl (by kernel_rfl) ?_) | (refine load_row rfl 52 _ rfl (w.heap.size + 1) rfl 52 _ _ _ (heap_kp Rx.out hK) Try.underlying52 rfl (by kernel_rfl) ?_) | (refine load_row rfl 57 _ rfl (w.heap.size + 2) rfl 57 _ _ _ (heap_kp Rb.out hK) Try.underlying57 rfl (by kernel_rfl) ?_))
  go_ret
  exact ⟨rfl, KW.out.trans hK⟩

end Go.Proofs.Ytcdmmfelagbpdaa
