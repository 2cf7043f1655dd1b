/- Contracts of hop.May and its reference (printed by genho5.py). -/
import Derived.Test.YtcdmmfelagbpdaaHo4
namespace Go.Proofs.Ytcdmmfelagbpdaa
open Go.RowKit Go.Lib Ckp Cfd Cpd Cwl
set_option linter.unusedVariables false
set_option linter.unusedSimpArgs false
set_option maxRecDepth 8192
/-- What passing on is told: the amounts, the ends, a policy's bounds and blocks, a height, a nap. -/
def hmay (R X Y W : Bool) (fee : Int × Bool) (xa ya l m xe ye dl h nap : Int) : Int :=
 if (R && X && Y && W) = false then 1 else if ¬ (l ≤ ya ∧ ya ≤ m) then 6 else if fee.2 = false ∨ xa - ya < fee.1 then 13 else if xe - ye < dl ∨ ye - h ≤ nap then 16 else 0
def may (xa xe : Int) (xq : Nat) (ya ye : Int) (yq : Nat) (b p d l m h j r n : Int) : Int :=
 hmay (hright b p d l m) (hpassed xa xe xq) (hpassed ya ye yq) (hworld h j r n) (hfee b p d l m ya) xa ya l m xe ye d h n
theorem fee_pos {b p d l m a : Int} (h : (hfee b p d l m a).2 = true) : 0 ≤ (hfee b p d l m a).1 ∧ (hfee b p d l m a).1 ≤ 1125899906842624 := by
 unfold hfee at h ⊢
 split at h
 ·rename_i hc
  rw [if_pos hc]
  unfold tadd at h ⊢
  split at h
  ·rename_i h2; rw [if_pos h2]; simp only; omega
  ·cases h
 ·cases h

set_option maxHeartbeats 4000000 in
theorem may_any (xf xi xa xe yf yi ya ye b p d l m h j r n : Int) (xq yq : Nat) (hxq : xq < 18446744073709551616) (hyq : yq < 18446744073709551616) (hp : p ≤ 9223372036854775807) (w : World) : Calls Try.prog 34 #[QV xf xi xa xq xe, QV yf yi ya yq ye, PV b p d l m, .int .i64 h, BV j r n] w fun e w' => e = .returned (.int .i64 (may xa xe xq ya ye yq b p d l m h j r n)) ∧ Kp w w' := by
 have HR := Lib.hid (fun w => hRight_any b p d l m w)
 have HX := Lib.hid (fun w => hpassed_any xf xi xa xq hxq xe w)
 have HY := Lib.hid (fun w => hpassed_any yf yi ya yq hyq ye w)
 have HW := Lib.hid (fun w => hworld_any h j r n w)
 have HF := Lib.hid (fun w => hFee_any b p d l m ya hp w)
 have hb1 := fun k => (hright_iff (b := b) (p := p) (d := d) (l := l) (m := m)).1 k
 have hb2 := fun k => hpassed_iff (a := xa) (e := xe) (q := xq) k
 have hb3 := fun k => hpassed_iff (a := ya) (e := ye) (q := yq) k
 have hb4 := fun k => hworld_iff (h := h) (j := j) (b := r) (n := n) k
 have hb5 := fun k => fee_pos (b := b) (p := p) (d := d) (l := l) (m := m) (a := ya) k
 unfold may
 clear hp
 generalize hright b p d l m = R at *
 generalize hpassed xa xe xq = X at *
 generalize hpassed ya ye yq = Y at *
 generalize hworld h j r n = V at *
 generalize hfee b p d l m ya = F at *
 obtain ⟨F1, F2⟩ := F
 have Rx := Lib.hid (heap_kp (heap_new_at w (.cells #[.int .i64 xf, .int .i64 xi, .int .i64 xa, .int .u64 (xq : Int), .int .i64 xe] 52) (k := w.heap.size) rfl) (Kp.trans (Kp.refl (w.alloc (.cells #[.int .i64 xf, .int .i64 xi, .int .i64 xa, .int .u64 (xq : Int), .int .i64 xe] 52))) (((Kp.refl _).alloc (.cells #[.int .i64 yf, .int .i64 yi, .int .i64 ya, .int .u64 (yq : Int), .int .i64 ye] 52)).alloc (.cells #[.int .i64 b, .int .i64 p, .int .i64 d, .int .i64 l, .int .i64 m] 50) |>.alloc (.cells #[.int .i64 j, .int .i64 r, .int .i64 n] 57))))
 have Ry := Lib.hid (heap_kp (heap_new_at (w.alloc (.cells #[.int .i64 xf, .int .i64 xi, .int .i64 xa, .int .u64 (xq : Int), .int .i64 xe] 52)) (.cells #[.int .i64 yf, .int .i64 yi, .int .i64 ya, .int .u64 (yq : Int), .int .i64 ye] 52) (k := w.heap.size + 1) (by simp)) (((Kp.refl _).alloc (.cells #[.int .i64 b, .int .i64 p, .int .i64 d, .int .i64 l, .int .i64 m] 50)).alloc (.cells #[.int .i64 j, .int .i64 r, .int .i64 n] 57)))
 have Rp := Lib.hid (heap_kp (heap_new_at ((w.alloc (.cells #[.int .i64 xf, .int .i64 xi, .int .i64 xa, .int .u64 (xq : Int), .int .i64 xe] 52)).alloc (.cells #[.int .i64 yf, .int .i64 yi, .int .i64 ya, .int .u64 (yq : Int), .int .i64 ye] 52)) (.cells #[.int .i64 b, .int .i64 p, .int .i64 d, .int .i64 l, .int .i64 m] 50) (k := w.heap.size + 2) (by simp)) ((Kp.refl _).alloc (.cells #[.int .i64 j, .int .i64 r, .int .i64 n] 57)))
 have Rb := Lib.hid (heap_new_at (((w.alloc (.cells #[.int .i64 xf, .int .i64 xi, .int .i64 xa, .int .u64 (xq : Int), .int .i64 xe] 52)).alloc (.cells #[.int .i64 yf, .int .i64 yi, .int .i64 ya, .int .u64 (yq : Int), .int .i64 ye] 52)).alloc (.cells #[.int .i64 b, .int .i64 p, .int .i64 d, .int .i64 l, .int .i64 m] 50)) (.cells #[.int .i64 j, .int .i64 r, .int .i64 n] 57) (k := w.heap.size + 3) (by simp))
 have hK := Kp.refl ((((w.alloc (.cells #[.int .i64 xf, .int .i64 xi, .int .i64 xa, .int .u64 (xq : Int), .int .i64 xe] 52)).alloc (.cells #[.int .i64 yf, .int .i64 yi, .int .i64 ya, .int .u64 (yq : Int), .int .i64 ye] 52)).alloc (.cells #[.int .i64 b, .int .i64 p, .int .i64 d, .int .i64 l, .int .i64 m] 50)).alloc (.cells #[.int .i64 j, .int .i64 r, .int .i64 n] 57))
 have KW := Lib.hid (show Kp w ((((w.alloc (.cells #[.int .i64 xf, .int .i64 xi, .int .i64 xa, .int .u64 (xq : Int), .int .i64 xe] 52)).alloc (.cells #[.int .i64 yf, .int .i64 yi, .int .i64 ya, .int .u64 (yq : Int), .int .i64 ye] 52)).alloc (.cells #[.int .i64 b, .int .i64 p, .int .i64 d, .int .i64 l, .int .i64 m] 50)).alloc (.cells #[.int .i64 j, .int .i64 r, .int .i64 n] 57)) from ((((Kp.refl w).alloc _).alloc _).alloc _).alloc _)
 by_cases hall : (R && X && Y && V) = true
 ·simp only [Bool.and_eq_true] at hall
  obtain ⟨⟨⟨rfl, rfl⟩, rfl⟩, rfl⟩ := hall
  obtain ⟨_, _, _, _, hd1, hd2⟩ := hb1 rfl
  obtain ⟨⟨ha1, ha2⟩, ⟨ha3, ha4⟩, _⟩ := hb2 rfl
  obtain ⟨⟨hc1, hc2⟩, ⟨hc3, hc4⟩, _⟩ := hb3 rfl
  obtain ⟨⟨he1, he2⟩, he3, he4⟩ := hb4 rfl
  clear hb1 hb2 hb3 hb4
  generalize hq : hmay true true true true (F1, F2) xa ya l m xe ye d h n = q
  have HQ := Lib.hid hq
  clear hq
  have HI := Lib.hid (fun w => hin_any ya l m w)
  go_enter Try.func34, Try.ntmps34
  go_upto_region 3 with (first | (go_at_call 32; first | ((with_reducible (refine (HR.out _).mono ?_)); rintro e w2 ⟨rfl, hk⟩; replace hK := Kp.trans hK hk; clear hk)) | (go_at_call 59; first | ((with_reducible (refine (HX.out _).mono ?_)); rintro e w2 ⟨rfl, hk⟩; replace hK := Kp.trans hK hk; clear hk) | ((with_reducible (refine (HY.out _).mono ?_)); rintro e w2 ⟨rfl, hk⟩; replace hK := Kp.trans hK hk; clear hk)) | (go_at_call 60; first | ((with_reducible (refine (HW.out _).mono ?_)); rintro e w2 ⟨rfl, hk⟩; replace hK := Kp.trans hK hk; clear hk)) | (go_at_call 28; first | ((with_reducible (refine (HF.out _).mono ?_)); rintro e w2 ⟨rfl, hk⟩; replace hK := Kp.trans hK hk; clear hk)) | (refine load_row rfl 52 _ rfl w.heap.size rfl 52 _ _ _ (heap_kp Rx.out hK) Try.underlying52 rfl (by kernel_rfl) ?_) | (refine load_row rfl 52 _ rfl (w.heap.size + 1) rfl 52 _ _ _ (heap_kp Ry.out hK) Try.underlying52 rfl (by kernel_rfl) ?_) | (refine load_row rfl 50 _ rfl (w.heap.size + 2) rfl 50 _ _ _ (heap_kp Rp.out hK) Try.underlying50 rfl (by kernel_rfl) ?_) | (refine load_row rfl 57 _ rfl (w.heap.size + 3) rfl 57 _ _ _ (heap_kp Rb.out hK) Try.underlying57 rfl (by kernel_rfl) ?_))
  have cx2 := show w2.cell? ⟨w.heap.size, 2, none⟩ = some (.int .i64 xa) from by rw [cell_of_row _ _ _ _ _ _ (heap_kp Rx.out hK)]; rfl
  have cx4 := show w2.cell? ⟨w.heap.size, 4, none⟩ = some (.int .i64 xe) from by rw [cell_of_row _ _ _ _ _ _ (heap_kp Rx.out hK)]; rfl
  have cy2 := show w2.cell? ⟨w.heap.size + 1, 2, none⟩ = some (.int .i64 ya) from by rw [cell_of_row _ _ _ _ _ _ (heap_kp Ry.out hK)]; rfl
  have cy4 := show w2.cell? ⟨w.heap.size + 1, 4, none⟩ = some (.int .i64 ye) from by rw [cell_of_row _ _ _ _ _ _ (heap_kp Ry.out hK)]; rfl
  have cp2 := show w2.cell? ⟨w.heap.size + 2, 2, none⟩ = some (.int .i64 d) from by rw [cell_of_row _ _ _ _ _ _ (heap_kp Rp.out hK)]; rfl
  have cp3 := show w2.cell? ⟨w.heap.size + 2, 3, none⟩ = some (.int .i64 l) from by rw [cell_of_row _ _ _ _ _ _ (heap_kp Rp.out hK)]; rfl
  have cp4 := show w2.cell? ⟨w.heap.size + 2, 4, none⟩ = some (.int .i64 m) from by rw [cell_of_row _ _ _ _ _ _ (heap_kp Rp.out hK)]; rfl
  have cb2 := show w2.cell? ⟨w.heap.size + 3, 2, none⟩ = some (.int .i64 n) from by rw [cell_of_row _ _ _ _ _ _ (heap_kp Rb.out hK)]; rfl
  go_upto_region 4 with (first | (go_at_call 32; first | ((with_reducible (refine (HR.out _).mono ?_)); rintro e w2 ⟨rfl, hk⟩; replace hK := Kp.trans hK hk; clear hk)) | (go_at_call 59; first | ((with_reducible (refine (HX.out _).mono ?_)); rintro e w2 ⟨rfl, hk⟩; replace hK := Kp.trans hK hk; clear hk) | ((with_reducible (refine (HY.out _).mono ?_)); rintro e w2 ⟨rfl, hk⟩; replace hK := Kp.trans hK hk; clear hk)) | (go_at_call 60; first | ((with_reducible (refine (HW.out _).mono ?_)); rintro e w2 ⟨rfl, hk⟩; replace hK := Kp.trans hK hk; clear hk)) | (go_at_call 28; first | ((with_reducible (refine (HF.out _).mono ?_)); rintro e w2 ⟨rfl, hk⟩; replace hK := Kp.trans hK hk; clear hk)) | (refine load_row rfl 52 _ rfl w.heap.size rfl 52 _ _ _ (heap_kp Rx.out hK) Try.underlying52 rfl (by kernel_rfl) ?_) | (refine load_row rfl 52 _ rfl (w.heap.size + 1) rfl 52 _ _ _ (heap_kp Ry.out hK) Try.underlying52 rfl (by kernel_rfl) ?_) | (refine load_row rfl 50 _ rfl (w.heap.size + 2) rfl 50 _ _ _ (heap_kp Rp.out hK) Try.underlying50 rfl (by kernel_rfl) ?_) | (refine load_row rfl 57 _ rfl (w.heap.size + 3) rfl 57 _ _ _ (heap_kp Rb.out hK) Try.underlying57 rfl (by kernel_rfl) ?_))
  clear cx2 cx4 cy2 cy4 cp2 cp3 cp4 cb2
  have cx2 := show w2.cell? ⟨w.heap.size, 2, none⟩ = some (.int .i64 xa) from by rw [cell_of_row _ _ _ _ _ _ (heap_kp Rx.out hK)]; rfl
  have cx4 := show w2.cell? ⟨w.heap.size, 4, none⟩ = some (.int .i64 xe) from by rw [cell_of_row _ _ _ _ _ _ (heap_kp Rx.out hK)]; rfl
  have cy2 := show w2.cell? ⟨w.heap.size + 1, 2, none⟩ = some (.int .i64 ya) from by rw [cell_of_row _ _ _ _ _ _ (heap_kp Ry.out hK)]; rfl
  have cy4 := show w2.cell? ⟨w.heap.size + 1, 4, none⟩ = some (.int .i64 ye) from by rw [cell_of_row _ _ _ _ _ _ (heap_kp Ry.out hK)]; rfl
  have cp2 := show w2.cell? ⟨w.heap.size + 2, 2, none⟩ = some (.int .i64 d) from by rw [cell_of_row _ _ _ _ _ _ (heap_kp Rp.out hK)]; rfl
  have cp3 := show w2.cell? ⟨w.heap.size + 2, 3, none⟩ = some (.int .i64 l) from by rw [cell_of_row _ _ _ _ _ _ (heap_kp Rp.out hK)]; rfl
  have cp4 := show w2.cell? ⟨w.heap.size + 2, 4, none⟩ = some (.int .i64 m) from by rw [cell_of_row _ _ _ _ _ _ (heap_kp Rp.out hK)]; rfl
  have cb2 := show w2.cell? ⟨w.heap.size + 3, 2, none⟩ = some (.int .i64 n) from by rw [cell_of_row _ _ _ _ _ _ (heap_kp Rb.out hK)]; rfl
  by_cases c1 : l ≤ ya ∧ ya ≤ m
  ·have hi : inn ya l m = true := by simp [inn]; exact c1
   rw [hi] at HI
   clear hi
   cases F2
   ·have e : q = 13 := by rw [← HQ.out]; unfold hmay; rw [if_neg (by simp), if_neg (by simp; omega), if_pos (by simp)]
    subst e
    clear HQ
    clear c1 hb5
    go_wp2_with (go_at_call 54; (with_reducible (refine (HI.out _).mono ?_)); rintro e w' ⟨rfl, rfl⟩)
    go_ret
    exact ⟨rfl, KW.out.trans hK⟩
   ·obtain ⟨f1, f2⟩ := hb5 rfl
    clear hb5
    by_cases c2 : xa - ya < F1
    ·have e : q = 13 := by rw [← HQ.out]; unfold hmay; rw [if_neg (by simp), if_neg (by simp; omega), if_pos (by simp; omega)]
     subst e
     clear HQ
     clear c1
     go_wp2_with (go_at_call 54; (with_reducible (refine (HI.out _).mono ?_)); rintro e w' ⟨rfl, rfl⟩)
     go_ret
     exact ⟨rfl, KW.out.trans hK⟩
    ·by_cases c3 : xe - ye < d
     ·have e : q = 16 := by rw [← HQ.out]; unfold hmay; rw [if_neg (by simp), if_neg (by simp; omega), if_neg (by simp; omega), if_pos (by omega)]
      subst e
      clear HQ
      clear c1
      go_wp2_with (go_at_call 54; (with_reducible (refine (HI.out _).mono ?_)); rintro e w' ⟨rfl, rfl⟩)
      go_ret
      exact ⟨rfl, KW.out.trans hK⟩
     ·by_cases c4 : ye - h ≤ n
      ·have e : q = 16 := by rw [← HQ.out]; unfold hmay; rw [if_neg (by simp), if_neg (by simp; omega), if_neg (by simp; omega), if_pos (by omega)]
       subst e
       clear HQ
       clear c1
       go_wp2_with (go_at_call 54; (with_reducible (refine (HI.out _).mono ?_)); rintro e w' ⟨rfl, rfl⟩)
       go_ret
       exact ⟨rfl, KW.out.trans hK⟩
      ·have e : q = 0 := by rw [← HQ.out]; unfold hmay; rw [if_neg (by simp), if_neg (by simp; omega), if_neg (by simp; omega), if_neg (by omega)]
       subst e
       clear HQ
       clear c1
       go_wp2_with (go_at_call 54; (with_reducible (refine (HI.out _).mono ?_)); rintro e w' ⟨rfl, rfl⟩)
       go_ret
       exact ⟨rfl, KW.out.trans hK⟩
  ·have hi : inn ya l m = false := by simp [inn]; omega
   rw [hi] at HI
   clear hi hb5
   have e : q = 6 := by rw [← HQ.out]; unfold hmay; rw [if_neg (by simp), if_pos c1]
   subst e
   clear HQ
   clear c1
   go_wp2_with (go_at_call 54; (with_reducible (refine (HI.out _).mono ?_)); rintro e w' ⟨rfl, rfl⟩)
   go_ret
   exact ⟨rfl, KW.out.trans hK⟩
 ·have e : hmay R X Y V (F1, F2) xa ya l m xe ye d h n = 1 := by unfold hmay; rw [if_pos (by simpa using hall)]
  rw [e]
  clear e hb1 hb2 hb3 hb4 hb5
  cases R
  ·clear hall
   go_enter Try.func34, Try.ntmps34
   go_wp2_with (first | (go_at_call 32; first | ((with_reducible (refine (HR.out _).mono ?_)); rintro e w2 ⟨rfl, hk⟩; replace hK := Kp.trans hK hk; clear hk)) | (go_at_call 59; first | ((with_reducible (refine (HX.out _).mono ?_)); rintro e w2 ⟨rfl, hk⟩; replace hK := Kp.trans hK hk; clear hk) | ((with_reducible (refine (HY.out _).mono ?_)); rintro e w2 ⟨rfl, hk⟩; replace hK := Kp.trans hK hk; clear hk)) | (go_at_call 60; first | ((with_reducible (refine (HW.out _).mono ?_)); rintro e w2 ⟨rfl, hk⟩; replace hK := Kp.trans hK hk; clear hk)) | (go_at_call 28; first | ((with_reducible (refine (HF.out _).mono ?_)); rintro e w2 ⟨rfl, hk⟩; replace hK := Kp.trans hK hk; clear hk)) | (refine load_row rfl 52 _ rfl w.heap.size rfl 52 _ _ _ (heap_kp Rx.out hK) Try.underlying52 rfl (by kernel_rfl) ?_) | (refine load_row rfl 52 _ rfl (w.heap.size + 1) rfl 52 _ _ _ (heap_kp Ry.out hK) Try.underlying52 rfl (by kernel_rfl) ?_) | (refine load_row rfl 50 _ rfl (w.heap.size + 2) rfl 50 _ _ _ (heap_kp Rp.out hK) Try.underlying50 rfl (by kernel_rfl) ?_) | (refine load_row rfl 57 _ rfl (w.heap.size + 3) rfl 57 _ _ _ (heap_kp Rb.out hK) Try.underlying57 rfl (by kernel_rfl) ?_))
   go_ret
   exact ⟨rfl, KW.out.trans hK⟩
  ·cases X
   ·clear hall
    go_enter Try.func34, Try.ntmps34
    go_wp2_with (first | (go_at_call 32; first | ((with_reducible (refine (HR.out _).mono ?_)); rintro e w2 ⟨rfl, hk⟩; replace hK := Kp.trans hK hk; clear hk)) | (go_at_call 59; first | ((with_reducible (refine (HX.out _).mono ?_)); rintro e w2 ⟨rfl, hk⟩; replace hK := Kp.trans hK hk; clear hk) | ((with_reducible (refine (HY.out _).mono ?_)); rintro e w2 ⟨rfl, hk⟩; replace hK := Kp.trans hK hk; clear hk)) | (go_at_call 60; first | ((with_reducible (refine (HW.out _).mono ?_)); rintro e w2 ⟨rfl, hk⟩; replace hK := Kp.trans hK hk; clear hk)) | (go_at_call 28; first | ((with_reducible (refine (HF.out _).mono ?_)); rintro e w2 ⟨rfl, hk⟩; replace hK := Kp.trans hK hk; clear hk)) | (refine load_row rfl 52 _ rfl w.heap.size rfl 52 _ _ _ (heap_kp Rx.out hK) Try.underlying52 rfl (by kernel_rfl) ?_) | (refine load_row rfl 52 _ rfl (w.heap.size + 1) rfl 52 _ _ _ (heap_kp Ry.out hK) Try.underlying52 rfl (by kernel_rfl) ?_) | (refine load_row rfl 50 _ rfl (w.heap.size + 2) rfl 50 _ _ _ (heap_kp Rp.out hK) Try.underlying50 rfl (by kernel_rfl) ?_) | (refine load_row rfl 57 _ rfl (w.heap.size + 3) rfl 57 _ _ _ (heap_kp Rb.out hK) Try.underlying57 rfl (by kernel_rfl) ?_))
    go_ret
    exact ⟨rfl, KW.out.trans hK⟩
   ·cases Y
    ·clear hall
     go_enter Try.func34, Try.ntmps34
     go_wp2_with (first | (go_at_call 32; first | ((with_reducible (refine (HR.out _).mono ?_)); rintro e w2 ⟨rfl, hk⟩; replace hK := Kp.trans hK hk; clear hk)) | (go_at_call 59; first | ((with_reducible (refine (HX.out _).mono ?_)); rintro e w2 ⟨rfl, hk⟩; replace hK := Kp.trans hK hk; clear hk) | ((with_reducible (refine (HY.out _).mono ?_)); rintro e w2 ⟨rfl, hk⟩; replace hK := Kp.trans hK hk; clear hk)) | (go_at_call 60; first | ((with_reducible (refine (HW.out _).mono ?_)); rintro e w2 ⟨rfl, hk⟩; replace hK := Kp.trans hK hk; clear hk)) | (go_at_call 28; first | ((with_reducible (refine (HF.out _).mono ?_)); rintro e w2 ⟨rfl, hk⟩; replace hK := Kp.trans hK hk; clear hk)) | (refine load_row rfl 52 _ rfl w.heap.size rfl 52 _ _ _ (heap_kp Rx.out hK) Try.underlying52 rfl (by kernel_rfl) ?_) | (refine load_row rfl 52 _ rfl (w.heap.size + 1) rfl 52 _ _ _ (heap_kp Ry.out hK) Try.underlying52 rfl (by kernel_rfl) ?_) | (refine load_row rfl 50 _ rfl (w.heap.size + 2) rfl 50 _ _ _ (heap_kp Rp.out hK) Try.underlying50 rfl (by kernel_rfl) ?_) | (refine load_row rfl 57 _ rfl (w.heap.size + 3) rfl 57 _ _ _ (heap_kp Rb.out hK) Try.underlying57 rfl (by kernel_rfl) ?_))
     go_ret
     exact ⟨rfl, KW.out.trans hK⟩
    ·cases V
     ·clear hall
      go_enter Try.func34, Try.ntmps34
      go_wp2_with (first | (go_at_call 32; first | ((with_reducible (refine (HR.out _).mono ?_)); rintro e w2 ⟨rfl, hk⟩; replace hK := Kp.trans hK hk; clear hk)) | (go_at_call 59; first | ((with_reducible (refine (HX.out _).mono ?_)); rintro e w2 ⟨rfl, hk⟩; replace hK := Kp.trans hK hk; clear hk) | ((with_reducible (refine (HY.out _).mono ?_)); rintro e w2 ⟨rfl, hk⟩; replace hK := Kp.trans hK hk; clear hk)) | (go_at_call 60; first | ((with_reducible (refine (HW.out _).mono ?_)); rintro e w2 ⟨rfl, hk⟩; replace hK := Kp.trans hK hk; clear hk)) | (go_at_call 28; first | ((with_reducible (refine (HF.out _).mono ?_)); rintro e w2 ⟨rfl, hk⟩; replace hK := Kp.trans hK hk; clear hk)) | (refine load_row rfl 52 _ rfl w.heap.size rfl 52 _ _ _ (heap_kp Rx.out hK) Try.underlying52 rfl (by kernel_rfl) ?_) | (refine load_row rfl 52 _ rfl (w.heap.size + 1) rfl 52 _ _ _ (heap_kp Ry.out hK) Try.underlying52 rfl (by kernel_rfl) ?_) | (refine load_row rfl 50 _ rfl (w.heap.size + 2) rfl 50 _ _ _ (heap_kp Rp.out hK) Try.underlying50 rfl (by kernel_rfl) ?_) | (refine load_row rfl 57 _ rfl (w.heap.size + 3) rfl 57 _ _ _ (heap_kp Rb.out hK) Try.underlying57 rfl (by kernel_rfl) ?_))
      go_ret
      exact ⟨rfl, KW.out.trans hK⟩
     ·exact absurd rfl hall

set_option maxHeartbeats 4000000 in
theorem rmay_any (xf xi xa xe yf yi ya ye b p d l m h j r n : Int) (xq yq : Nat) (hp : p ≤ 9223372036854775807) (w : World) : Calls Try.prog 35 #[QV xf xi xa xq xe, QV yf yi ya yq ye, PV b p d l m, .int .i64 h, BV j r n] w fun e w' => e = .returned (.int .i64 (may xa xe xq ya ye yq b p d l m h j r n)) ∧ Kp w w' := by
 have HR := Lib.hid (fun w => rhRight_any b p d l m w)
 have HX := Lib.hid (fun w => rhpassed_any xf xi xa xq xe w)
 have HY := Lib.hid (fun w => rhpassed_any yf yi ya yq ye w)
 have HW := Lib.hid (fun w => rhworld_any h j r n w)
 have HF := Lib.hid (fun w => rhFee_any b p d l m ya hp w)
 have hb1 := fun k => (hright_iff (b := b) (p := p) (d := d) (l := l) (m := m)).1 k
 have hb2 := fun k => hpassed_iff (a := xa) (e := xe) (q := xq) k
 have hb3 := fun k => hpassed_iff (a := ya) (e := ye) (q := yq) k
 have hb4 := fun k => hworld_iff (h := h) (j := j) (b := r) (n := n) k
 have hb5 := fun k => fee_pos (b := b) (p := p) (d := d) (l := l) (m := m) (a := ya) k
 unfold may
 clear hp
 generalize hright b p d l m = R at *
 generalize hpassed xa xe xq = X at *
 generalize hpassed ya ye yq = Y at *
 generalize hworld h j r n = V at *
 generalize hfee b p d l m ya = F at *
 obtain ⟨F1, F2⟩ := F
 have Rx := Lib.hid (heap_kp (heap_new_at w (.cells #[.int .i64 xf, .int .i64 xi, .int .i64 xa, .int .u64 (xq : Int), .int .i64 xe] 52) (k := w.heap.size) rfl) (Kp.trans (Kp.refl (w.alloc (.cells #[.int .i64 xf, .int .i64 xi, .int .i64 xa, .int .u64 (xq : Int), .int .i64 xe] 52))) (((Kp.refl _).alloc (.cells #[.int .i64 yf, .int .i64 yi, .int .i64 ya, .int .u64 (yq : Int), .int .i64 ye] 52)).alloc (.cells #[.int .i64 b, .int .i64 p, .int .i64 d, .int .i64 l, .int .i64 m] 50) |>.alloc (.cells #[.int .i64 j, .int .i64 r, .int .i64 n] 57))))
 have Ry := Lib.hid (heap_kp (heap_new_at (w.alloc (.cells #[.int .i64 xf, .int .i64 xi, .int .i64 xa, .int .u64 (xq : Int), .int .i64 xe] 52)) (.cells #[.int .i64 yf, .int .i64 yi, .int .i64 ya, .int .u64 (yq : Int), .int .i64 ye] 52) (k := w.heap.size + 1) (by simp)) (((Kp.refl _).alloc (.cells #[.int .i64 b, .int .i64 p, .int .i64 d, .int .i64 l, .int .i64 m] 50)).alloc (.cells #[.int .i64 j, .int .i64 r, .int .i64 n] 57)))
 have Rp := Lib.hid (heap_kp (heap_new_at ((w.alloc (.cells #[.int .i64 xf, .int .i64 xi, .int .i64 xa, .int .u64 (xq : Int), .int .i64 xe] 52)).alloc (.cells #[.int .i64 yf, .int .i64 yi, .int .i64 ya, .int .u64 (yq : Int), .int .i64 ye] 52)) (.cells #[.int .i64 b, .int .i64 p, .int .i64 d, .int .i64 l, .int .i64 m] 50) (k := w.heap.size + 2) (by simp)) ((Kp.refl _).alloc (.cells #[.int .i64 j, .int .i64 r, .int .i64 n] 57)))
 have Rb := Lib.hid (heap_new_at (((w.alloc (.cells #[.int .i64 xf, .int .i64 xi, .int .i64 xa, .int .u64 (xq : Int), .int .i64 xe] 52)).alloc (.cells #[.int .i64 yf, .int .i64 yi, .int .i64 ya, .int .u64 (yq : Int), .int .i64 ye] 52)).alloc (.cells #[.int .i64 b, .int .i64 p, .int .i64 d, .int .i64 l, .int .i64 m] 50)) (.cells #[.int .i64 j, .int .i64 r, .int .i64 n] 57) (k := w.heap.size + 3) (by simp))
 have hK := Kp.refl ((((w.alloc (.cells #[.int .i64 xf, .int .i64 xi, .int .i64 xa, .int .u64 (xq : Int), .int .i64 xe] 52)).alloc (.cells #[.int .i64 yf, .int .i64 yi, .int .i64 ya, .int .u64 (yq : Int), .int .i64 ye] 52)).alloc (.cells #[.int .i64 b, .int .i64 p, .int .i64 d, .int .i64 l, .int .i64 m] 50)).alloc (.cells #[.int .i64 j, .int .i64 r, .int .i64 n] 57))
 have KW := Lib.hid (show Kp w ((((w.alloc (.cells #[.int .i64 xf, .int .i64 xi, .int .i64 xa, .int .u64 (xq : Int), .int .i64 xe] 52)).alloc (.cells #[.int .i64 yf, .int .i64 yi, .int .i64 ya, .int .u64 (yq : Int), .int .i64 ye] 52)).alloc (.cells #[.int .i64 b, .int .i64 p, .int .i64 d, .int .i64 l, .int .i64 m] 50)).alloc (.cells #[.int .i64 j, .int .i64 r, .int .i64 n] 57)) from ((((Kp.refl w).alloc _).alloc _).alloc _).alloc _)
 by_cases hall : (R && X && Y && V) = true
 ·simp only [Bool.and_eq_true] at hall
  obtain ⟨⟨⟨rfl, rfl⟩, rfl⟩, rfl⟩ := hall
  obtain ⟨_, _, _, _, hd1, hd2⟩ := hb1 rfl
  obtain ⟨⟨ha1, ha2⟩, ⟨ha3, ha4⟩, _⟩ := hb2 rfl
  obtain ⟨⟨hc1, hc2⟩, ⟨hc3, hc4⟩, _⟩ := hb3 rfl
  obtain ⟨⟨he1, he2⟩, he3, he4⟩ := hb4 rfl
  clear hb1 hb2 hb3 hb4
  generalize hq : hmay true true true true (F1, F2) xa ya l m xe ye d h n = q
  have HQ := Lib.hid hq
  clear hq
  have HI := Lib.hid (fun w => hin_any ya l m w)
  go_enter Try.func35, Try.ntmps35
  go_upto_region 3 with (first | (go_at_call 33; first | ((with_reducible (refine (HR.out _).mono ?_)); rintro e w2 ⟨rfl, hk⟩; replace hK := Kp.trans hK hk; clear hk)) | (go_at_call 61; first | ((with_reducible (refine (HX.out _).mono ?_)); rintro e w2 ⟨rfl, hk⟩; replace hK := Kp.trans hK hk; clear hk) | ((with_reducible (refine (HY.out _).mono ?_)); rintro e w2 ⟨rfl, hk⟩; replace hK := Kp.trans hK hk; clear hk)) | (go_at_call 62; first | ((with_reducible (refine (HW.out _).mono ?_)); rintro e w2 ⟨rfl, hk⟩; replace hK := Kp.trans hK hk; clear hk)) | (go_at_call 29; first | ((with_reducible (refine (HF.out _).mono ?_)); rintro e w2 ⟨rfl, hk⟩; replace hK := Kp.trans hK hk; clear hk)) | (refine load_row rfl 52 _ rfl w.heap.size rfl 52 _ _ _ (heap_kp Rx.out hK) Try.underlying52 rfl (by kernel_rfl) ?_) | (refine load_row rfl 52 _ rfl (w.heap.size + 1) rfl 52 _ _ _ (heap_kp Ry.out hK) Try.underlying52 rfl (by kernel_rfl) ?_) | (refine load_row rfl 50 _ rfl (w.heap.size + 2) rfl 50 _ _ _ (heap_kp Rp.out hK) Try.underlying50 rfl (by kernel_rfl) ?_) | (refine load_row rfl 57 _ rfl (w.heap.size + 3) rfl 57 _ _ _ (heap_kp Rb.out hK) Try.underlying57 rfl (by kernel_rfl) ?_))
  have cx2 := show w2.cell? ⟨w.heap.size, 2, none⟩ = some (.int .i64 xa) from by rw [cell_of_row _ _ _ _ _ _ (heap_kp Rx.out hK)]; rfl
  have cx4 := show w2.cell? ⟨w.heap.size, 4, none⟩ = some (.int .i64 xe) from by rw [cell_of_row _ _ _ _ _ _ (heap_kp Rx.out hK)]; rfl
  have cy2 := show w2.cell? ⟨w.heap.size + 1, 2, none⟩ = some (.int .i64 ya) from by rw [cell_of_row _ _ _ _ _ _ (heap_kp Ry.out hK)]; rfl
  have cy4 := show w2.cell? ⟨w.heap.size + 1, 4, none⟩ = some (.int .i64 ye) from by rw [cell_of_row _ _ _ _ _ _ (heap_kp Ry.out hK)]; rfl
  have cp2 := show w2.cell? ⟨w.heap.size + 2, 2, none⟩ = some (.int .i64 d) from by rw [cell_of_row _ _ _ _ _ _ (heap_kp Rp.out hK)]; rfl
  have cp3 := show w2.cell? ⟨w.heap.size + 2, 3, none⟩ = some (.int .i64 l) from by rw [cell_of_row _ _ _ _ _ _ (heap_kp Rp.out hK)]; rfl
  have cp4 := show w2.cell? ⟨w.heap.size + 2, 4, none⟩ = some (.int .i64 m) from by rw [cell_of_row _ _ _ _ _ _ (heap_kp Rp.out hK)]; rfl
  have cb2 := show w2.cell? ⟨w.heap.size + 3, 2, none⟩ = some (.int .i64 n) from by rw [cell_of_row _ _ _ _ _ _ (heap_kp Rb.out hK)]; rfl
  by_cases c1 : l ≤ ya ∧ ya ≤ m
  ·obtain ⟨c1a, c1b⟩ := c1
   go_upto_region 6 with (first | (go_at_call 33; first | ((with_reducible (refine (HR.out _).mono ?_)); rintro e w2 ⟨rfl, hk⟩; replace hK := Kp.trans hK hk; clear hk)) | (go_at_call 61; first | ((with_reducible (refine (HX.out _).mono ?_)); rintro e w2 ⟨rfl, hk⟩; replace hK := Kp.trans hK hk; clear hk) | ((with_reducible (refine (HY.out _).mono ?_)); rintro e w2 ⟨rfl, hk⟩; replace hK := Kp.trans hK hk; clear hk)) | (go_at_call 62; first | ((with_reducible (refine (HW.out _).mono ?_)); rintro e w2 ⟨rfl, hk⟩; replace hK := Kp.trans hK hk; clear hk)) | (go_at_call 29; first | ((with_reducible (refine (HF.out _).mono ?_)); rintro e w2 ⟨rfl, hk⟩; replace hK := Kp.trans hK hk; clear hk)) | (refine load_row rfl 52 _ rfl w.heap.size rfl 52 _ _ _ (heap_kp Rx.out hK) Try.underlying52 rfl (by kernel_rfl) ?_) | (refine load_row rfl 52 _ rfl (w.heap.size + 1) rfl 52 _ _ _ (heap_kp Ry.out hK) Try.underlying52 rfl (by kernel_rfl) ?_) | (refine load_row rfl 50 _ rfl (w.heap.size + 2) rfl 50 _ _ _ (heap_kp Rp.out hK) Try.underlying50 rfl (by kernel_rfl) ?_) | (refine load_row rfl 57 _ rfl (w.heap.size + 3) rfl 57 _ _ _ (heap_kp Rb.out hK) Try.underlying57 rfl (by kernel_rfl) ?_))
   clear cx2 cx4 cy2 cy4 cp2 cp3 cp4 cb2
   have cx2 := show w2.cell? ⟨w.heap.size, 2, none⟩ = some (.int .i64 xa) from by rw [cell_of_row _ _ _ _ _ _ (heap_kp Rx.out hK)]; rfl
   have cx4 := show w2.cell? ⟨w.heap.size, 4, none⟩ = some (.int .i64 xe) from by rw [cell_of_row _ _ _ _ _ _ (heap_kp Rx.out hK)]; rfl
   have cy2 := show w2.cell? ⟨w.heap.size + 1, 2, none⟩ = some (.int .i64 ya) from by rw [cell_of_row _ _ _ _ _ _ (heap_kp Ry.out hK)]; rfl
   have cy4 := show w2.cell? ⟨w.heap.size + 1, 4, none⟩ = some (.int .i64 ye) from by rw [cell_of_row _ _ _ _ _ _ (heap_kp Ry.out hK)]; rfl
   have cp2 := show w2.cell? ⟨w.heap.size + 2, 2, none⟩ = some (.int .i64 d) from by rw [cell_of_row _ _ _ _ _ _ (heap_kp Rp.out hK)]; rfl
   have cp3 := show w2.cell? ⟨w.heap.size + 2, 3, none⟩ = some (.int .i64 l) from by rw [cell_of_row _ _ _ _ _ _ (heap_kp Rp.out hK)]; rfl
   have cp4 := show w2.cell? ⟨w.heap.size + 2, 4, none⟩ = some (.int .i64 m) from by rw [cell_of_row _ _ _ _ _ _ (heap_kp Rp.out hK)]; rfl
   have cb2 := show w2.cell? ⟨w.heap.size + 3, 2, none⟩ = some (.int .i64 n) from by rw [cell_of_row _ _ _ _ _ _ (heap_kp Rb.out hK)]; rfl
   have c1 : l ≤ ya ∧ ya ≤ m := ⟨c1a, c1b⟩
   cases F2
   ·have e : q = 13 := by rw [← HQ.out]; unfold hmay; rw [if_neg (by simp), if_neg (by simp; omega), if_pos (by simp)]
    subst e
    clear HQ
    clear c1 hb5
    go_wp2_with fail
    go_ret
    exact ⟨rfl, KW.out.trans hK⟩
   ·obtain ⟨f1, f2⟩ := hb5 rfl
    clear hb5
    by_cases c2 : xa - ya < F1
    ·have e : q = 13 := by rw [← HQ.out]; unfold hmay; rw [if_neg (by simp), if_neg (by simp; omega), if_pos (by simp; omega)]
     subst e
     clear HQ
     clear c1
     have c2' : xa < ya + F1 := by omega
     go_wp2_with fail
     go_ret
     exact ⟨rfl, KW.out.trans hK⟩
    ·by_cases c3 : xe - ye < d
     ·have e : q = 16 := by rw [← HQ.out]; unfold hmay; rw [if_neg (by simp), if_neg (by simp; omega), if_neg (by simp; omega), if_pos (by omega)]
      subst e
      clear HQ
      clear c1
      have c2' : ¬ xa < ya + F1 := by omega
      have c3' : xe < ye + d := by omega
      go_wp2_with fail
      go_ret
      exact ⟨rfl, KW.out.trans hK⟩
     ·by_cases c4 : ye - h ≤ n
      ·have e : q = 16 := by rw [← HQ.out]; unfold hmay; rw [if_neg (by simp), if_neg (by simp; omega), if_neg (by simp; omega), if_pos (by omega)]
       subst e
       clear HQ
       clear c1
       have c2' : ¬ xa < ya + F1 := by omega
       have c3' : ¬ xe < ye + d := by omega
       have c4' : ye ≤ h + n := by omega
       go_wp2_with fail
       go_ret
       exact ⟨rfl, KW.out.trans hK⟩
      ·have e : q = 0 := by rw [← HQ.out]; unfold hmay; rw [if_neg (by simp), if_neg (by simp; omega), if_neg (by simp; omega), if_neg (by omega)]
       subst e
       clear HQ
       clear c1
       have c2' : ¬ xa < ya + F1 := by omega
       have c3' : ¬ xe < ye + d := by omega
       have c4' : ¬ ye ≤ h + n := by omega
       go_wp2_with fail
       go_ret
       exact ⟨rfl, KW.out.trans hK⟩
  ·clear hb5
   have e : q = 6 := by rw [← HQ.out]; unfold hmay; rw [if_neg (by simp), if_pos c1]
   subst e
   clear HQ
   by_cases c5 : l ≤ ya
   ·have c6 : ¬ ya ≤ m := fun h6 => c1 ⟨c5, h6⟩
    clear c1
    go_wp2_with fail
    go_ret
    exact ⟨rfl, KW.out.trans hK⟩
   ·clear c1
    go_wp2_with fail
    go_ret
    exact ⟨rfl, KW.out.trans hK⟩
 ·have e : hmay R X Y V (F1, F2) xa ya l m xe ye d h n = 1 := by unfold hmay; rw [if_pos (by simpa using hall)]
  rw [e]
  clear e hb1 hb2 hb3 hb4 hb5
  cases R
  ·clear hall
   go_enter Try.func35, Try.ntmps35
   go_wp2_with (first | (go_at_call 33; first | ((with_reducible (refine (HR.out _).mono ?_)); rintro e w2 ⟨rfl, hk⟩; replace hK := Kp.trans hK hk; clear hk)) | (go_at_call 61; first | ((with_reducible (refine (HX.out _).mono ?_)); rintro e w2 ⟨rfl, hk⟩; replace hK := Kp.trans hK hk; clear hk) | ((with_reducible (refine (HY.out _).mono ?_)); rintro e w2 ⟨rfl, hk⟩; replace hK := Kp.trans hK hk; clear hk)) | (go_at_call 62; first | ((with_reducible (refine (HW.out _).mono ?_)); rintro e w2 ⟨rfl, hk⟩; replace hK := Kp.trans hK hk; clear hk)) | (go_at_call 29; first | ((with_reducible (refine (HF.out _).mono ?_)); rintro e w2 ⟨rfl, hk⟩; replace hK := Kp.trans hK hk; clear hk)) | (refine load_row rfl 52 _ rfl w.heap.size rfl 52 _ _ _ (heap_kp Rx.out hK) Try.underlying52 rfl (by kernel_rfl) ?_) | (refine load_row rfl 52 _ rfl (w.heap.size + 1) rfl 52 _ _ _ (heap_kp Ry.out hK) Try.underlying52 rfl (by kernel_rfl) ?_) | (refine load_row rfl 50 _ rfl (w.heap.size + 2) rfl 50 _ _ _ (heap_kp Rp.out hK) Try.underlying50 rfl (by kernel_rfl) ?_) | (refine load_row rfl 57 _ rfl (w.heap.size + 3) rfl 57 _ _ _ (heap_kp Rb.out hK) Try.underlying57 rfl (by kernel_rfl) ?_))
   go_ret
   exact ⟨rfl, KW.out.trans hK⟩
  ·cases X
   ·clear hall
    go_enter Try.func35, Try.ntmps35
    go_wp2_with (first | (go_at_call 33; first | ((with_reducible (refine (HR.out _).mono ?_)); rintro e w2 ⟨rfl, hk⟩; replace hK := Kp.trans hK hk; clear hk)) | (go_at_call 61; first | ((with_reducible (refine (HX.out _).mono ?_)); rintro e w2 ⟨rfl, hk⟩; replace hK := Kp.trans hK hk; clear hk) | ((with_reducible (refine (HY.out _).mono ?_)); rintro e w2 ⟨rfl, hk⟩; replace hK := Kp.trans hK hk; clear hk)) | (go_at_call 62; first | ((with_reducible (refine (HW.out _).mono ?_)); rintro e w2 ⟨rfl, hk⟩; replace hK := Kp.trans hK hk; clear hk)) | (go_at_call 29; first | ((with_reducible (refine (HF.out _).mono ?_)); rintro e w2 ⟨rfl, hk⟩; replace hK := Kp.trans hK hk; clear hk)) | (refine load_row rfl 52 _ rfl w.heap.size rfl 52 _ _ _ (heap_kp Rx.out hK) Try.underlying52 rfl (by kernel_rfl) ?_) | (refine load_row rfl 52 _ rfl (w.heap.size + 1) rfl 52 _ _ _ (heap_kp Ry.out hK) Try.underlying52 rfl (by kernel_rfl) ?_) | (refine load_row rfl 50 _ rfl (w.heap.size + 2) rfl 50 _ _ _ (heap_kp Rp.out hK) Try.underlying50 rfl (by kernel_rfl) ?_) | (refine load_row rfl 57 _ rfl (w.heap.size + 3) rfl 57 _ _ _ (heap_kp Rb.out hK) Try.underlying57 rfl (by kernel_rfl) ?_))
    go_ret
    exact ⟨rfl, KW.out.trans hK⟩
   ·cases Y
    ·clear hall
     go_enter Try.func35, Try.ntmps35
     go_wp2_with (first | (go_at_call 33; first | ((with_reducible (refine (HR.out _).mono ?_)); rintro e w2 ⟨rfl, hk⟩; replace hK := Kp.trans hK hk; clear hk)) | (go_at_call 61; first | ((with_reducible (refine (HX.out _).mono ?_)); rintro e w2 ⟨rfl, hk⟩; replace hK := Kp.trans hK hk; clear hk) | ((with_reducible (refine (HY.out _).mono ?_)); rintro e w2 ⟨rfl, hk⟩; replace hK := Kp.trans hK hk; clear hk)) | (go_at_call 62; first | ((with_reducible (refine (HW.out _).mono ?_)); rintro e w2 ⟨rfl, hk⟩; replace hK := Kp.trans hK hk; clear hk)) | (go_at_call 29; first | ((with_reducible (refine (HF.out _).mono ?_)); rintro e w2 ⟨rfl, hk⟩; replace hK := Kp.trans hK hk; clear hk)) | (refine load_row rfl 52 _ rfl w.heap.size rfl 52 _ _ _ (heap_kp Rx.out hK) Try.underlying52 rfl (by kernel_rfl) ?_) | (refine load_row rfl 52 _ rfl (w.heap.size + 1) rfl 52 _ _ _ (heap_kp Ry.out hK) Try.underlying52 rfl (by kernel_rfl) ?_) | (refine load_row rfl 50 _ rfl (w.heap.size + 2) rfl 50 _ _ _ (heap_kp Rp.out hK) Try.underlying50 rfl (by kernel_rfl) ?_) | (refine load_row rfl 57 _ rfl (w.heap.size + 3) rfl 57 _ _ _ (heap_kp Rb.out hK) Try.underlying57 rfl (by kernel_rfl) ?_))
     go_ret
     exact ⟨rfl, KW.out.trans hK⟩
    ·cases V
     ·clear hall
      go_enter Try.func35, Try.ntmps35
      go_wp2_with (first | (go_at_call 33; first | ((with_reducible (refine (HR.out _).mono ?_)); rintro e w2 ⟨rfl, hk⟩; replace hK := Kp.trans hK hk; clear hk)) | (go_at_call 61; first | ((with_reducible (refine (HX.out _).mono ?_)); rintro e w2 ⟨rfl, hk⟩; replace hK := Kp.trans hK hk; clear hk) | ((with_reducible (refine (HY.out _).mono ?_)); rintro e w2 ⟨rfl, hk⟩; replace hK := Kp.trans hK hk; clear hk)) | (go_at_call 62; first | ((with_reducible (refine (HW.out _).mono ?_)); rintro e w2 ⟨rfl, hk⟩; replace hK := Kp.trans hK hk; clear hk)) | (go_at_call 29; first | ((with_reducible (refine (HF.out _).mono ?_)); rintro e w2 ⟨rfl, hk⟩; replace hK := Kp.trans hK hk; clear hk)) | (refine load_row rfl 52 _ rfl w.heap.size rfl 52 _ _ _ (heap_kp Rx.out hK) Try.underlying52 rfl (by kernel_rfl) ?_) | (refine load_row rfl 52 _ rfl (w.heap.size + 1) rfl 52 _ _ _ (heap_kp Ry.out hK) Try.underlying52 rfl (by kernel_rfl) ?_) | (refine load_row rfl 50 _ rfl (w.heap.size + 2) rfl 50 _ _ _ (heap_kp Rp.out hK) Try.underlying50 rfl (by kernel_rfl) ?_) | (refine load_row rfl 57 _ rfl (w.heap.size + 3) rfl 57 _ _ _ (heap_kp Rb.out hK) Try.underlying57 rfl (by kernel_rfl) ?_))
      go_ret
      exact ⟨rfl, KW.out.trans hK⟩
     ·exact absurd rfl hall

end Go.Proofs.Ytcdmmfelagbpdaa
