/- Contracts of hop.Next and its reference (printed by genho8.py). -/
import Derived.Test.YtcdmmfelagbpdaaHo7
import Derived.Deep.DeepCutAuto
import Derived.Laws.CopyOwn
namespace Go.Proofs.Ytcdmmfelagbpdaa
open Go.RowKit Go.Lib Ckp Cfd Cpd Cwl
set_option linter.unusedVariables false
set_option linter.unusedSimpArgs false
set_option maxRecDepth 8192
/-- What is told of passing on: whether it may be, and the error's number. -/
def hnext (n c E : Int) (xq z : Nat) : Bool × Int := if (inn n 0 11 && inn c 0 39) = false ∨ E = 1 then (false, 1) else if xq ≠ z then (false, 23) else if E ≠ 0 then (false, E) else (true, 0)
/-- What is passed on, as cells. -/
def nxtCs (ok : Bool) (a e : Int) (q : Nat) : Array Value := if ok = true then #[.int .i64 0, .int .i64 0, .int .i64 a, .int .u64 (q : Int), .int .i64 e] else #[.int .i64 0, .int .i64 0, .int .i64 0, .int .u64 0, .int .i64 0]
def next (n c a e : Int) (q bl : Nat) (xa xe : Int) (xq : Nat) (b p d l m h j r nap : Int) : Bool × Int := hnext n c (may xa xe xq a e q b p d l m h j r nap) xq (padd q (pbase bl))
theorem may_right {xa xe : Int} {xq : Nat} {a e : Int} {q : Nat} {b p d l m h j r nap : Int} (k : ¬ may xa xe xq a e q b p d l m h j r nap = 1) : pright q = true := by
 unfold may hmay at k
 split at k
 ·exact absurd rfl k
 ·rename_i hh
  simp only [Bool.not_eq_false, Bool.and_eq_true] at hh
  exact (hpassed_iff hh.1.2).2.2.2

set_option maxHeartbeats 4000000 in
theorem next_any (n c a e xf xi xa xe b p d l m h j r nap : Int) (q bl xq : Nat) (hq : q < 18446744073709551616) (hxq : xq < 18446744073709551616) (hp : p ≤ 9223372036854775807) (w : World) : Calls Try.prog 30 #[HvH n c a e q bl, QV xf xi xa xq xe, PV b p d l m, .int .i64 h, BV j r nap] w fun e' w' => e' = .returned (.tuple #[.agg (nxtCs (next n c a e q bl xa xe xq b p d l m h j r nap).1 a e q), .int .i64 (next n c a e q bl xa xe xq b p d l m h j r nap).2]) ∧ Kp w w' := by
 have HO := Lib.hid (fun w => told_any n c a e q bl w)
 have HM := Lib.hid (fun w => may_any xf xi xa xe 0 0 a e b p d l m h j r nap xq q hxq hq hp w)
 have HI1 := Lib.hid (fun w => hin_any n 0 11 w)
 have HI2 := Lib.hid (fun w => hin_any c 0 39 w)
 have hri : ¬ may xa xe xq a e q b p d l m h j r nap = 1 → pright q = true := may_right
 have HN : Hid (pright q = true → ∀ w, Calls Try.prog 55 #[HvH n c a e q bl] w fun e' w' => e' = .returned (.int .u64 (padd q (pbase bl) : Nat)) ∧ Kp w w') := Lib.hid (fun hr w => hown_any n c a e q bl hq hr w)
 unfold next
 clear hp hq hxq
 generalize may xa xe xq a e q b p d l m h j r nap = E at *
 generalize padd q (pbase bl) = z at *
 generalize hnx : hnext n c E xq z = NX at *
 have HNX := Lib.hid hnx
 clear hnx
 have Rh := Lib.hid (heap_kp (heap_new_at w (.cells #[.int .i64 n, .int .i64 c, .int .i64 a, .int .i64 e, .int .u64 (q : Int), .int .u64 (bl : Int)] 55) (k := w.heap.size) rfl) (Kp.alloc (Kp.alloc (Kp.alloc (Kp.alloc (Kp.refl (w.alloc (.cells #[.int .i64 n, .int .i64 c, .int .i64 a, .int .i64 e, .int .u64 (q : Int), .int .u64 (bl : Int)] 55))) (.cells #[.int .i64 xf, .int .i64 xi, .int .i64 xa, .int .u64 (xq : Int), .int .i64 xe] 52)) (.cells #[.int .i64 b, .int .i64 p, .int .i64 d, .int .i64 l, .int .i64 m] 50)) (.cells #[.int .i64 j, .int .i64 r, .int .i64 nap] 57)) (.cells #[.int .i64 0, .int .i64 0, .int .i64 0, .int .u64 0, .int .i64 0] 52)))
 have Rx := Lib.hid (heap_kp (heap_new_at (w.alloc (.cells #[.int .i64 n, .int .i64 c, .int .i64 a, .int .i64 e, .int .u64 (q : Int), .int .u64 (bl : Int)] 55)) (.cells #[.int .i64 xf, .int .i64 xi, .int .i64 xa, .int .u64 (xq : Int), .int .i64 xe] 52) (k := w.heap.size + 1) (by simp)) (Kp.alloc (Kp.alloc (Kp.alloc (Kp.refl ((w.alloc (.cells #[.int .i64 n, .int .i64 c, .int .i64 a, .int .i64 e, .int .u64 (q : Int), .int .u64 (bl : Int)] 55)).alloc (.cells #[.int .i64 xf, .int .i64 xi, .int .i64 xa, .int .u64 (xq : Int), .int .i64 xe] 52))) (.cells #[.int .i64 b, .int .i64 p, .int .i64 d, .int .i64 l, .int .i64 m] 50)) (.cells #[.int .i64 j, .int .i64 r, .int .i64 nap] 57)) (.cells #[.int .i64 0, .int .i64 0, .int .i64 0, .int .u64 0, .int .i64 0] 52)))
 have Rp := Lib.hid (heap_kp (heap_new_at ((w.alloc (.cells #[.int .i64 n, .int .i64 c, .int .i64 a, .int .i64 e, .int .u64 (q : Int), .int .u64 (bl : Int)] 55)).alloc (.cells #[.int .i64 xf, .int .i64 xi, .int .i64 xa, .int .u64 (xq : Int), .int .i64 xe] 52)) (.cells #[.int .i64 b, .int .i64 p, .int .i64 d, .int .i64 l, .int .i64 m] 50) (k := w.heap.size + 2) (by simp)) (Kp.alloc (Kp.alloc (Kp.refl (((w.alloc (.cells #[.int .i64 n, .int .i64 c, .int .i64 a, .int .i64 e, .int .u64 (q : Int), .int .u64 (bl : Int)] 55)).alloc (.cells #[.int .i64 xf, .int .i64 xi, .int .i64 xa, .int .u64 (xq : Int), .int .i64 xe] 52)).alloc (.cells #[.int .i64 b, .int .i64 p, .int .i64 d, .int .i64 l, .int .i64 m] 50))) (.cells #[.int .i64 j, .int .i64 r, .int .i64 nap] 57)) (.cells #[.int .i64 0, .int .i64 0, .int .i64 0, .int .u64 0, .int .i64 0] 52)))
 have Rb := Lib.hid (heap_kp (heap_new_at (((w.alloc (.cells #[.int .i64 n, .int .i64 c, .int .i64 a, .int .i64 e, .int .u64 (q : Int), .int .u64 (bl : Int)] 55)).alloc (.cells #[.int .i64 xf, .int .i64 xi, .int .i64 xa, .int .u64 (xq : Int), .int .i64 xe] 52)).alloc (.cells #[.int .i64 b, .int .i64 p, .int .i64 d, .int .i64 l, .int .i64 m] 50)) (.cells #[.int .i64 j, .int .i64 r, .int .i64 nap] 57) (k := w.heap.size + 3) (by simp)) (Kp.alloc (Kp.refl ((((w.alloc (.cells #[.int .i64 n, .int .i64 c, .int .i64 a, .int .i64 e, .int .u64 (q : Int), .int .u64 (bl : Int)] 55)).alloc (.cells #[.int .i64 xf, .int .i64 xi, .int .i64 xa, .int .u64 (xq : Int), .int .i64 xe] 52)).alloc (.cells #[.int .i64 b, .int .i64 p, .int .i64 d, .int .i64 l, .int .i64 m] 50)).alloc (.cells #[.int .i64 j, .int .i64 r, .int .i64 nap] 57))) (.cells #[.int .i64 0, .int .i64 0, .int .i64 0, .int .u64 0, .int .i64 0] 52)))
 have Rz := Lib.hid (heap_new_at ((((w.alloc (.cells #[.int .i64 n, .int .i64 c, .int .i64 a, .int .i64 e, .int .u64 (q : Int), .int .u64 (bl : Int)] 55)).alloc (.cells #[.int .i64 xf, .int .i64 xi, .int .i64 xa, .int .u64 (xq : Int), .int .i64 xe] 52)).alloc (.cells #[.int .i64 b, .int .i64 p, .int .i64 d, .int .i64 l, .int .i64 m] 50)).alloc (.cells #[.int .i64 j, .int .i64 r, .int .i64 nap] 57)) (.cells #[.int .i64 0, .int .i64 0, .int .i64 0, .int .u64 0, .int .i64 0] 52) (k := w.heap.size + 4) (by simp))
 have hK := Kp.refl (((((w.alloc (.cells #[.int .i64 n, .int .i64 c, .int .i64 a, .int .i64 e, .int .u64 (q : Int), .int .u64 (bl : Int)] 55)).alloc (.cells #[.int .i64 xf, .int .i64 xi, .int .i64 xa, .int .u64 (xq : Int), .int .i64 xe] 52)).alloc (.cells #[.int .i64 b, .int .i64 p, .int .i64 d, .int .i64 l, .int .i64 m] 50)).alloc (.cells #[.int .i64 j, .int .i64 r, .int .i64 nap] 57)).alloc (.cells #[.int .i64 0, .int .i64 0, .int .i64 0, .int .u64 0, .int .i64 0] 52))
 have KW := Lib.hid (show Kp w (((((w.alloc (.cells #[.int .i64 n, .int .i64 c, .int .i64 a, .int .i64 e, .int .u64 (q : Int), .int .u64 (bl : Int)] 55)).alloc (.cells #[.int .i64 xf, .int .i64 xi, .int .i64 xa, .int .u64 (xq : Int), .int .i64 xe] 52)).alloc (.cells #[.int .i64 b, .int .i64 p, .int .i64 d, .int .i64 l, .int .i64 m] 50)).alloc (.cells #[.int .i64 j, .int .i64 r, .int .i64 nap] 57)).alloc (.cells #[.int .i64 0, .int .i64 0, .int .i64 0, .int .u64 0, .int .i64 0] 52)) from ((((((Kp.refl w).alloc _).alloc _).alloc _).alloc _).alloc _))
 go_enter Try.func30, Try.ntmps30
 go_upto_region 1 with fail
 generalize hWz : (((((w.alloc (.cells #[.int .i64 n, .int .i64 c, .int .i64 a, .int .i64 e, .int .u64 (q : Int), .int .u64 (bl : Int)] 55)).alloc (.cells #[.int .i64 xf, .int .i64 xi, .int .i64 xa, .int .u64 (xq : Int), .int .i64 xe] 52)).alloc (.cells #[.int .i64 b, .int .i64 p, .int .i64 d, .int .i64 l, .int .i64 m] 50)).alloc (.cells #[.int .i64 j, .int .i64 r, .int .i64 nap] 57)).alloc (.cells #[.int .i64 0, .int .i64 0, .int .i64 0, .int .u64 0, .int .i64 0] 52)) = Wz at *
 clear hWz
 go_cut [12] (fun p12 wx => ∃ g : Nat, p12 = .pointer (some ⟨g, 0, none⟩) ∧ wx.heap[g]? = some (.cells #[.int .i64 0, .int .i64 0, .int .i64 a, .int .u64 (q : Int), .int .i64 e] 52 (0, 0)) ∧ Kp Wz wx)
 case first =>
  go_wp2_with (first | (go_at_call 53; first | ((with_reducible (refine (HO.out _).mono ?_)); rintro e' w2 ⟨rfl, hk⟩; replace hK := Kp.trans hK hk; clear hk)) | (refine load_row rfl 55 _ rfl w.heap.size rfl 55 _ _ _ (heap_kp Rh.out hK) Try.underlying55 rfl (by kernel_rfl) ?_) | (refine load_row rfl 52 _ rfl (w.heap.size + 1) rfl 52 _ _ _ (heap_kp Rx.out hK) Try.underlying52 rfl (by kernel_rfl) ?_) | (refine load_row rfl 50 _ rfl (w.heap.size + 2) rfl 50 _ _ _ (heap_kp Rp.out hK) Try.underlying50 rfl (by kernel_rfl) ?_) | (refine load_row rfl 57 _ rfl (w.heap.size + 3) rfl 57 _ _ _ (heap_kp Rb.out hK) Try.underlying57 rfl (by kernel_rfl) ?_))
  go_meet
  exact ⟨_, rfl, heap_alloc_new _ _, hK.alloc _⟩
 case rest =>
  clear hK
  obtain ⟨g, rfl, hy, hK⟩ := hcut
  have Ry := Lib.hid hy
  clear hy
  obtain ⟨wb, rfl⟩ : ∃ wb : World, wb = wc := ⟨_, rfl⟩
  have HKb := Lib.hid hK
  have Rh := Lib.hid (heap_kp Rh.out hK)
  have Rx := Lib.hid (heap_kp Rx.out hK)
  have Rp := Lib.hid (heap_kp Rp.out hK)
  have Rb := Lib.hid (heap_kp Rb.out hK)
  have Rz := Lib.hid (heap_kp Rz.out hK)
  replace hK := Kp.refl wb
  go_upto_region 3 with (first | (go_at_call 34; first | ((with_reducible (refine (HM.out _).mono ?_)); rintro e' w2 ⟨rfl, hk⟩; replace hK := Kp.trans hK hk; clear hk)) | (refine load_row rfl 55 _ rfl w.heap.size rfl 55 _ _ _ (heap_kp Rh.out hK) Try.underlying55 rfl (by kernel_rfl) ?_) | (refine load_row rfl 52 _ rfl (w.heap.size + 1) rfl 52 _ _ _ (heap_kp Rx.out hK) Try.underlying52 rfl (by kernel_rfl) ?_) | (refine load_row rfl 50 _ rfl (w.heap.size + 2) rfl 50 _ _ _ (heap_kp Rp.out hK) Try.underlying50 rfl (by kernel_rfl) ?_) | (refine load_row rfl 57 _ rfl (w.heap.size + 3) rfl 57 _ _ _ (heap_kp Rb.out hK) Try.underlying57 rfl (by kernel_rfl) ?_) | (refine load_row rfl 52 _ rfl g rfl 52 _ _ _ (heap_kp Ry.out hK) Try.underlying52 rfl (by kernel_rfl) ?_))
  have ch0 : w2.cell? ⟨w.heap.size, 0, none⟩ = some (.int .i64 n) := by rw [cell_of_row _ _ _ _ _ _ (heap_kp Rh.out hK)]; rfl
  have ch1 : w2.cell? ⟨w.heap.size, 1, none⟩ = some (.int .i64 c) := by rw [cell_of_row _ _ _ _ _ _ (heap_kp Rh.out hK)]; rfl
  have hnx := HNX.out
  unfold hnext at hnx
  generalize inn n 0 11 = N1 at *
  generalize inn c 0 39 = N2 at *
  cases N1
  ·have e1 : NX = (false, 1) := by rw [← hnx]; rw [if_pos (.inl (by simp))]
   subst e1
   clear hnx HNX
   clear hri
   go_wp2_with (first | (go_at_call 54; first | ((with_reducible (refine (HI1.out _).mono ?_)); rintro e' w' ⟨rfl, rfl⟩) | ((with_reducible (refine (HI2.out _).mono ?_)); rintro e' w' ⟨rfl, rfl⟩)) | (refine store_row rfl 52 _ _ rfl (w.heap.size + 4) rfl _ rfl 52 _ (heap_kp Rz.out hK) (by kernel_rfl) rfl (by first | rfl | kernel_rfl) ?_) | (refine load_row rfl 52 _ rfl g rfl 52 _ _ _ (heap_kp Ry.out hK) Try.underlying52 rfl (by kernel_rfl) ?_))
   have hr := setRow_heap w2 (w.heap.size + 4) _ (#[.int .i64 0, .int .i64 0, .int .i64 0, .int .u64 0, .int .i64 0] : Array Value) _ _ (heap_kp Rz.out hK)
   have c0 : (w2.setRow (w.heap.size + 4) #[.int .i64 0, .int .i64 0, .int .i64 0, .int .u64 0, .int .i64 0]).cell? ⟨w.heap.size + 4, 0, none⟩ = some (.int .i64 0) := by rw [cell_of_row _ _ _ _ _ _ hr]; rfl
   have c1 : (w2.setRow (w.heap.size + 4) #[.int .i64 0, .int .i64 0, .int .i64 0, .int .u64 0, .int .i64 0]).cell? ⟨w.heap.size + 4, 1, none⟩ = some (.int .i64 0) := by rw [cell_of_row _ _ _ _ _ _ hr]; rfl
   have c2 : (w2.setRow (w.heap.size + 4) #[.int .i64 0, .int .i64 0, .int .i64 0, .int .u64 0, .int .i64 0]).cell? ⟨w.heap.size + 4, 2, none⟩ = some (.int .i64 0) := by rw [cell_of_row _ _ _ _ _ _ hr]; rfl
   have c3 : (w2.setRow (w.heap.size + 4) #[.int .i64 0, .int .i64 0, .int .i64 0, .int .u64 0, .int .i64 0]).cell? ⟨w.heap.size + 4, 3, none⟩ = some (.int .u64 0) := by rw [cell_of_row _ _ _ _ _ _ hr]; rfl
   have c4 : (w2.setRow (w.heap.size + 4) #[.int .i64 0, .int .i64 0, .int .i64 0, .int .u64 0, .int .i64 0]).cell? ⟨w.heap.size + 4, 4, none⟩ = some (.int .i64 0) := by rw [cell_of_row _ _ _ _ _ _ hr]; rfl
   exact bodyPost_ret (v := .tuple #[.agg #[.int .i64 0, .int .i64 0, .int .i64 0, .int .u64 0, .int .i64 0], .int .i64 1]) (by simp [results, Try.results30, go_sem, c0, c1, c2, c3, c4]) rfl ⟨by first | rfl | simp [nxtCs], below_setRow (KW.out.trans (HKb.out.trans hK)) (by omega) _⟩
  ·cases N2
   ·have e1 : NX = (false, 1) := by rw [← hnx]; rw [if_pos (.inl (by simp))]
    subst e1
    clear hnx HNX
    clear hri
    go_wp2_with (first | (go_at_call 54; first | ((with_reducible (refine (HI1.out _).mono ?_)); rintro e' w' ⟨rfl, rfl⟩) | ((with_reducible (refine (HI2.out _).mono ?_)); rintro e' w' ⟨rfl, rfl⟩)) | (refine store_row rfl 52 _ _ rfl (w.heap.size + 4) rfl _ rfl 52 _ (heap_kp Rz.out hK) (by kernel_rfl) rfl (by first | rfl | kernel_rfl) ?_) | (refine load_row rfl 52 _ rfl g rfl 52 _ _ _ (heap_kp Ry.out hK) Try.underlying52 rfl (by kernel_rfl) ?_))
    have hr := setRow_heap w2 (w.heap.size + 4) _ (#[.int .i64 0, .int .i64 0, .int .i64 0, .int .u64 0, .int .i64 0] : Array Value) _ _ (heap_kp Rz.out hK)
    have c0 : (w2.setRow (w.heap.size + 4) #[.int .i64 0, .int .i64 0, .int .i64 0, .int .u64 0, .int .i64 0]).cell? ⟨w.heap.size + 4, 0, none⟩ = some (.int .i64 0) := by rw [cell_of_row _ _ _ _ _ _ hr]; rfl
    have c1 : (w2.setRow (w.heap.size + 4) #[.int .i64 0, .int .i64 0, .int .i64 0, .int .u64 0, .int .i64 0]).cell? ⟨w.heap.size + 4, 1, none⟩ = some (.int .i64 0) := by rw [cell_of_row _ _ _ _ _ _ hr]; rfl
    have c2 : (w2.setRow (w.heap.size + 4) #[.int .i64 0, .int .i64 0, .int .i64 0, .int .u64 0, .int .i64 0]).cell? ⟨w.heap.size + 4, 2, none⟩ = some (.int .i64 0) := by rw [cell_of_row _ _ _ _ _ _ hr]; rfl
    have c3 : (w2.setRow (w.heap.size + 4) #[.int .i64 0, .int .i64 0, .int .i64 0, .int .u64 0, .int .i64 0]).cell? ⟨w.heap.size + 4, 3, none⟩ = some (.int .u64 0) := by rw [cell_of_row _ _ _ _ _ _ hr]; rfl
    have c4 : (w2.setRow (w.heap.size + 4) #[.int .i64 0, .int .i64 0, .int .i64 0, .int .u64 0, .int .i64 0]).cell? ⟨w.heap.size + 4, 4, none⟩ = some (.int .i64 0) := by rw [cell_of_row _ _ _ _ _ _ hr]; rfl
    exact bodyPost_ret (v := .tuple #[.agg #[.int .i64 0, .int .i64 0, .int .i64 0, .int .u64 0, .int .i64 0], .int .i64 1]) (by simp [results, Try.results30, go_sem, c0, c1, c2, c3, c4]) rfl ⟨by first | rfl | simp [nxtCs], below_setRow (KW.out.trans (HKb.out.trans hK)) (by omega) _⟩
   ·by_cases hE : E = 1
    ·subst hE
     have e1 : NX = (false, 1) := by rw [← hnx]; rw [if_pos (.inr rfl)]
     subst e1
     clear hnx HNX
     clear hri
     go_wp2_with (first | (go_at_call 54; first | ((with_reducible (refine (HI1.out _).mono ?_)); rintro e' w' ⟨rfl, rfl⟩) | ((with_reducible (refine (HI2.out _).mono ?_)); rintro e' w' ⟨rfl, rfl⟩)) | (refine store_row rfl 52 _ _ rfl (w.heap.size + 4) rfl _ rfl 52 _ (heap_kp Rz.out hK) (by kernel_rfl) rfl (by first | rfl | kernel_rfl) ?_) | (refine load_row rfl 52 _ rfl g rfl 52 _ _ _ (heap_kp Ry.out hK) Try.underlying52 rfl (by kernel_rfl) ?_))
     have hr := setRow_heap w2 (w.heap.size + 4) _ (#[.int .i64 0, .int .i64 0, .int .i64 0, .int .u64 0, .int .i64 0] : Array Value) _ _ (heap_kp Rz.out hK)
     have c0 : (w2.setRow (w.heap.size + 4) #[.int .i64 0, .int .i64 0, .int .i64 0, .int .u64 0, .int .i64 0]).cell? ⟨w.heap.size + 4, 0, none⟩ = some (.int .i64 0) := by rw [cell_of_row _ _ _ _ _ _ hr]; rfl
     have c1 : (w2.setRow (w.heap.size + 4) #[.int .i64 0, .int .i64 0, .int .i64 0, .int .u64 0, .int .i64 0]).cell? ⟨w.heap.size + 4, 1, none⟩ = some (.int .i64 0) := by rw [cell_of_row _ _ _ _ _ _ hr]; rfl
     have c2 : (w2.setRow (w.heap.size + 4) #[.int .i64 0, .int .i64 0, .int .i64 0, .int .u64 0, .int .i64 0]).cell? ⟨w.heap.size + 4, 2, none⟩ = some (.int .i64 0) := by rw [cell_of_row _ _ _ _ _ _ hr]; rfl
     have c3 : (w2.setRow (w.heap.size + 4) #[.int .i64 0, .int .i64 0, .int .i64 0, .int .u64 0, .int .i64 0]).cell? ⟨w.heap.size + 4, 3, none⟩ = some (.int .u64 0) := by rw [cell_of_row _ _ _ _ _ _ hr]; rfl
     have c4 : (w2.setRow (w.heap.size + 4) #[.int .i64 0, .int .i64 0, .int .i64 0, .int .u64 0, .int .i64 0]).cell? ⟨w.heap.size + 4, 4, none⟩ = some (.int .i64 0) := by rw [cell_of_row _ _ _ _ _ _ hr]; rfl
     exact bodyPost_ret (v := .tuple #[.agg #[.int .i64 0, .int .i64 0, .int .i64 0, .int .u64 0, .int .i64 0], .int .i64 1]) (by simp [results, Try.results30, go_sem, c0, c1, c2, c3, c4]) rfl ⟨by first | rfl | simp [nxtCs], below_setRow (KW.out.trans (HKb.out.trans hK)) (by omega) _⟩
    ·have HP := Lib.hid (HN.out (hri hE))
     have hE1 : (E == 1) = false := by simpa using hE
     rw [if_neg (fun hh => by rcases hh with hh | hh; cases hh; exact hE hh)] at hnx
     clear hri HN hE
     go_upto_region 5 with (go_at_call 54; first | ((with_reducible (refine (HI1.out _).mono ?_)); rintro e' w' ⟨rfl, rfl⟩) | ((with_reducible (refine (HI2.out _).mono ?_)); rintro e' w' ⟨rfl, rfl⟩))
     clear ch0 ch1
     have hx3 : w2.cell? ⟨w.heap.size + 1, 3, none⟩ = some (.int .u64 (xq : Int)) := by rw [cell_of_row _ _ _ _ _ _ (heap_kp Rx.out hK)]; rfl
     have hg3 := fun d os => cell_regrown hx3 d os
     have QH := Lib.hid (heap_kp Rh.out hK)
     clear hx3
     obtain ⟨bz, hbz, hbv⟩ : ∃ bz : Bool, ((xq : Int) != (z : Int)) = bz ∧ bz = decide (xq ≠ z) := by
      by_cases hh : xq = z
      ·subst hh; exact ⟨false, by simp, by simp⟩
      ·have hh' : ¬ (xq : Int) = (z : Int) := by omega
       exact ⟨true, by simp [hh'], by simp [hh]⟩
     have HB := Lib.hid hbv
     have HNx := Lib.hid hnx
     clear hbv hnx
     refine wp_region_quiet_below (by kernel_rfl) (by kernel_rfl) ?_
     repeat (first | go_big_quiet_skip | (refine quiet_load_row rfl 55 _ rfl w.heap.size rfl 55 _ _ _ (row_later QH.out) Try.underlying55 rfl (by kernel_rfl) ?_; simp only [Act.put, List.setIfInBounds_toArray, List.set_cons_zero, List.set_cons_succ]) | go_big_quiet_step ((go_at_call 55; exact calls_kp (HP.out _))))
     refine wpQuiet_nil ?_
     intro w9 hw9
     replace hK := Kp.trans hK (kp_later hw9)
     clear hw9 hg3 hbz QH
     have hnx := HNx.out
     clear HNx
     cases bz
     ·have hz : xq = z := by simpa using HB.out.symm
      rw [if_neg (fun hh => hh hz)] at hnx
      clear HB hz
      by_cases h0 : E = 0
      ·subst h0
       have e1 : NX = (true, 0) := by rw [← hnx]; rw [if_neg (fun hh => hh rfl)]
       subst e1
       clear hnx HNX
       go_wp2_with (first | (go_at_call 54; first | ((with_reducible (refine (HI1.out _).mono ?_)); rintro e' w' ⟨rfl, rfl⟩) | ((with_reducible (refine (HI2.out _).mono ?_)); rintro e' w' ⟨rfl, rfl⟩)) | (refine store_row rfl 52 _ _ rfl (w.heap.size + 4) rfl _ rfl 52 _ (heap_kp Rz.out hK) (by kernel_rfl) rfl (by first | rfl | kernel_rfl) ?_) | (refine load_row rfl 52 _ rfl g rfl 52 _ _ _ (heap_kp Ry.out hK) Try.underlying52 rfl (by kernel_rfl) ?_))
       have hr := setRow_heap w9 (w.heap.size + 4) _ (#[.int .i64 0, .int .i64 0, .int .i64 a, .int .u64 (q : Int), .int .i64 e] : Array Value) _ _ (heap_kp Rz.out hK)
       have c0 : (w9.setRow (w.heap.size + 4) #[.int .i64 0, .int .i64 0, .int .i64 a, .int .u64 (q : Int), .int .i64 e]).cell? ⟨w.heap.size + 4, 0, none⟩ = some (.int .i64 0) := by rw [cell_of_row _ _ _ _ _ _ hr]; rfl
       have c1 : (w9.setRow (w.heap.size + 4) #[.int .i64 0, .int .i64 0, .int .i64 a, .int .u64 (q : Int), .int .i64 e]).cell? ⟨w.heap.size + 4, 1, none⟩ = some (.int .i64 0) := by rw [cell_of_row _ _ _ _ _ _ hr]; rfl
       have c2 : (w9.setRow (w.heap.size + 4) #[.int .i64 0, .int .i64 0, .int .i64 a, .int .u64 (q : Int), .int .i64 e]).cell? ⟨w.heap.size + 4, 2, none⟩ = some (.int .i64 a) := by rw [cell_of_row _ _ _ _ _ _ hr]; rfl
       have c3 : (w9.setRow (w.heap.size + 4) #[.int .i64 0, .int .i64 0, .int .i64 a, .int .u64 (q : Int), .int .i64 e]).cell? ⟨w.heap.size + 4, 3, none⟩ = some (.int .u64 (q : Int)) := by rw [cell_of_row _ _ _ _ _ _ hr]; rfl
       have c4 : (w9.setRow (w.heap.size + 4) #[.int .i64 0, .int .i64 0, .int .i64 a, .int .u64 (q : Int), .int .i64 e]).cell? ⟨w.heap.size + 4, 4, none⟩ = some (.int .i64 e) := by rw [cell_of_row _ _ _ _ _ _ hr]; rfl
       exact bodyPost_ret (v := .tuple #[.agg #[.int .i64 0, .int .i64 0, .int .i64 a, .int .u64 (q : Int), .int .i64 e], .int .i64 0]) (by simp [results, Try.results30, go_sem, c0, c1, c2, c3, c4]) rfl ⟨by first | rfl | simp [nxtCs], below_setRow (KW.out.trans (HKb.out.trans hK)) (by omega) _⟩
      ·have h0' : (E != 0) = true := by simpa using h0
       have e1 : NX = (false, E) := by rw [← hnx]; rw [if_pos h0]
       subst e1
       clear hnx HNX
       clear h0
       go_wp2_with (first | (go_at_call 54; first | ((with_reducible (refine (HI1.out _).mono ?_)); rintro e' w' ⟨rfl, rfl⟩) | ((with_reducible (refine (HI2.out _).mono ?_)); rintro e' w' ⟨rfl, rfl⟩)) | (refine store_row rfl 52 _ _ rfl (w.heap.size + 4) rfl _ rfl 52 _ (heap_kp Rz.out hK) (by kernel_rfl) rfl (by first | rfl | kernel_rfl) ?_) | (refine load_row rfl 52 _ rfl g rfl 52 _ _ _ (heap_kp Ry.out hK) Try.underlying52 rfl (by kernel_rfl) ?_))
       have hr := setRow_heap w9 (w.heap.size + 4) _ (#[.int .i64 0, .int .i64 0, .int .i64 0, .int .u64 0, .int .i64 0] : Array Value) _ _ (heap_kp Rz.out hK)
       have c0 : (w9.setRow (w.heap.size + 4) #[.int .i64 0, .int .i64 0, .int .i64 0, .int .u64 0, .int .i64 0]).cell? ⟨w.heap.size + 4, 0, none⟩ = some (.int .i64 0) := by rw [cell_of_row _ _ _ _ _ _ hr]; rfl
       have c1 : (w9.setRow (w.heap.size + 4) #[.int .i64 0, .int .i64 0, .int .i64 0, .int .u64 0, .int .i64 0]).cell? ⟨w.heap.size + 4, 1, none⟩ = some (.int .i64 0) := by rw [cell_of_row _ _ _ _ _ _ hr]; rfl
       have c2 : (w9.setRow (w.heap.size + 4) #[.int .i64 0, .int .i64 0, .int .i64 0, .int .u64 0, .int .i64 0]).cell? ⟨w.heap.size + 4, 2, none⟩ = some (.int .i64 0) := by rw [cell_of_row _ _ _ _ _ _ hr]; rfl
       have c3 : (w9.setRow (w.heap.size + 4) #[.int .i64 0, .int .i64 0, .int .i64 0, .int .u64 0, .int .i64 0]).cell? ⟨w.heap.size + 4, 3, none⟩ = some (.int .u64 0) := by rw [cell_of_row _ _ _ _ _ _ hr]; rfl
       have c4 : (w9.setRow (w.heap.size + 4) #[.int .i64 0, .int .i64 0, .int .i64 0, .int .u64 0, .int .i64 0]).cell? ⟨w.heap.size + 4, 4, none⟩ = some (.int .i64 0) := by rw [cell_of_row _ _ _ _ _ _ hr]; rfl
       exact bodyPost_ret (v := .tuple #[.agg #[.int .i64 0, .int .i64 0, .int .i64 0, .int .u64 0, .int .i64 0], .int .i64 E]) (by simp [results, Try.results30, go_sem, c0, c1, c2, c3, c4]) rfl ⟨by first | rfl | simp [nxtCs], below_setRow (KW.out.trans (HKb.out.trans hK)) (by omega) _⟩
     ·have hz : xq ≠ z := by simpa using HB.out.symm
      have e1 : NX = (false, 23) := by rw [← hnx]; rw [if_pos hz]
      subst e1
      clear hnx HNX
      clear hz HB
      go_wp2_with (first | (go_at_call 54; first | ((with_reducible (refine (HI1.out _).mono ?_)); rintro e' w' ⟨rfl, rfl⟩) | ((with_reducible (refine (HI2.out _).mono ?_)); rintro e' w' ⟨rfl, rfl⟩)) | (refine store_row rfl 52 _ _ rfl (w.heap.size + 4) rfl _ rfl 52 _ (heap_kp Rz.out hK) (by kernel_rfl) rfl (by first | rfl | kernel_rfl) ?_) | (refine load_row rfl 52 _ rfl g rfl 52 _ _ _ (heap_kp Ry.out hK) Try.underlying52 rfl (by kernel_rfl) ?_))
      have hr := setRow_heap w9 (w.heap.size + 4) _ (#[.int .i64 0, .int .i64 0, .int .i64 0, .int .u64 0, .int .i64 0] : Array Value) _ _ (heap_kp Rz.out hK)
      have c0 : (w9.setRow (w.heap.size + 4) #[.int .i64 0, .int .i64 0, .int .i64 0, .int .u64 0, .int .i64 0]).cell? ⟨w.heap.size + 4, 0, none⟩ = some (.int .i64 0) := by rw [cell_of_row _ _ _ _ _ _ hr]; rfl
      have c1 : (w9.setRow (w.heap.size + 4) #[.int .i64 0, .int .i64 0, .int .i64 0, .int .u64 0, .int .i64 0]).cell? ⟨w.heap.size + 4, 1, none⟩ = some (.int .i64 0) := by rw [cell_of_row _ _ _ _ _ _ hr]; rfl
      have c2 : (w9.setRow (w.heap.size + 4) #[.int .i64 0, .int .i64 0, .int .i64 0, .int .u64 0, .int .i64 0]).cell? ⟨w.heap.size + 4, 2, none⟩ = some (.int .i64 0) := by rw [cell_of_row _ _ _ _ _ _ hr]; rfl
      have c3 : (w9.setRow (w.heap.size + 4) #[.int .i64 0, .int .i64 0, .int .i64 0, .int .u64 0, .int .i64 0]).cell? ⟨w.heap.size + 4, 3, none⟩ = some (.int .u64 0) := by rw [cell_of_row _ _ _ _ _ _ hr]; rfl
      have c4 : (w9.setRow (w.heap.size + 4) #[.int .i64 0, .int .i64 0, .int .i64 0, .int .u64 0, .int .i64 0]).cell? ⟨w.heap.size + 4, 4, none⟩ = some (.int .i64 0) := by rw [cell_of_row _ _ _ _ _ _ hr]; rfl
      exact bodyPost_ret (v := .tuple #[.agg #[.int .i64 0, .int .i64 0, .int .i64 0, .int .u64 0, .int .i64 0], .int .i64 23]) (by simp [results, Try.results30, go_sem, c0, c1, c2, c3, c4]) rfl ⟨by first | rfl | simp [nxtCs], below_setRow (KW.out.trans (HKb.out.trans hK)) (by omega) _⟩


set_option maxHeartbeats 4000000 in
theorem rnext_any (n c a e xf xi xa xe b p d l m h j r nap : Int) (q bl xq : Nat) (hp : p ≤ 9223372036854775807) (w : World) : Calls Try.prog 31 #[HvH n c a e q bl, QV xf xi xa xq xe, PV b p d l m, .int .i64 h, BV j r nap] w fun e' w' => e' = .returned (.tuple #[.agg (nxtCs (next n c a e q bl xa xe xq b p d l m h j r nap).1 a e q), .int .i64 (next n c a e q bl xa xe xq b p d l m h j r nap).2]) ∧ Kp w w' := by
 have HO := Lib.hid (fun w => rtold_any n c a e q bl w)
 have HM := Lib.hid (fun w => rmay_any xf xi xa xe 0 0 a e b p d l m h j r nap xq q hp w)
 have HI1 := Lib.hid (fun w => rhin_any n 0 11 w)
 have HI2 := Lib.hid (fun w => rhin_any c 0 39 w)
 have hri : ¬ may xa xe xq a e q b p d l m h j r nap = 1 → pright q = true := may_right
 have HN : Hid (pright q = true → ∀ w, Calls Try.prog 58 #[HvH n c a e q bl] w fun e' w' => e' = .returned (.int .u64 (padd q (pbase bl) : Nat)) ∧ Kp w w') := Lib.hid (fun _ w => rhown_any n c a e q bl w)
 unfold next
 clear hp
 generalize may xa xe xq a e q b p d l m h j r nap = E at *
 generalize padd q (pbase bl) = z at *
 generalize hnx : hnext n c E xq z = NX at *
 have HNX := Lib.hid hnx
 clear hnx
 have Rh := Lib.hid (heap_kp (heap_new_at w (.cells #[.int .i64 n, .int .i64 c, .int .i64 a, .int .i64 e, .int .u64 (q : Int), .int .u64 (bl : Int)] 55) (k := w.heap.size) rfl) (Kp.alloc (Kp.alloc (Kp.alloc (Kp.alloc (Kp.refl (w.alloc (.cells #[.int .i64 n, .int .i64 c, .int .i64 a, .int .i64 e, .int .u64 (q : Int), .int .u64 (bl : Int)] 55))) (.cells #[.int .i64 xf, .int .i64 xi, .int .i64 xa, .int .u64 (xq : Int), .int .i64 xe] 52)) (.cells #[.int .i64 b, .int .i64 p, .int .i64 d, .int .i64 l, .int .i64 m] 50)) (.cells #[.int .i64 j, .int .i64 r, .int .i64 nap] 57)) (.cells #[.int .i64 0, .int .i64 0, .int .i64 0, .int .u64 0, .int .i64 0] 52)))
 have Rx := Lib.hid (heap_kp (heap_new_at (w.alloc (.cells #[.int .i64 n, .int .i64 c, .int .i64 a, .int .i64 e, .int .u64 (q : Int), .int .u64 (bl : Int)] 55)) (.cells #[.int .i64 xf, .int .i64 xi, .int .i64 xa, .int .u64 (xq : Int), .int .i64 xe] 52) (k := w.heap.size + 1) (by simp)) (Kp.alloc (Kp.alloc (Kp.alloc (Kp.refl ((w.alloc (.cells #[.int .i64 n, .int .i64 c, .int .i64 a, .int .i64 e, .int .u64 (q : Int), .int .u64 (bl : Int)] 55)).alloc (.cells #[.int .i64 xf, .int .i64 xi, .int .i64 xa, .int .u64 (xq : Int), .int .i64 xe] 52))) (.cells #[.int .i64 b, .int .i64 p, .int .i64 d, .int .i64 l, .int .i64 m] 50)) (.cells #[.int .i64 j, .int .i64 r, .int .i64 nap] 57)) (.cells #[.int .i64 0, .int .i64 0, .int .i64 0, .int .u64 0, .int .i64 0] 52)))
 have Rp := Lib.hid (heap_kp (heap_new_at ((w.alloc (.cells #[.int .i64 n, .int .i64 c, .int .i64 a, .int .i64 e, .int .u64 (q : Int), .int .u64 (bl : Int)] 55)).alloc (.cells #[.int .i64 xf, .int .i64 xi, .int .i64 xa, .int .u64 (xq : Int), .int .i64 xe] 52)) (.cells #[.int .i64 b, .int .i64 p, .int .i64 d, .int .i64 l, .int .i64 m] 50) (k := w.heap.size + 2) (by simp)) (Kp.alloc (Kp.alloc (Kp.refl (((w.alloc (.cells #[.int .i64 n, .int .i64 c, .int .i64 a, .int .i64 e, .int .u64 (q : Int), .int .u64 (bl : Int)] 55)).alloc (.cells #[.int .i64 xf, .int .i64 xi, .int .i64 xa, .int .u64 (xq : Int), .int .i64 xe] 52)).alloc (.cells #[.int .i64 b, .int .i64 p, .int .i64 d, .int .i64 l, .int .i64 m] 50))) (.cells #[.int .i64 j, .int .i64 r, .int .i64 nap] 57)) (.cells #[.int .i64 0, .int .i64 0, .int .i64 0, .int .u64 0, .int .i64 0] 52)))
 have Rb := Lib.hid (heap_kp (heap_new_at (((w.alloc (.cells #[.int .i64 n, .int .i64 c, .int .i64 a, .int .i64 e, .int .u64 (q : Int), .int .u64 (bl : Int)] 55)).alloc (.cells #[.int .i64 xf, .int .i64 xi, .int .i64 xa, .int .u64 (xq : Int), .int .i64 xe] 52)).alloc (.cells #[.int .i64 b, .int .i64 p, .int .i64 d, .int .i64 l, .int .i64 m] 50)) (.cells #[.int .i64 j, .int .i64 r, .int .i64 nap] 57) (k := w.heap.size + 3) (by simp)) (Kp.alloc (Kp.refl ((((w.alloc (.cells #[.int .i64 n, .int .i64 c, .int .i64 a, .int .i64 e, .int .u64 (q : Int), .int .u64 (bl : Int)] 55)).alloc (.cells #[.int .i64 xf, .int .i64 xi, .int .i64 xa, .int .u64 (xq : Int), .int .i64 xe] 52)).alloc (.cells #[.int .i64 b, .int .i64 p, .int .i64 d, .int .i64 l, .int .i64 m] 50)).alloc (.cells #[.int .i64 j, .int .i64 r, .int .i64 nap] 57))) (.cells #[.int .i64 0, .int .i64 0, .int .i64 0, .int .u64 0, .int .i64 0] 52)))
 have Rz := Lib.hid (heap_new_at ((((w.alloc (.cells #[.int .i64 n, .int .i64 c, .int .i64 a, .int .i64 e, .int .u64 (q : Int), .int .u64 (bl : Int)] 55)).alloc (.cells #[.int .i64 xf, .int .i64 xi, .int .i64 xa, .int .u64 (xq : Int), .int .i64 xe] 52)).alloc (.cells #[.int .i64 b, .int .i64 p, .int .i64 d, .int .i64 l, .int .i64 m] 50)).alloc (.cells #[.int .i64 j, .int .i64 r, .int .i64 nap] 57)) (.cells #[.int .i64 0, .int .i64 0, .int .i64 0, .int .u64 0, .int .i64 0] 52) (k := w.heap.size + 4) (by simp))
 have hK := Kp.refl (((((w.alloc (.cells #[.int .i64 n, .int .i64 c, .int .i64 a, .int .i64 e, .int .u64 (q : Int), .int .u64 (bl : Int)] 55)).alloc (.cells #[.int .i64 xf, .int .i64 xi, .int .i64 xa, .int .u64 (xq : Int), .int .i64 xe] 52)).alloc (.cells #[.int .i64 b, .int .i64 p, .int .i64 d, .int .i64 l, .int .i64 m] 50)).alloc (.cells #[.int .i64 j, .int .i64 r, .int .i64 nap] 57)).alloc (.cells #[.int .i64 0, .int .i64 0, .int .i64 0, .int .u64 0, .int .i64 0] 52))
 have KW := Lib.hid (show Kp w (((((w.alloc (.cells #[.int .i64 n, .int .i64 c, .int .i64 a, .int .i64 e, .int .u64 (q : Int), .int .u64 (bl : Int)] 55)).alloc (.cells #[.int .i64 xf, .int .i64 xi, .int .i64 xa, .int .u64 (xq : Int), .int .i64 xe] 52)).alloc (.cells #[.int .i64 b, .int .i64 p, .int .i64 d, .int .i64 l, .int .i64 m] 50)).alloc (.cells #[.int .i64 j, .int .i64 r, .int .i64 nap] 57)).alloc (.cells #[.int .i64 0, .int .i64 0, .int .i64 0, .int .u64 0, .int .i64 0] 52)) from ((((((Kp.refl w).alloc _).alloc _).alloc _).alloc _).alloc _))
 go_enter Try.func31, Try.ntmps31
 go_upto_region 1 with fail
 generalize hWz : (((((w.alloc (.cells #[.int .i64 n, .int .i64 c, .int .i64 a, .int .i64 e, .int .u64 (q : Int), .int .u64 (bl : Int)] 55)).alloc (.cells #[.int .i64 xf, .int .i64 xi, .int .i64 xa, .int .u64 (xq : Int), .int .i64 xe] 52)).alloc (.cells #[.int .i64 b, .int .i64 p, .int .i64 d, .int .i64 l, .int .i64 m] 50)).alloc (.cells #[.int .i64 j, .int .i64 r, .int .i64 nap] 57)).alloc (.cells #[.int .i64 0, .int .i64 0, .int .i64 0, .int .u64 0, .int .i64 0] 52)) = Wz at *
 clear hWz
 go_cut [12] (fun p12 wx => ∃ g : Nat, p12 = .pointer (some ⟨g, 0, none⟩) ∧ wx.heap[g]? = some (.cells #[.int .i64 0, .int .i64 0, .int .i64 a, .int .u64 (q : Int), .int .i64 e] 52 (0, 0)) ∧ Kp Wz wx)
 case first =>
  go_wp2_with (first | (go_at_call 56; first | ((with_reducible (refine (HO.out _).mono ?_)); rintro e' w2 ⟨rfl, hk⟩; replace hK := Kp.trans hK hk; clear hk)) | (refine load_row rfl 55 _ rfl w.heap.size rfl 55 _ _ _ (heap_kp Rh.out hK) Try.underlying55 rfl (by kernel_rfl) ?_) | (refine load_row rfl 52 _ rfl (w.heap.size + 1) rfl 52 _ _ _ (heap_kp Rx.out hK) Try.underlying52 rfl (by kernel_rfl) ?_) | (refine load_row rfl 50 _ rfl (w.heap.size + 2) rfl 50 _ _ _ (heap_kp Rp.out hK) Try.underlying50 rfl (by kernel_rfl) ?_) | (refine load_row rfl 57 _ rfl (w.heap.size + 3) rfl 57 _ _ _ (heap_kp Rb.out hK) Try.underlying57 rfl (by kernel_rfl) ?_))
  go_meet
  exact ⟨_, rfl, heap_alloc_new _ _, hK.alloc _⟩
 case rest =>
  clear hK
  obtain ⟨g, rfl, hy, hK⟩ := hcut
  have Ry := Lib.hid hy
  clear hy
  obtain ⟨wb, rfl⟩ : ∃ wb : World, wb = wc := ⟨_, rfl⟩
  have HKb := Lib.hid hK
  have Rh := Lib.hid (heap_kp Rh.out hK)
  have Rx := Lib.hid (heap_kp Rx.out hK)
  have Rp := Lib.hid (heap_kp Rp.out hK)
  have Rb := Lib.hid (heap_kp Rb.out hK)
  have Rz := Lib.hid (heap_kp Rz.out hK)
  replace hK := Kp.refl wb
  go_upto_region 3 with (first | (go_at_call 35; first | ((with_reducible (refine (HM.out _).mono ?_)); rintro e' w2 ⟨rfl, hk⟩; replace hK := Kp.trans hK hk; clear hk)) | (refine load_row rfl 55 _ rfl w.heap.size rfl 55 _ _ _ (heap_kp Rh.out hK) Try.underlying55 rfl (by kernel_rfl) ?_) | (refine load_row rfl 52 _ rfl (w.heap.size + 1) rfl 52 _ _ _ (heap_kp Rx.out hK) Try.underlying52 rfl (by kernel_rfl) ?_) | (refine load_row rfl 50 _ rfl (w.heap.size + 2) rfl 50 _ _ _ (heap_kp Rp.out hK) Try.underlying50 rfl (by kernel_rfl) ?_) | (refine load_row rfl 57 _ rfl (w.heap.size + 3) rfl 57 _ _ _ (heap_kp Rb.out hK) Try.underlying57 rfl (by kernel_rfl) ?_) | (refine load_row rfl 52 _ rfl g rfl 52 _ _ _ (heap_kp Ry.out hK) Try.underlying52 rfl (by kernel_rfl) ?_))
  have ch0 : w2.cell? ⟨w.heap.size, 0, none⟩ = some (.int .i64 n) := by rw [cell_of_row _ _ _ _ _ _ (heap_kp Rh.out hK)]; rfl
  have ch1 : w2.cell? ⟨w.heap.size, 1, none⟩ = some (.int .i64 c) := by rw [cell_of_row _ _ _ _ _ _ (heap_kp Rh.out hK)]; rfl
  have hnx := HNX.out
  unfold hnext at hnx
  generalize inn n 0 11 = N1 at *
  generalize inn c 0 39 = N2 at *
  cases N1
  ·have e1 : NX = (false, 1) := by rw [← hnx]; rw [if_pos (.inl (by simp))]
   subst e1
   clear hnx HNX
   clear hri
   go_wp2_with (first | (go_at_call 57; first | ((with_reducible (refine (HI1.out _).mono ?_)); rintro e' w' ⟨rfl, rfl⟩) | ((with_reducible (refine (HI2.out _).mono ?_)); rintro e' w' ⟨rfl, rfl⟩)) | (refine store_row rfl 52 _ _ rfl (w.heap.size + 4) rfl _ rfl 52 _ (heap_kp Rz.out hK) (by kernel_rfl) rfl (by first | rfl | kernel_rfl) ?_) | (refine load_row rfl 52 _ rfl g rfl 52 _ _ _ (heap_kp Ry.out hK) Try.underlying52 rfl (by kernel_rfl) ?_))
   have hr := setRow_heap w2 (w.heap.size + 4) _ (#[.int .i64 0, .int .i64 0, .int .i64 0, .int .u64 0, .int .i64 0] : Array Value) _ _ (heap_kp Rz.out hK)
   have c0 : (w2.setRow (w.heap.size + 4) #[.int .i64 0, .int .i64 0, .int .i64 0, .int .u64 0, .int .i64 0]).cell? ⟨w.heap.size + 4, 0, none⟩ = some (.int .i64 0) := by rw [cell_of_row _ _ _ _ _ _ hr]; rfl
   have c1 : (w2.setRow (w.heap.size + 4) #[.int .i64 0, .int .i64 0, .int .i64 0, .int .u64 0, .int .i64 0]).cell? ⟨w.heap.size + 4, 1, none⟩ = some (.int .i64 0) := by rw [cell_of_row _ _ _ _ _ _ hr]; rfl
   have c2 : (w2.setRow (w.heap.size + 4) #[.int .i64 0, .int .i64 0, .int .i64 0, .int .u64 0, .int .i64 0]).cell? ⟨w.heap.size + 4, 2, none⟩ = some (.int .i64 0) := by rw [cell_of_row _ _ _ _ _ _ hr]; rfl
   have c3 : (w2.setRow (w.heap.size + 4) #[.int .i64 0, .int .i64 0, .int .i64 0, .int .u64 0, .int .i64 0]).cell? ⟨w.heap.size + 4, 3, none⟩ = some (.int .u64 0) := by rw [cell_of_row _ _ _ _ _ _ hr]; rfl
   have c4 : (w2.setRow (w.heap.size + 4) #[.int .i64 0, .int .i64 0, .int .i64 0, .int .u64 0, .int .i64 0]).cell? ⟨w.heap.size + 4, 4, none⟩ = some (.int .i64 0) := by rw [cell_of_row _ _ _ _ _ _ hr]; rfl
   exact bodyPost_ret (v := .tuple #[.agg #[.int .i64 0, .int .i64 0, .int .i64 0, .int .u64 0, .int .i64 0], .int .i64 1]) (by simp [results, Try.results31, go_sem, c0, c1, c2, c3, c4]) rfl ⟨by first | rfl | simp [nxtCs], below_setRow (KW.out.trans (HKb.out.trans hK)) (by omega) _⟩
  ·cases N2
   ·have e1 : NX = (false, 1) := by rw [← hnx]; rw [if_pos (.inl (by simp))]
    subst e1
    clear hnx HNX
    clear hri
    go_wp2_with (first | (go_at_call 57; first | ((with_reducible (refine (HI1.out _).mono ?_)); rintro e' w' ⟨rfl, rfl⟩) | ((with_reducible (refine (HI2.out _).mono ?_)); rintro e' w' ⟨rfl, rfl⟩)) | (refine store_row rfl 52 _ _ rfl (w.heap.size + 4) rfl _ rfl 52 _ (heap_kp Rz.out hK) (by kernel_rfl) rfl (by first | rfl | kernel_rfl) ?_) | (refine load_row rfl 52 _ rfl g rfl 52 _ _ _ (heap_kp Ry.out hK) Try.underlying52 rfl (by kernel_rfl) ?_))
    have hr := setRow_heap w2 (w.heap.size + 4) _ (#[.int .i64 0, .int .i64 0, .int .i64 0, .int .u64 0, .int .i64 0] : Array Value) _ _ (heap_kp Rz.out hK)
    have c0 : (w2.setRow (w.heap.size + 4) #[.int .i64 0, .int .i64 0, .int .i64 0, .int .u64 0, .int .i64 0]).cell? ⟨w.heap.size + 4, 0, none⟩ = some (.int .i64 0) := by rw [cell_of_row _ _ _ _ _ _ hr]; rfl
    have c1 : (w2.setRow (w.heap.size + 4) #[.int .i64 0, .int .i64 0, .int .i64 0, .int .u64 0, .int .i64 0]).cell? ⟨w.heap.size + 4, 1, none⟩ = some (.int .i64 0) := by rw [cell_of_row _ _ _ _ _ _ hr]; rfl
    have c2 : (w2.setRow (w.heap.size + 4) #[.int .i64 0, .int .i64 0, .int .i64 0, .int .u64 0, .int .i64 0]).cell? ⟨w.heap.size + 4, 2, none⟩ = some (.int .i64 0) := by rw [cell_of_row _ _ _ _ _ _ hr]; rfl
    have c3 : (w2.setRow (w.heap.size + 4) #[.int .i64 0, .int .i64 0, .int .i64 0, .int .u64 0, .int .i64 0]).cell? ⟨w.heap.size + 4, 3, none⟩ = some (.int .u64 0) := by rw [cell_of_row _ _ _ _ _ _ hr]; rfl
    have c4 : (w2.setRow (w.heap.size + 4) #[.int .i64 0, .int .i64 0, .int .i64 0, .int .u64 0, .int .i64 0]).cell? ⟨w.heap.size + 4, 4, none⟩ = some (.int .i64 0) := by rw [cell_of_row _ _ _ _ _ _ hr]; rfl
    exact bodyPost_ret (v := .tuple #[.agg #[.int .i64 0, .int .i64 0, .int .i64 0, .int .u64 0, .int .i64 0], .int .i64 1]) (by simp [results, Try.results31, go_sem, c0, c1, c2, c3, c4]) rfl ⟨by first | rfl | simp [nxtCs], below_setRow (KW.out.trans (HKb.out.trans hK)) (by omega) _⟩
   ·by_cases hE : E = 1
    ·subst hE
     have e1 : NX = (false, 1) := by rw [← hnx]; rw [if_pos (.inr rfl)]
     subst e1
     clear hnx HNX
     clear hri
     go_wp2_with (first | (go_at_call 57; first | ((with_reducible (refine (HI1.out _).mono ?_)); rintro e' w' ⟨rfl, rfl⟩) | ((with_reducible (refine (HI2.out _).mono ?_)); rintro e' w' ⟨rfl, rfl⟩)) | (refine store_row rfl 52 _ _ rfl (w.heap.size + 4) rfl _ rfl 52 _ (heap_kp Rz.out hK) (by kernel_rfl) rfl (by first | rfl | kernel_rfl) ?_) | (refine load_row rfl 52 _ rfl g rfl 52 _ _ _ (heap_kp Ry.out hK) Try.underlying52 rfl (by kernel_rfl) ?_))
     have hr := setRow_heap w2 (w.heap.size + 4) _ (#[.int .i64 0, .int .i64 0, .int .i64 0, .int .u64 0, .int .i64 0] : Array Value) _ _ (heap_kp Rz.out hK)
     have c0 : (w2.setRow (w.heap.size + 4) #[.int .i64 0, .int .i64 0, .int .i64 0, .int .u64 0, .int .i64 0]).cell? ⟨w.heap.size + 4, 0, none⟩ = some (.int .i64 0) := by rw [cell_of_row _ _ _ _ _ _ hr]; rfl
     have c1 : (w2.setRow (w.heap.size + 4) #[.int .i64 0, .int .i64 0, .int .i64 0, .int .u64 0, .int .i64 0]).cell? ⟨w.heap.size + 4, 1, none⟩ = some (.int .i64 0) := by rw [cell_of_row _ _ _ _ _ _ hr]; rfl
     have c2 : (w2.setRow (w.heap.size + 4) #[.int .i64 0, .int .i64 0, .int .i64 0, .int .u64 0, .int .i64 0]).cell? ⟨w.heap.size + 4, 2, none⟩ = some (.int .i64 0) := by rw [cell_of_row _ _ _ _ _ _ hr]; rfl
     have c3 : (w2.setRow (w.heap.size + 4) #[.int .i64 0, .int .i64 0, .int .i64 0, .int .u64 0, .int .i64 0]).cell? ⟨w.heap.size + 4, 3, none⟩ = some (.int .u64 0) := by rw [cell_of_row _ _ _ _ _ _ hr]; rfl
     have c4 : (w2.setRow (w.heap.size + 4) #[.int .i64 0, .int .i64 0, .int .i64 0, .int .u64 0, .int .i64 0]).cell? ⟨w.heap.size + 4, 4, none⟩ = some (.int .i64 0) := by rw [cell_of_row _ _ _ _ _ _ hr]; rfl
     exact bodyPost_ret (v := .tuple #[.agg #[.int .i64 0, .int .i64 0, .int .i64 0, .int .u64 0, .int .i64 0], .int .i64 1]) (by simp [results, Try.results31, go_sem, c0, c1, c2, c3, c4]) rfl ⟨by first | rfl | simp [nxtCs], below_setRow (KW.out.trans (HKb.out.trans hK)) (by omega) _⟩
    ·have HP := Lib.hid (HN.out (hri hE))
     have hE1 : (E == 1) = false := by simpa using hE
     rw [if_neg (fun hh => by rcases hh with hh | hh; cases hh; exact hE hh)] at hnx
     clear hri HN hE
     go_upto_region 5 with (go_at_call 57; first | ((with_reducible (refine (HI1.out _).mono ?_)); rintro e' w' ⟨rfl, rfl⟩) | ((with_reducible (refine (HI2.out _).mono ?_)); rintro e' w' ⟨rfl, rfl⟩))
     clear ch0 ch1
     have hx3 : w2.cell? ⟨w.heap.size + 1, 3, none⟩ = some (.int .u64 (xq : Int)) := by rw [cell_of_row _ _ _ _ _ _ (heap_kp Rx.out hK)]; rfl
     have hg3 := fun d os => cell_regrown hx3 d os
     have QH := Lib.hid (heap_kp Rh.out hK)
     clear hx3
     obtain ⟨bz, hbz, hbv⟩ : ∃ bz : Bool, ((xq : Int) != (z : Int)) = bz ∧ bz = decide (xq ≠ z) := by
      by_cases hh : xq = z
      ·subst hh; exact ⟨false, by simp, by simp⟩
      ·have hh' : ¬ (xq : Int) = (z : Int) := by omega
       exact ⟨true, by simp [hh'], by simp [hh]⟩
     have HB := Lib.hid hbv
     have HNx := Lib.hid hnx
     clear hbv hnx
     refine wp_region_quiet_below (by kernel_rfl) (by kernel_rfl) ?_
     repeat (first | go_big_quiet_skip | (refine quiet_load_row rfl 55 _ rfl w.heap.size rfl 55 _ _ _ (row_later QH.out) Try.underlying55 rfl (by kernel_rfl) ?_; simp only [Act.put, List.setIfInBounds_toArray, List.set_cons_zero, List.set_cons_succ]) | go_big_quiet_step ((go_at_call 58; exact calls_kp (HP.out _))))
     refine wpQuiet_nil ?_
     intro w9 hw9
     replace hK := Kp.trans hK (kp_later hw9)
     clear hw9 hg3 hbz QH
     have hnx := HNx.out
     clear HNx
     cases bz
     ·have hz : xq = z := by simpa using HB.out.symm
      rw [if_neg (fun hh => hh hz)] at hnx
      clear HB hz
      by_cases h0 : E = 0
      ·subst h0
       have e1 : NX = (true, 0) := by rw [← hnx]; rw [if_neg (fun hh => hh rfl)]
       subst e1
       clear hnx HNX
       go_wp2_with (first | (go_at_call 57; first | ((with_reducible (refine (HI1.out _).mono ?_)); rintro e' w' ⟨rfl, rfl⟩) | ((with_reducible (refine (HI2.out _).mono ?_)); rintro e' w' ⟨rfl, rfl⟩)) | (refine store_row rfl 52 _ _ rfl (w.heap.size + 4) rfl _ rfl 52 _ (heap_kp Rz.out hK) (by kernel_rfl) rfl (by first | rfl | kernel_rfl) ?_) | (refine load_row rfl 52 _ rfl g rfl 52 _ _ _ (heap_kp Ry.out hK) Try.underlying52 rfl (by kernel_rfl) ?_))
       have hr := setRow_heap w9 (w.heap.size + 4) _ (#[.int .i64 0, .int .i64 0, .int .i64 a, .int .u64 (q : Int), .int .i64 e] : Array Value) _ _ (heap_kp Rz.out hK)
       have c0 : (w9.setRow (w.heap.size + 4) #[.int .i64 0, .int .i64 0, .int .i64 a, .int .u64 (q : Int), .int .i64 e]).cell? ⟨w.heap.size + 4, 0, none⟩ = some (.int .i64 0) := by rw [cell_of_row _ _ _ _ _ _ hr]; rfl
       have c1 : (w9.setRow (w.heap.size + 4) #[.int .i64 0, .int .i64 0, .int .i64 a, .int .u64 (q : Int), .int .i64 e]).cell? ⟨w.heap.size + 4, 1, none⟩ = some (.int .i64 0) := by rw [cell_of_row _ _ _ _ _ _ hr]; rfl
       have c2 : (w9.setRow (w.heap.size + 4) #[.int .i64 0, .int .i64 0, .int .i64 a, .int .u64 (q : Int), .int .i64 e]).cell? ⟨w.heap.size + 4, 2, none⟩ = some (.int .i64 a) := by rw [cell_of_row _ _ _ _ _ _ hr]; rfl
       have c3 : (w9.setRow (w.heap.size + 4) #[.int .i64 0, .int .i64 0, .int .i64 a, .int .u64 (q : Int), .int .i64 e]).cell? ⟨w.heap.size + 4, 3, none⟩ = some (.int .u64 (q : Int)) := by rw [cell_of_row _ _ _ _ _ _ hr]; rfl
       have c4 : (w9.setRow (w.heap.size + 4) #[.int .i64 0, .int .i64 0, .int .i64 a, .int .u64 (q : Int), .int .i64 e]).cell? ⟨w.heap.size + 4, 4, none⟩ = some (.int .i64 e) := by rw [cell_of_row _ _ _ _ _ _ hr]; rfl
       exact bodyPost_ret (v := .tuple #[.agg #[.int .i64 0, .int .i64 0, .int .i64 a, .int .u64 (q : Int), .int .i64 e], .int .i64 0]) (by simp [results, Try.results31, go_sem, c0, c1, c2, c3, c4]) rfl ⟨by first | rfl | simp [nxtCs], below_setRow (KW.out.trans (HKb.out.trans hK)) (by omega) _⟩
      ·have h0' : (E != 0) = true := by simpa using h0
       have e1 : NX = (false, E) := by rw [← hnx]; rw [if_pos h0]
       subst e1
       clear hnx HNX
       clear h0
       go_wp2_with (first | (go_at_call 57; first | ((with_reducible (refine (HI1.out _).mono ?_)); rintro e' w' ⟨rfl, rfl⟩) | ((with_reducible (refine (HI2.out _).mono ?_)); rintro e' w' ⟨rfl, rfl⟩)) | (refine store_row rfl 52 _ _ rfl (w.heap.size + 4) rfl _ rfl 52 _ (heap_kp Rz.out hK) (by kernel_rfl) rfl (by first | rfl | kernel_rfl) ?_) | (refine load_row rfl 52 _ rfl g rfl 52 _ _ _ (heap_kp Ry.out hK) Try.underlying52 rfl (by kernel_rfl) ?_))
       have hr := setRow_heap w9 (w.heap.size + 4) _ (#[.int .i64 0, .int .i64 0, .int .i64 0, .int .u64 0, .int .i64 0] : Array Value) _ _ (heap_kp Rz.out hK)
       have c0 : (w9.setRow (w.heap.size + 4) #[.int .i64 0, .int .i64 0, .int .i64 0, .int .u64 0, .int .i64 0]).cell? ⟨w.heap.size + 4, 0, none⟩ = some (.int .i64 0) := by rw [cell_of_row _ _ _ _ _ _ hr]; rfl
       have c1 : (w9.setRow (w.heap.size + 4) #[.int .i64 0, .int .i64 0, .int .i64 0, .int .u64 0, .int .i64 0]).cell? ⟨w.heap.size + 4, 1, none⟩ = some (.int .i64 0) := by rw [cell_of_row _ _ _ _ _ _ hr]; rfl
       have c2 : (w9.setRow (w.heap.size + 4) #[.int .i64 0, .int .i64 0, .int .i64 0, .int .u64 0, .int .i64 0]).cell? ⟨w.heap.size + 4, 2, none⟩ = some (.int .i64 0) := by rw [cell_of_row _ _ _ _ _ _ hr]; rfl
       have c3 : (w9.setRow (w.heap.size + 4) #[.int .i64 0, .int .i64 0, .int .i64 0, .int .u64 0, .int .i64 0]).cell? ⟨w.heap.size + 4, 3, none⟩ = some (.int .u64 0) := by rw [cell_of_row _ _ _ _ _ _ hr]; rfl
       have c4 : (w9.setRow (w.heap.size + 4) #[.int .i64 0, .int .i64 0, .int .i64 0, .int .u64 0, .int .i64 0]).cell? ⟨w.heap.size + 4, 4, none⟩ = some (.int .i64 0) := by rw [cell_of_row _ _ _ _ _ _ hr]; rfl
       exact bodyPost_ret (v := .tuple #[.agg #[.int .i64 0, .int .i64 0, .int .i64 0, .int .u64 0, .int .i64 0], .int .i64 E]) (by simp [results, Try.results31, go_sem, c0, c1, c2, c3, c4]) rfl ⟨by first | rfl | simp [nxtCs], below_setRow (KW.out.trans (HKb.out.trans hK)) (by omega) _⟩
     ·have hz : xq ≠ z := by simpa using HB.out.symm
      have e1 : NX = (false, 23) := by rw [← hnx]; rw [if_pos hz]
      subst e1
      clear hnx HNX
      clear hz HB
      go_wp2_with (first | (go_at_call 57; first | ((with_reducible (refine (HI1.out _).mono ?_)); rintro e' w' ⟨rfl, rfl⟩) | ((with_reducible (refine (HI2.out _).mono ?_)); rintro e' w' ⟨rfl, rfl⟩)) | (refine store_row rfl 52 _ _ rfl (w.heap.size + 4) rfl _ rfl 52 _ (heap_kp Rz.out hK) (by kernel_rfl) rfl (by first | rfl | kernel_rfl) ?_) | (refine load_row rfl 52 _ rfl g rfl 52 _ _ _ (heap_kp Ry.out hK) Try.underlying52 rfl (by kernel_rfl) ?_))
      have hr := setRow_heap w9 (w.heap.size + 4) _ (#[.int .i64 0, .int .i64 0, .int .i64 0, .int .u64 0, .int .i64 0] : Array Value) _ _ (heap_kp Rz.out hK)
      have c0 : (w9.setRow (w.heap.size + 4) #[.int .i64 0, .int .i64 0, .int .i64 0, .int .u64 0, .int .i64 0]).cell? ⟨w.heap.size + 4, 0, none⟩ = some (.int .i64 0) := by rw [cell_of_row _ _ _ _ _ _ hr]; rfl
      have c1 : (w9.setRow (w.heap.size + 4) #[.int .i64 0, .int .i64 0, .int .i64 0, .int .u64 0, .int .i64 0]).cell? ⟨w.heap.size + 4, 1, none⟩ = some (.int .i64 0) := by rw [cell_of_row _ _ _ _ _ _ hr]; rfl
      have c2 : (w9.setRow (w.heap.size + 4) #[.int .i64 0, .int .i64 0, .int .i64 0, .int .u64 0, .int .i64 0]).cell? ⟨w.heap.size + 4, 2, none⟩ = some (.int .i64 0) := by rw [cell_of_row _ _ _ _ _ _ hr]; rfl
      have c3 : (w9.setRow (w.heap.size + 4) #[.int .i64 0, .int .i64 0, .int .i64 0, .int .u64 0, .int .i64 0]).cell? ⟨w.heap.size + 4, 3, none⟩ = some (.int .u64 0) := by rw [cell_of_row _ _ _ _ _ _ hr]; rfl
      have c4 : (w9.setRow (w.heap.size + 4) #[.int .i64 0, .int .i64 0, .int .i64 0, .int .u64 0, .int .i64 0]).cell? ⟨w.heap.size + 4, 4, none⟩ = some (.int .i64 0) := by rw [cell_of_row _ _ _ _ _ _ hr]; rfl
      exact bodyPost_ret (v := .tuple #[.agg #[.int .i64 0, .int .i64 0, .int .i64 0, .int .u64 0, .int .i64 0], .int .i64 23]) (by simp [results, Try.results31, go_sem, c0, c1, c2, c3, c4]) rfl ⟨by first | rfl | simp [nxtCs], below_setRow (KW.out.trans (HKb.out.trans hK)) (by omega) _⟩


end Go.Proofs.Ytcdmmfelagbpdaa
