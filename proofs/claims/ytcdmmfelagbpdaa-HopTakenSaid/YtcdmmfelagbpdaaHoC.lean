/- Contracts of pay.sum, pay.Back, pay.Shows. -/
import Derived.Test.YtcdmmfelagbpdaaHo6
namespace Go.Proofs.Ytcdmmfelagbpdaa
open Go.RowKit Go.Lib Ckp Cfd Cpd Cwl
set_option linter.unusedVariables false
set_option linter.unusedSimpArgs false
set_option maxRecDepth 8192
def psum (l : List Nat) : Nat := l.foldl fadd 0
theorem psum_snoc (l : List Nat) (x : Nat) : psum (l ++ [x]) = fadd (psum l) x := by unfold psum; rw [List.foldl_append]; rfl
set_option maxHeartbeats 1000000 in
theorem psum_any (A : Option Addr) (n c : Nat) (l : List Nat) (hn : l.length = n) (hm : n ≤ 9223372036854775807) (w : World) (hp : Pts w A l) :
  Calls Try.prog 66 #[.slice A n c] w fun e w' => e = .returned (.int .u64 (psum l : Nat)) ∧ w = w' := by
 have HP := Lib.hid hp
 have HN := Lib.hid hn
 clear hp hn
 go_enter Try.func66, Try.ntmps66
 go_wp2_with fail
 go_loop [3, 5, 8] (fun sv xv iv => ∃ k : Nat, k ≤ n ∧ sv = .int .u64 (psum (l.take k) : Nat) ∧ iv = .int .i64 (k : Int)) (fun _ _ iv => n - (intOf iv).toNat)
 case atStart => exact ⟨0, by omega, rfl, rfl⟩
 case round =>
  obtain ⟨k, hk, rfl, rfl⟩ := hrel
  by_cases hlt : k < n
  ·obtain ⟨ad, rfl, hbl, hc⟩ := HP.out (by rw [HN.out]; omega)
   have hck := hc k (by rw [HN.out]; exact hlt)
   have hlk : k < l.length := by rw [HN.out]; exact hlt
   have HS := Lib.hid (show l.take (k + 1) = l.take k ++ [l.getD k 0] by rw [List.take_add_one, List.getElem?_eq_getElem hlk, List.getD_eq_getElem?_getD, List.getElem?_eq_getElem hlk]; rfl)
   generalize l.getD k 0 = x at hck HS
   have HA := Lib.hid (fun w => add_any (psum (l.take k)) x w)
   have HT := Lib.hid (show psum (l.take (k + 1)) = fadd (psum (l.take k)) x by rw [HS.out, psum_snoc])
   generalize psum (l.take k) = s at HA HT ⊢
   clear hc hlk HS
   go_wp2_with (go_at_call 86; (with_reducible (refine (HA.out _).mono ?_)); rintro e w' ⟨rfl, rfl⟩)
   go_round
   case rel => exact ⟨k + 1, by omega, by rw [HT.out], by go_num⟩
   case measure => simp [intOf]; omega
  ·have HT := Lib.hid (show l.take k = l by rw [List.take_of_length_le (by rw [HN.out]; omega)])
   go_wp2_with fail
   go_ret
   exact ⟨by rw [HT.out]; first | done | rfl, rfl⟩
theorem shows_any (q t : Nat) (hq : q < 18446744073709551616) (w : World) : Calls Try.prog 40 #[.int .u64 (q : Int), .int .u64 (t : Int)] w fun e w' => e = .returned (.bool (pright q && decide (pbase t = q))) ∧ Kp w w' := by
 have HR := Lib.hid (fun w => pright_any q hq w)
 have HB := Lib.hid (fun w => pbase_any t w)
 clear hq
 obtain ⟨b, hb, hv⟩ : ∃ b : Bool, ((pbase t : Int) == (q : Int)) = b ∧ b = decide (pbase t = q) := by
  by_cases h : pbase t = q
  ·exact ⟨true, by simp [h], by simp [h]⟩
  ·have h' : ¬ (pbase t : Int) = (q : Int) := by omega
   exact ⟨false, by simp [h'], by simp [h]⟩
 rw [← hv]
 clear hv
 generalize pright q = r at *
 generalize pbase t = y at *
 cases r
 ·go_enter Try.func40, Try.ntmps40
  go_wp2_with (go_at_call 65; (with_reducible (refine (HR.out _).mono ?_)); rintro e w' ⟨rfl, k, rfl⟩)
  go_ret
  exact ⟨rfl, (Kp.refl w).drewN _⟩
 ·go_enter Try.func40, Try.ntmps40
  go_wp2_with (first | (go_at_call 65; (with_reducible (refine (HR.out _).mono ?_)); rintro e w' ⟨rfl, k, rfl⟩) | (go_at_call 39; (with_reducible (refine (HB.out _).mono ?_)); rintro e w' ⟨rfl, k2, rfl⟩))
  go_ret
  exact ⟨by first | rfl | simp, by first | exact (Kp.refl w).drewN _ | exact ((Kp.refl w).drewN _).drewN _⟩
theorem back_any (t b : Nat) (w : World) : Calls Try.prog 41 #[.int .u64 (t : Int), .int .u64 (b : Int)] w fun e w' => e = .returned (.int .u64 (psum [t, b] : Nat)) ∧ Kp w w' := by
 have HS := Lib.hid (fun (c : Nat) (ty : TypeId) => psum_any (some ⟨w.heap.size, 0, none⟩) 2 c [t, b] rfl (by decide) _ (pts_two w t b ty))
 generalize psum [t, b] = z at *
 go_enter Try.func41, Try.ntmps41
 go_wp2_with (go_at_call 66; (refine (HS.out _ _).mono ?_); rintro e w' ⟨rfl, rfl⟩)
 go_ret
 exact ⟨rfl, by (repeat (first | assumption | exact Kp.refl _ | with_reducible refine Kp.alloc ?_ _ | with_reducible refine Kp.drewN ?_ _ | with_reducible refine Kp.drew ?_ | (with_reducible refine Kp.setCell ?_ (by simp) _)))⟩
end Go.Proofs.Ytcdmmfelagbpdaa
