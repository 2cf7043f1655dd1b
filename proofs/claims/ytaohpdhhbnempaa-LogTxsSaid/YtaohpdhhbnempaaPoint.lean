/- Contracts of package point: each function computes what Pd says. -/
import Derived.Test.YtaohpdhhbnempaaFrom
import Derived.Test.YtaohpdhhbnempaaPd
namespace Go.Proofs.Ytaohpdhhbnempaa
open Go.RowKit Go.Lib Cfd Cpd Ckp
set_option linter.unusedVariables false

theorem p_round (o b n : Nat) (h : n % 2 = 1) : pt (pt o b) (ppow (pt b b) (n / 2)) = pt o (ppow b n) := by
 have e1 : ppow (pt b b) (n / 2) = ppow b (n - 1) := by
  unfold pt ppow; rw [Cnt.pw_sq, show 2 * (n / 2) = n - 1 from by omega]
 have e2 : ppow b n = pt b (ppow b (n - 1)) := by
  unfold pt ppow
  rw [← Cnt.pw_succ', show n - 1 + 1 = n from by omega]
 rw [e1, e2, pt_assoc]
theorem p_round' (o b n : Nat) (h : ¬ n % 2 = 1) : pt o (ppow (pt b b) (n / 2)) = pt o (ppow b n) := by
 unfold pt ppow
 rw [Cnt.pw_sq, show 2 * (n / 2) = n from by omega]

theorem rem_mul_p (a b : Nat) (ha : a < 18446744073709551616) (hb : b < 18446744073709551616) (w : World) :
  Calls Try.prog 111 #[.int .u64 (mh a b : Nat), .int .u64 (ml a b : Nat), .int .u64 4611686018427377339] w fun e w' => e = .returned (.int .u64 (pt a b : Nat)) ∧ ∃ n, w' = w.drewN n :=
 rem64_p _ _ _ (mh_lt a b ha hb) (ml_lt a b) (mhl a b) w

theorem ptimes_any (a b : Nat) (ha : a < 18446744073709551616) (hb : b < 18446744073709551616) (w : World) :
  Calls Try.prog 109 #[.int .u64 a, .int .u64 b] w fun e w' => e = .returned (.int .u64 (pt a b : Nat)) ∧ ∃ n, w' = w.drewN n := by
 have hl := pt_lt a b
 go_enter Try.func109, Try.ntmps109
 go_wp2_with (first | (go_at_call 110; refine (mul64_hl _ _ ha hb _).mono ?_; rintro e w' ⟨rfl, rfl⟩) | (go_at_call 111; refine (rem_mul_p _ _ ha hb _).mono ?_; rintro e w' ⟨rfl, n, rfl⟩))
 go_ret
 exact ⟨rfl, _, rfl⟩

theorem power_any (a n : Nat) (ha : a < 18446744073709551616) (hn : n < 18446744073709551616) (w : World) : Calls Try.prog 107 #[.int .u64 a, .int .u64 n] w fun e w' => e = .returned (.int .u64 (ppow a n : Nat)) ∧ ∃ k, w' = w.drewN k := by
 have Hs := Lib.hid (show pt 1 (ppow a n) = ppow a n from one_pt (ppow_lt _ _))
 go_enter Try.func107, Try.ntmps107
 go_wp2_with fail
 go_loopw [0, 1, 5] (fun bv nv ov wr => ∃ nn oo bb k : Nat, nn < 18446744073709551616 ∧ oo < 4611686018427377339 ∧ bb < 18446744073709551616 ∧ pt oo (ppow bb nn) = ppow a n ∧ nv = .int .u64 (nn : Int) ∧ ov = .int .u64 (oo : Int) ∧ bv = .int .u64 (bb : Int) ∧ wr = w.drewN k) (fun _ nv _ _ => (intOf nv).toNat)
 case atStart => exact ⟨n, 1, a, 0, hn, by decide, ha, Hs.out, rfl, rfl, rfl, rfl⟩
 case round =>
  obtain ⟨nn, oo, bb, k, hnn, hoo, hbb, hi, rfl, rfl, rfl, rfl⟩ := hrel
  have HI := Lib.hid hi
  clear hi
  have hand := and_one_u64 (nn : Int) (by omega) (by omega)
  have hp1 := pt_lt oo bb
  have hp2 := pt_lt bb bb
  by_cases hz : nn = 0
  ·have hz' : ¬ (0 : Int) < (nn : Int) := by omega
   have hfin : oo = ppow a n := by rw [← HI.out, hz, ppow_zero, pt_one hoo]
   have HZ := Lib.hid hfin
   clear hz hfin
   go_wp2_with fail
   go_ret
   exact ⟨ret_int (congrArg Nat.cast HZ.out), k, rfl⟩
  ·have hz' : (0 : Int) < (nn : Int) := by omega
   by_cases ho : nn % 2 = 1
   ·have ho' : ((nn : Int) % 2 == 1) = true := by simp; omega
    go_wp2_with (go_at_call 109; refine (ptimes_any _ _ (by omega) (by omega) _).mono ?_; rintro e w' ⟨rfl, n, rfl⟩)
    go_roundw
    case rel => exact ⟨nn / 2, pt oo bb, pt bb bb, _, by omega, pt_lt _ _, by omega, by rw [p_round oo bb nn ho, HI.out], by go_num, rfl, rfl, rfl⟩
    case measure => simp [intOf]; omega
   ·have ho' : ((nn : Int) % 2 == 1) = false := by simp; omega
    go_wp2_with (go_at_call 109; refine (ptimes_any _ _ (by omega) (by omega) _).mono ?_; rintro e w' ⟨rfl, n, rfl⟩)
    go_roundw
    case rel => exact ⟨nn / 2, oo, pt bb bb, _, by omega, hoo, by omega, by rw [p_round' oo bb nn ho, HI.out], by go_num, rfl, rfl, rfl⟩
    case measure => simp [intOf]; omega

theorem power_q (a : Nat) (ha : a < 18446744073709551616) (w : World) : Calls Try.prog 107 #[.int .u64 a, .int .u64 2305843009213688669] w fun e w' => e = .returned (.int .u64 (ppow a 2305843009213688669 : Nat)) ∧ ∃ k, w' = w.drewN k := power_any a 2305843009213688669 ha (by decide) w
@[irreducible] def pq (a : Nat) : Nat := ppow a 2305843009213688669
theorem power_pq (a : Nat) (ha : a < 18446744073709551616) (w : World) : Calls Try.prog 107 #[.int .u64 a, .int .u64 2305843009213688669] w fun e w' => e = .returned (.int .u64 (pq a : Nat)) ∧ ∃ k, w' = w.drewN k := by unfold pq; exact power_q a ha w
theorem ret_bool {a b : Bool} (h : a = b) : Ending.returned (.bool a) = .returned (.bool b) := by rw [h]
theorem right_dec (a : Nat) (h0 : 0 < a) (h1 : a < 4611686018427377339) : ((pq a : Int) == 1) = pright a := by
 have e : ((pq a : Int) == 1) = decide (pq a = 1) := by rw [Bool.eq_iff_iff]; simp; omega
 rw [e]
 unfold pright pq
 simp [h0, h1]
theorem pright_any (a : Nat) (ha : a < 18446744073709551616) (w : World) : Calls Try.prog 103 #[.int .u64 a] w fun e w' => e = .returned (.bool (pright a)) ∧ ∃ k, w' = w.drewN k := by
 by_cases h0 : 0 < a
 ·have h0' : (0 : Int) < (a : Int) := by omega
  by_cases h1 : a < 4611686018427377339
  ·have h1' : (a : Int) < 4611686018427377339 := by omega
   have HD := Lib.hid (right_dec a h0 h1)
   go_enter Try.func103, Try.ntmps103
   go_wp2_with (go_at_call 107; refine (power_pq _ ha _).mono ?_; rintro e w' ⟨rfl, n, rfl⟩)
   go_ret
   exact ⟨ret_bool HD.out, n, rfl⟩
  ·have h1' : ¬ (a : Int) < 4611686018427377339 := by omega
   have hr : pright a = false := by unfold pright; simp [h1]
   go_enter Try.func103, Try.ntmps103
   go_wp2
   go_ret
   exact ⟨rfl, 0, rfl⟩
 ·have h0' : ¬ (0 : Int) < (a : Int) := by omega
  have hr : pright a = false := by unfold pright; simp [h0]
  go_enter Try.func103, Try.ntmps103
  go_wp2
  go_ret
  exact ⟨rfl, 0, rfl⟩
def Pts (w : World) (A : Option Addr) (l : List Nat) : Prop := 0 < l.length → ∃ ad, A = some ad ∧ ad.block < w.heap.size ∧ ∀ j, j < l.length → w.cell? (ad.add j) = some (.int .u64 (l.getD j 0 : Nat))
theorem Pts.keep {w w' : World} {A : Option Addr} {l : List Nat} (h : Pts w A l) (hk : Kp w w') : Pts w' A l := by
 intro h0
 obtain ⟨ad, e, hb, hc⟩ := h h0
 refine ⟨ad, e, Nat.lt_of_lt_of_le hb hk.size, fun j hj => ?_⟩
 have hbl : (ad.add j).block = ad.block := by unfold Addr.add; split <;> rfl
 rw [hk.cell (p := ad.add j) (by rw [hbl]; exact hb)]
 exact hc j hj
