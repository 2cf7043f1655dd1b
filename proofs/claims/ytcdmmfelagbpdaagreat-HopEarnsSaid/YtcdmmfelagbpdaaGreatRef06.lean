/- Contracts of the reference of layer 6: it computes what Pd says. -/
import Derived.Test.YtcdmmfelagbpdaaGreatPoint2
namespace Go.Proofs.YtcdmmfelagbpdaaGreat
open Go.RowKit Go.Lib Cfd Cpd Ckp
set_option linter.unusedVariables false

def padd' (a b : Nat) : Nat := (a + b) % 4611686018427377339
theorem padd'_lt (a b : Nat) : padd' a b < 4611686018427377339 := Nat.mod_lt _ (by decide)
theorem pdbl_odd (o x y : Nat) (h : y % 2 = 1) : padd' (padd' o x) (pt (padd' x x) (y / 2)) = padd' o (pt x y) := by
 have e : x * y = (x + x) * (y / 2) + x := by
  have e1 : y = 2 * (y / 2) + 1 := by omega
  generalize y / 2 = z at *
  subst e1
  rw [Nat.mul_add, Nat.mul_one, ← Nat.two_mul, ← Nat.mul_assoc, Nat.mul_comm x 2]
 unfold padd' pt
 rw [Nat.mod_add_mod, Nat.add_mod_mod, Nat.add_mod_mod, e, Nat.add_mod (o + x), Nat.mod_mul_mod, ← Nat.add_mod]
 congr 1; omega
theorem pdbl_even (o x y : Nat) (h : ¬ y % 2 = 1) : padd' o (pt (padd' x x) (y / 2)) = padd' o (pt x y) := by
 have e : x * y = (x + x) * (y / 2) := by
  have e1 : y = 2 * (y / 2) := by omega
  generalize y / 2 = z at *
  subst e1
  rw [← Nat.two_mul, ← Nat.mul_assoc, Nat.mul_comm x 2]
 unfold padd' pt
 rw [e, Nat.mod_mul_mod]
theorem padd'_zero {a : Nat} (h : a < 4611686018427377339) : padd' a 0 = a := by unfold padd'; rw [Nat.add_zero]; exact Nat.mod_eq_of_lt h
theorem pdbl_start (a b : Nat) : padd' 0 (pt a b) = pt a b := by
 unfold padd'; rw [Nat.zero_add]; exact Nat.mod_eq_of_lt (pt_lt _ _)

theorem rtimes_any (a b : Nat) (ha : a < 4611686018427377339) (hb : b < 4611686018427377339) (w : World) : Calls Tryz.prog 110 #[.int .u64 a, .int .u64 b] w fun e w' => e = .returned (.int .u64 (pt a b : Nat)) ∧ w = w' := by
 have HS := Lib.hid (pdbl_start a b)
 go_enter Tryz.func110, Tryz.ntmps110
 go_wp2_with fail
 go_loop [0, 1, 5] (fun xv yv ov => ∃ x y o : Nat, x < 4611686018427377339 ∧ y < 4611686018427377339 ∧ o < 4611686018427377339 ∧ padd' o (pt x y) = pt a b ∧ xv = .int .u64 (x : Int) ∧ yv = .int .u64 (y : Int) ∧ ov = .int .u64 (o : Int)) (fun _ yv _ => (intOf yv).toNat)
 case atStart => exact ⟨a, b, 0, ha, hb, by decide, HS.out, rfl, rfl, rfl⟩
 case round =>
  obtain ⟨x, y, o, hx, hy, ho, hi, rfl, rfl, rfl⟩ := hrel
  have HI := Lib.hid hi
  clear hi
  by_cases hz : y = 0
  ·have hz' : ¬ (0 : Int) < (y : Int) := by omega
   have hfin : o = pt a b := by rw [← HI.out, hz]; unfold pt; rw [Nat.mul_zero]; exact (padd'_zero ho).symm
   have HF := Lib.hid hfin
   clear hz hfin
   go_wp2_with fail
   go_ret
   exact ⟨ret_int (congrArg Nat.cast HF.out), rfl⟩
  ·have hz' : (0 : Int) < (y : Int) := by omega
   have e1 : ((o : Int) + (x : Int)) % 4611686018427377339 = (padd' o x : Nat) := by unfold padd'; omega
   have e2 : ((x : Int) + (x : Int)) % 4611686018427377339 = (padd' x x : Nat) := by unfold padd'; omega
   have hf1 := padd'_lt o x
   have hf2 := padd'_lt x x
   by_cases hp : y % 2 = 1
   ·have hp' : ((y : Int) % 2 == 1) = true := by simp; omega
    have HO := Lib.hid (pdbl_odd o x y hp)
    go_wp2_with fail
    go_round
    case rel => exact ⟨padd' x x, y / 2, padd' o x, hf2, by omega, hf1, HO.out.trans HI.out, by first | rfl | exact congrArg (Value.int .u64) e2, by go_num, by first | rfl | exact congrArg (Value.int .u64) e1⟩
    case measure => simp [intOf]; omega
   ·have hp' : ((y : Int) % 2 == 1) = false := by simp; omega
    have HO := Lib.hid (pdbl_even o x y hp)
    go_wp2_with fail
    go_round
    case rel => exact ⟨padd' x x, y / 2, o, hf2, by omega, ho, HO.out.trans HI.out, by first | rfl | exact congrArg (Value.int .u64) e2, by go_num, rfl⟩
    case measure => simp [intOf]; omega

theorem rpower_any (a n : Nat) (ha : a < 4611686018427377339) (hn : n < 18446744073709551616) (w : World) : Calls Tryz.prog 97 #[.int .u64 a, .int .u64 n] w fun e w' => e = .returned (.int .u64 (ppow a n : Nat)) ∧ w = w' := by
 have Hs := Lib.hid (show pt 1 (ppow a n) = ppow a n from one_pt (ppow_lt _ _))
 go_enter Tryz.func97, Tryz.ntmps97
 go_wp2_with fail
 go_loop [0, 1, 5] (fun bv nv ov => ∃ nn oo bb : Nat, nn < 18446744073709551616 ∧ oo < 4611686018427377339 ∧ bb < 4611686018427377339 ∧ pt oo (ppow bb nn) = ppow a n ∧ nv = .int .u64 (nn : Int) ∧ ov = .int .u64 (oo : Int) ∧ bv = .int .u64 (bb : Int)) (fun _ nv _ => (intOf nv).toNat)
 case atStart => exact ⟨n, 1, a, hn, by decide, ha, Hs.out, rfl, rfl, rfl⟩
 case round =>
  obtain ⟨nn, oo, bb, hnn, hoo, hbb, hi, rfl, rfl, rfl⟩ := hrel
  have HI := Lib.hid hi
  clear hi
  have hp1 := pt_lt oo bb
  have hp2 := pt_lt bb bb
  by_cases hz : nn = 0
  ·have hz' : ¬ (0 : Int) < (nn : Int) := by omega
   have hfin : oo = ppow a n := by rw [← HI.out, hz, ppow_zero, pt_one hoo]
   have HZ := Lib.hid hfin
   clear hz hfin
   go_wp2_with fail
   go_ret
   exact ⟨ret_int (congrArg Nat.cast HZ.out), rfl⟩
  ·have hz' : (0 : Int) < (nn : Int) := by omega
   by_cases ho : nn % 2 = 1
   ·have ho' : ((nn : Int) % 2 == 1) = true := by simp; omega
    go_wp2_with (go_at_call 110; refine (rtimes_any _ _ (by omega) (by omega) _).mono ?_; rintro e w' ⟨rfl, rfl⟩)
    go_round
    case rel => exact ⟨nn / 2, pt oo bb, pt bb bb, by omega, pt_lt _ _, by omega, by rw [p_round oo bb nn ho, HI.out], by go_num, rfl, rfl⟩
    case measure => simp [intOf]; omega
   ·have ho' : ((nn : Int) % 2 == 1) = false := by simp; omega
    go_wp2_with (go_at_call 110; refine (rtimes_any _ _ (by omega) (by omega) _).mono ?_; rintro e w' ⟨rfl, rfl⟩)
    go_round
    case rel => exact ⟨nn / 2, oo, pt bb bb, by omega, hoo, by omega, by rw [p_round' oo bb nn ho, HI.out], by go_num, rfl, rfl⟩
    case measure => simp [intOf]; omega
theorem rpower_pq (a : Nat) (ha : a < 4611686018427377339) (w : World) : Calls Tryz.prog 97 #[.int .u64 a, .int .u64 2305843009213688669] w fun e w' => e = .returned (.int .u64 (pq a : Nat)) ∧ w = w' := by unfold pq; exact rpower_any a 2305843009213688669 ha (by decide) w
theorem rpright_any (a : Nat) (w : World) : Calls Tryz.prog 80 #[.int .u64 a] w fun e w' => e = .returned (.bool (pright a)) ∧ w = w' := by
 by_cases h0 : 0 < a
 ·have h0' : (1 : Int) ≤ (a : Int) := by omega
  by_cases h1 : a < 4611686018427377339
  ·have h1' : (a : Int) < 4611686018427377339 := by omega
   have HD := Lib.hid (right_dec a h0 h1)
   go_enter Tryz.func80, Tryz.ntmps80
   go_wp2_with (go_at_call 97; refine (rpower_pq _ h1 _).mono ?_; rintro e w' ⟨rfl, rfl⟩)
   go_ret
   exact ⟨ret_bool HD.out, rfl⟩
  ·have h1' : ¬ (a : Int) < 4611686018427377339 := by omega
   have hr : pright a = false := by unfold pright; simp [h1]
   go_enter Tryz.func80, Tryz.ntmps80
   go_wp2
   go_ret
   exact ⟨rfl, rfl⟩
 ·have h0' : ¬ (1 : Int) ≤ (a : Int) := by omega
  have hr : pright a = false := by unfold pright; simp [h0]
  go_enter Tryz.func80, Tryz.ntmps80
  go_wp2
  go_ret
  exact ⟨rfl, rfl⟩
theorem rptaken_any (a : Nat) (w : World) : Calls Tryz.prog 98 #[.int .u64 a] w fun e w' => e = .returned (.int .u64 (ptaken a : Nat)) ∧ w = w' := by
 by_cases h : pright a = true
 ·have HT := Lib.hid (taken_of h)
  go_enter Tryz.func98, Tryz.ntmps98
  go_wp2_with (go_at_call 80; refine (rpright_any _ _).mono ?_; rintro e w' ⟨rfl, rfl⟩)
  go_ret
  exact ⟨ret_int (congrArg Nat.cast HT.out.symm), rfl⟩
 ·have h' : pright a = false := by simpa using h
  have HT := Lib.hid (taken_not h')
  clear h
  go_enter Tryz.func98, Tryz.ntmps98
  go_wp2_with (go_at_call 80; refine (rpright_any _ _).mono ?_; rintro e w' ⟨rfl, rfl⟩)
  go_ret
  exact ⟨ret_int (by rw [HT.out]; rfl), rfl⟩
theorem rpscale_any (a k : Nat) (w : World) : Calls Tryz.prog 76 #[.int .u64 a, .int .u64 k] w fun e w' => e = .returned (.int .u64 (pscale a k : Nat)) ∧ w = w' := by
 have ht := taken_lt a
 have hf := fof_lt k
 have e1 : (k : Int) % 2305843009213688669 = (fof k : Nat) := (Int.natCast_emod _ _).symm
 go_enter Tryz.func76, Tryz.ntmps76
 go_wp2_with (first | (go_at_call 98; refine (rptaken_any _ _).mono ?_; rintro e w' ⟨rfl, rfl⟩) | (go_at_call 97; refine (rpower_any _ _ ht (by omega) _).mono ?_; rintro e w' ⟨rfl, rfl⟩))
 go_ret
 exact ⟨rfl, rfl⟩
theorem rpscale_4 (k : Nat) (w : World) : Calls Tryz.prog 76 #[.int .u64 4, .int .u64 k] w fun e w' => e = .returned (.int .u64 (pbase k : Nat)) ∧ w = w' := rpscale_any 4 k w
theorem rpbase_any (k : Nat) (w : World) : Calls Tryz.prog 43 #[.int .u64 k] w fun e w' => e = .returned (.int .u64 (pbase k : Nat)) ∧ w = w' := by
 go_enter Tryz.func43, Tryz.ntmps43
 go_wp2_with (go_at_call 76; refine (rpscale_4 _ _).mono ?_; rintro e w' ⟨rfl, rfl⟩)
 go_ret
 exact ⟨rfl, rfl⟩
