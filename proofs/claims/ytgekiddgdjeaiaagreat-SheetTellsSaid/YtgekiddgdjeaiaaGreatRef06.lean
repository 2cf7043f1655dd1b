/- Contracts of the reference of layer 6: it computes what Pd says. -/
import Derived.Test.YtgekiddgdjeaiaaGreatPoint2
namespace Go.Proofs.YtgekiddgdjeaiaaGreat
open Go.RowKit Go.Lib Cfd Cpd Ckp
set_option linter.unusedVariables false

def aai (a b : Nat) : Nat := (a + b) % 4611686018427377339
theorem ayt (a b : Nat) : aai a b < 4611686018427377339 := Nat.mod_lt _ (by decide)
theorem beh (o x y : Nat) (h : y % 2 = 1) : aai (aai o x) (pt (aai x x) (y / 2)) = aai o (pt x y) := by
 have e : x * y = (x + x) * (y / 2) + x := by
  have e1 : y = 2 * (y / 2) + 1 := by omega
  generalize y / 2 = z at *
  subst e1
  rw [Nat.mul_add, Nat.mul_one, ← Nat.two_mul, ← Nat.mul_assoc, Nat.mul_comm x 2]
 unfold aai pt
 rw [Nat.mod_add_mod, Nat.add_mod_mod, Nat.add_mod_mod, e, Nat.add_mod (o + x), Nat.mod_mul_mod, ← Nat.add_mod]
 congr 1; omega
theorem a8a (o x y : Nat) (h : ¬ y % 2 = 1) : aai o (pt (aai x x) (y / 2)) = aai o (pt x y) := by
 have e : x * y = (x + x) * (y / 2) := by
  have e1 : y = 2 * (y / 2) := by omega
  generalize y / 2 = z at *
  subst e1
  rw [← Nat.two_mul, ← Nat.mul_assoc, Nat.mul_comm x 2]
 unfold aai pt
 rw [e, Nat.mod_mul_mod]
theorem azj {a : Nat} (h : a < 4611686018427377339) : aai a 0 = a := by unfold aai; rw [Nat.add_zero]; exact Nat.mod_eq_of_lt h
theorem a0a (a b : Nat) : aai 0 (pt a b) = pt a b := by
 unfold aai; rw [Nat.zero_add]; exact Nat.mod_eq_of_lt (aer _ _)

theorem ao0 (a b : Nat) (ha : a < 4611686018427377339) (hb : b < 4611686018427377339) (w : World) : Calls Tryz.prog 117 #[.int .u64 a, .int .u64 b] w fun e w' => e = .returned (.int .u64 (pt a b : Nat)) ∧ w = w' := by
 have HS := Lib.hid (a0a a b)
 go_enter Tryz.func117, Tryz.ntmps117
 go_wp2_with fail
 go_loop [0, 1, 5] (fun xv yv ov => ∃ x y o : Nat, x < 4611686018427377339 ∧ y < 4611686018427377339 ∧ o < 4611686018427377339 ∧ aai o (pt x y) = pt a b ∧ xv = .int .u64 (x : Int) ∧ yv = .int .u64 (y : Int) ∧ ov = .int .u64 (o : Int)) (fun _ yv _ => (intOf yv).toNat)
 case atStart => exact ⟨a, b, 0, ha, hb, by decide, HS.out, rfl, rfl, rfl⟩
 case round =>
  obtain ⟨x, y, o, hx, hy, ho, hi, rfl, rfl, rfl⟩ := hrel
  have HI := Lib.hid hi
  clear hi
  by_cases hz : y = 0
  ·have hz' : ¬ (0 : Int) < (y : Int) := by omega
   have hfin : o = pt a b := by rw [← HI.out, hz]; unfold pt; rw [Nat.mul_zero]; exact (azj ho).symm
   have HF := Lib.hid hfin
   clear hz hfin
   go_wp2_with fail
   go_ret
   exact ⟨acp (congrArg Nat.cast HF.out), rfl⟩
  ·have hz' : (0 : Int) < (y : Int) := by omega
   have e1 : ((o : Int) + (x : Int)) % 4611686018427377339 = (aai o x : Nat) := by unfold aai; omega
   have e2 : ((x : Int) + (x : Int)) % 4611686018427377339 = (aai x x : Nat) := by unfold aai; omega
   have hf1 := ayt o x
   have hf2 := ayt x x
   by_cases hp : y % 2 = 1
   ·have hp' : ((y : Int) % 2 == 1) = true := by simp; omega
    have HO := Lib.hid (beh o x y hp)
    go_wp2_with fail
    go_round
    case rel => exact ⟨aai x x, y / 2, aai o x, hf2, by omega, hf1, HO.out.trans HI.out, by first | rfl | exact congrArg (Value.int .u64) e2, by go_num, by first | rfl | exact congrArg (Value.int .u64) e1⟩
    case measure => simp [intOf]; omega
   ·have hp' : ((y : Int) % 2 == 1) = false := by simp; omega
    have HO := Lib.hid (a8a o x y hp)
    go_wp2_with fail
    go_round
    case rel => exact ⟨aai x x, y / 2, o, hf2, by omega, ho, HO.out.trans HI.out, by first | rfl | exact congrArg (Value.int .u64) e2, by go_num, rfl⟩
    case measure => simp [intOf]; omega

theorem apm (a n : Nat) (ha : a < 4611686018427377339) (hn : n < 18446744073709551616) (w : World) : Calls Tryz.prog 104 #[.int .u64 a, .int .u64 n] w fun e w' => e = .returned (.int .u64 (rf a n : Nat)) ∧ w = w' := by
 have Hs := Lib.hid (show pt 1 (rf a n) = rf a n from an3 (afk _ _))
 go_enter Tryz.func104, Tryz.ntmps104
 go_wp2_with fail
 go_loop [0, 1, 5] (fun bv nv ov => ∃ nn oo bb : Nat, nn < 18446744073709551616 ∧ oo < 4611686018427377339 ∧ bb < 4611686018427377339 ∧ pt oo (rf bb nn) = rf a n ∧ nv = .int .u64 (nn : Int) ∧ ov = .int .u64 (oo : Int) ∧ bv = .int .u64 (bb : Int)) (fun _ nv _ => (intOf nv).toNat)
 case atStart => exact ⟨n, 1, a, hn, by decide, ha, Hs.out, rfl, rfl, rfl⟩
 case round =>
  obtain ⟨nn, oo, bb, hnn, hoo, hbb, hi, rfl, rfl, rfl⟩ := hrel
  have HI := Lib.hid hi
  clear hi
  have hp1 := aer oo bb
  have hp2 := aer bb bb
  by_cases hz : nn = 0
  ·have hz' : ¬ (0 : Int) < (nn : Int) := by omega
   have hfin : oo = rf a n := by rw [← HI.out, hz, asj, akp hoo]
   have HZ := Lib.hid hfin
   clear hz hfin
   go_wp2_with fail
   go_ret
   exact ⟨acp (congrArg Nat.cast HZ.out), rfl⟩
  ·have hz' : (0 : Int) < (nn : Int) := by omega
   by_cases ho : nn % 2 = 1
   ·have ho' : ((nn : Int) % 2 == 1) = true := by simp; omega
    go_wp2_with (go_at_call 117; refine (ao0 _ _ (by omega) (by omega) _).mono ?_; rintro e w' ⟨rfl, rfl⟩)
    go_round
    case rel => exact ⟨nn / 2, pt oo bb, pt bb bb, by omega, aer _ _, by omega, by rw [a2z oo bb nn ho, HI.out], by go_num, rfl, rfl⟩
    case measure => simp [intOf]; omega
   ·have ho' : ((nn : Int) % 2 == 1) = false := by simp; omega
    go_wp2_with (go_at_call 117; refine (ao0 _ _ (by omega) (by omega) _).mono ?_; rintro e w' ⟨rfl, rfl⟩)
    go_round
    case rel => exact ⟨nn / 2, oo, pt bb bb, by omega, hoo, by omega, by rw [awk oo bb nn ho, HI.out], by go_num, rfl, rfl⟩
    case measure => simp [intOf]; omega
theorem a5w (a : Nat) (ha : a < 4611686018427377339) (w : World) : Calls Tryz.prog 104 #[.int .u64 a, .int .u64 2305843009213688669] w fun e w' => e = .returned (.int .u64 (pq a : Nat)) ∧ w = w' := by unfold pq; exact apm a 2305843009213688669 ha (by decide) w
theorem ags (a : Nat) (w : World) : Calls Tryz.prog 73 #[.int .u64 a] w fun e w' => e = .returned (.bool (iw a)) ∧ w = w' := by
 by_cases h0 : 0 < a
 ·have h0' : (1 : Int) ≤ (a : Int) := by omega
  by_cases h1 : a < 4611686018427377339
  ·have h1' : (a : Int) < 4611686018427377339 := by omega
   have HD := Lib.hid (ar9 a h0 h1)
   go_enter Tryz.func73, Tryz.ntmps73
   go_wp2_with (go_at_call 104; refine (a5w _ h1 _).mono ?_; rintro e w' ⟨rfl, rfl⟩)
   go_ret
   exact ⟨axs HD.out, rfl⟩
  ·have h1' : ¬ (a : Int) < 4611686018427377339 := by omega
   have hr : iw a = false := by unfold iw; simp [h1]
   go_enter Tryz.func73, Tryz.ntmps73
   go_wp2
   go_ret
   exact ⟨rfl, rfl⟩
 ·have h0' : ¬ (1 : Int) ≤ (a : Int) := by omega
  have hr : iw a = false := by unfold iw; simp [h0]
  go_enter Tryz.func73, Tryz.ntmps73
  go_wp2
  go_ret
  exact ⟨rfl, rfl⟩
theorem aw8 (a : Nat) (w : World) : Calls Tryz.prog 105 #[.int .u64 a] w fun e w' => e = .returned (.int .u64 (mr a : Nat)) ∧ w = w' := by
 by_cases h : iw a = true
 ·have HT := Lib.hid (uz h)
  go_enter Tryz.func105, Tryz.ntmps105
  go_wp2_with (go_at_call 73; refine (ags _ _).mono ?_; rintro e w' ⟨rfl, rfl⟩)
  go_ret
  exact ⟨acp (congrArg Nat.cast HT.out.symm), rfl⟩
 ·have h' : iw a = false := by simpa using h
  have HT := Lib.hid (arw h')
  clear h
  go_enter Tryz.func105, Tryz.ntmps105
  go_wp2_with (go_at_call 73; refine (ags _ _).mono ?_; rintro e w' ⟨rfl, rfl⟩)
  go_ret
  exact ⟨acp (by rw [HT.out]; rfl), rfl⟩
theorem ak5 (a k : Nat) (w : World) : Calls Tryz.prog 76 #[.int .u64 a, .int .u64 k] w fun e w' => e = .returned (.int .u64 (mi a k : Nat)) ∧ w = w' := by
 have ht := ab2 a
 have hf := avz k
 have e1 : (k : Int) % 2305843009213688669 = (fof k : Nat) := (Int.natCast_emod _ _).symm
 go_enter Tryz.func76, Tryz.ntmps76
 go_wp2_with (first | (go_at_call 105; refine (aw8 _ _).mono ?_; rintro e w' ⟨rfl, rfl⟩) | (go_at_call 104; refine (apm _ _ ht (by omega) _).mono ?_; rintro e w' ⟨rfl, rfl⟩))
 go_ret
 exact ⟨rfl, rfl⟩
theorem a6s (k : Nat) (w : World) : Calls Tryz.prog 76 #[.int .u64 4, .int .u64 k] w fun e w' => e = .returned (.int .u64 (jl k : Nat)) ∧ w = w' := ak5 4 k w
theorem azn (k : Nat) (w : World) : Calls Tryz.prog 41 #[.int .u64 k] w fun e w' => e = .returned (.int .u64 (jl k : Nat)) ∧ w = w' := by
 go_enter Tryz.func41, Tryz.ntmps41
 go_wp2_with (go_at_call 76; refine (a6s _ _).mono ?_; rintro e w' ⟨rfl, rfl⟩)
 go_ret
 exact ⟨rfl, rfl⟩
