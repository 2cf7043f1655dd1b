/- Contracts of package point: each function computes what Pd says. -/
import Derived.Test.YtgekiddgdjeaiaaGreatFrom
import Derived.Test.YtgekiddgdjeaiaaGreatPd
namespace Go.Proofs.YtgekiddgdjeaiaaGreat
open Go.RowKit Go.Lib Cfd Cpd Ckp
set_option linter.unusedVariables false

theorem a2z (o b n : Nat) (h : n % 2 = 1) : pt (pt o b) (rf (pt b b) (n / 2)) = pt o (rf b n) := by
 have e1 : rf (pt b b) (n / 2) = rf b (n - 1) := by
  unfold pt rf; rw [Cnt.a8i, show 2 * (n / 2) = n - 1 from by omega]
 have e2 : rf b n = pt b (rf b (n - 1)) := by
  unfold pt rf
  rw [← Cnt.apa, show n - 1 + 1 = n from by omega]
 rw [e1, e2, an1]
theorem awk (o b n : Nat) (h : ¬ n % 2 = 1) : pt o (rf (pt b b) (n / 2)) = pt o (rf b n) := by
 unfold pt rf
 rw [Cnt.a8i, show 2 * (n / 2) = n from by omega]

theorem a5g (a b : Nat) (ha : a < 18446744073709551616) (hb : b < 18446744073709551616) (w : World) :
  Calls Tryz.prog 123 #[.int .u64 (mh a b : Nat), .int .u64 (ml a b : Nat), .int .u64 4611686018427377339] w fun e w' => e = .returned (.int .u64 (pt a b : Nat)) ∧ ∃ n, w' = w.drewN n :=
 bfn _ _ _ (bp0 a b ha hb) (bo5 a b) (mhl a b) w

theorem an4 (a b : Nat) (ha : a < 18446744073709551616) (hb : b < 18446744073709551616) (w : World) :
  Calls Tryz.prog 115 #[.int .u64 a, .int .u64 b] w fun e w' => e = .returned (.int .u64 (pt a b : Nat)) ∧ ∃ n, w' = w.drewN n := by
 have hl := aer a b
 go_enter Tryz.func115, Tryz.ntmps115
 go_wp2_with (first | (go_at_call 122; refine (bbp _ _ ha hb _).mono ?_; rintro e w' ⟨rfl, rfl⟩) | (go_at_call 123; refine (a5g _ _ ha hb _).mono ?_; rintro e w' ⟨rfl, n, rfl⟩))
 go_ret
 exact ⟨rfl, _, rfl⟩

theorem aq4 (a n : Nat) (ha : a < 18446744073709551616) (hn : n < 18446744073709551616) (w : World) : Calls Tryz.prog 100 #[.int .u64 a, .int .u64 n] w fun e w' => e = .returned (.int .u64 (rf a n : Nat)) ∧ ∃ k, w' = w.drewN k := by
 have Hs := Lib.hid (show pt 1 (rf a n) = rf a n from an3 (afk _ _))
 go_enter Tryz.func100, Tryz.ntmps100
 go_wp2_with fail
 go_loopw [0, 1, 5] (fun bv nv ov wr => ∃ nn oo bb k : Nat, nn < 18446744073709551616 ∧ oo < 4611686018427377339 ∧ bb < 18446744073709551616 ∧ pt oo (rf bb nn) = rf a n ∧ nv = .int .u64 (nn : Int) ∧ ov = .int .u64 (oo : Int) ∧ bv = .int .u64 (bb : Int) ∧ wr = w.drewN k) (fun _ nv _ _ => (intOf nv).toNat)
 case atStart => exact ⟨n, 1, a, 0, hn, by decide, ha, Hs.out, rfl, rfl, rfl, rfl⟩
 case round =>
  obtain ⟨nn, oo, bb, k, hnn, hoo, hbb, hi, rfl, rfl, rfl, rfl⟩ := hrel
  have HI := Lib.hid hi
  clear hi
  have hand := and_one_u64 (nn : Int) (by omega) (by omega)
  have hp1 := aer oo bb
  have hp2 := aer bb bb
  by_cases hz : nn = 0
  ·have hz' : ¬ (0 : Int) < (nn : Int) := by omega
   have hfin : oo = rf a n := by rw [← HI.out, hz, asj, akp hoo]
   have HZ := Lib.hid hfin
   clear hz hfin
   go_wp2_with fail
   go_ret
   exact ⟨acp (congrArg Nat.cast HZ.out), k, rfl⟩
  ·have hz' : (0 : Int) < (nn : Int) := by omega
   by_cases ho : nn % 2 = 1
   ·have ho' : ((nn : Int) % 2 == 1) = true := by simp; omega
    go_wp2_with (go_at_call 115; refine (an4 _ _ (by omega) (by omega) _).mono ?_; rintro e w' ⟨rfl, n, rfl⟩)
    go_roundw
    case rel => exact ⟨nn / 2, pt oo bb, pt bb bb, _, by omega, aer _ _, by omega, by rw [a2z oo bb nn ho, HI.out], by go_num, rfl, rfl, rfl⟩
    case measure => simp [intOf]; omega
   ·have ho' : ((nn : Int) % 2 == 1) = false := by simp; omega
    go_wp2_with (go_at_call 115; refine (an4 _ _ (by omega) (by omega) _).mono ?_; rintro e w' ⟨rfl, n, rfl⟩)
    go_roundw
    case rel => exact ⟨nn / 2, oo, pt bb bb, _, by omega, hoo, by omega, by rw [awk oo bb nn ho, HI.out], by go_num, rfl, rfl, rfl⟩
    case measure => simp [intOf]; omega

theorem bfb (a : Nat) (ha : a < 18446744073709551616) (w : World) : Calls Tryz.prog 100 #[.int .u64 a, .int .u64 2305843009213688669] w fun e w' => e = .returned (.int .u64 (rf a 2305843009213688669 : Nat)) ∧ ∃ k, w' = w.drewN k := aq4 a 2305843009213688669 ha (by decide) w
@[irreducible] def pq (a : Nat) : Nat := rf a 2305843009213688669
theorem bas (a : Nat) (ha : a < 18446744073709551616) (w : World) : Calls Tryz.prog 100 #[.int .u64 a, .int .u64 2305843009213688669] w fun e w' => e = .returned (.int .u64 (pq a : Nat)) ∧ ∃ k, w' = w.drewN k := by unfold pq; exact bfb a ha w
theorem axs {a b : Bool} (h : a = b) : Ending.returned (.bool a) = .returned (.bool b) := by rw [h]
theorem ar9 (a : Nat) (h0 : 0 < a) (h1 : a < 4611686018427377339) : ((pq a : Int) == 1) = iw a := by
 have e : ((pq a : Int) == 1) = decide (pq a = 1) := by rw [Bool.eq_iff_iff]; simp; omega
 rw [e]
 unfold iw pq
 simp [h0, h1]
theorem aih (a : Nat) (ha : a < 18446744073709551616) (w : World) : Calls Tryz.prog 70 #[.int .u64 a] w fun e w' => e = .returned (.bool (iw a)) ∧ ∃ k, w' = w.drewN k := by
 by_cases h0 : 0 < a
 ·have h0' : (0 : Int) < (a : Int) := by omega
  by_cases h1 : a < 4611686018427377339
  ·have h1' : (a : Int) < 4611686018427377339 := by omega
   have HD := Lib.hid (ar9 a h0 h1)
   go_enter Tryz.func70, Tryz.ntmps70
   go_wp2_with (go_at_call 100; refine (bas _ ha _).mono ?_; rintro e w' ⟨rfl, n, rfl⟩)
   go_ret
   exact ⟨axs HD.out, n, rfl⟩
  ·have h1' : ¬ (a : Int) < 4611686018427377339 := by omega
   have hr : iw a = false := by unfold iw; simp [h1]
   go_enter Tryz.func70, Tryz.ntmps70
   go_wp2
   go_ret
   exact ⟨rfl, 0, rfl⟩
 ·have h0' : ¬ (0 : Int) < (a : Int) := by omega
  have hr : iw a = false := by unfold iw; simp [h0]
  go_enter Tryz.func70, Tryz.ntmps70
  go_wp2
  go_ret
  exact ⟨rfl, 0, rfl⟩
theorem a0h (a : Nat) (ha : a < 18446744073709551616) (w : World) : Calls Tryz.prog 101 #[.int .u64 a] w fun e w' => e = .returned (.int .u64 (mr a : Nat)) ∧ ∃ k, w' = w.drewN k := by
 by_cases h : iw a = true
 ·have HT := Lib.hid (uz h)
  go_enter Tryz.func101, Tryz.ntmps101
  go_wp2_with (go_at_call 70; refine (aih _ ha _).mono ?_; rintro e w' ⟨rfl, n, rfl⟩)
  go_ret
  exact ⟨acp (congrArg Nat.cast HT.out.symm), n, rfl⟩
 ·have h' : iw a = false := by simpa using h
  have HT := Lib.hid (arw h')
  clear h
  go_enter Tryz.func101, Tryz.ntmps101
  go_wp2_with (go_at_call 70; refine (aih _ ha _).mono ?_; rintro e w' ⟨rfl, n, rfl⟩)
  go_ret
  exact ⟨acp (by rw [HT.out]; rfl), n, rfl⟩

def Pts (w : World) (A : Option Addr) (l : List Nat) : Prop := 0 < l.length → ∃ ad, A = some ad ∧ ad.block < w.heap.size ∧ ∀ j, j < l.length → w.cell? (ad.add j) = some (.int .u64 (l.getD j 0 : Nat))
theorem Pts.keep {w w' : World} {A : Option Addr} {l : List Nat} (h : Pts w A l) (hk : Kp w w') : Pts w' A l := by
 intro h0
 obtain ⟨ad, e, hb, hc⟩ := h h0
 refine ⟨ad, e, Nat.lt_of_lt_of_le hb hk.size, fun j hj => ?_⟩
 have hbl : (ad.add j).block = ad.block := by unfold Addr.add; split <;> rfl
 rw [hk.cell (p := ad.add j) (by rw [hbl]; exact hb)]
 exact hc j hj
