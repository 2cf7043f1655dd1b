/- Contracts of package hop and its reference: what may be passed. -/
import Derived.Test.YtcdmmfelagbpdaaHo3
namespace Go.Proofs.Ytcdmmfelagbpdaa
open Go.RowKit Go.Lib Ckp Cfd Cpd Cwl
set_option linter.unusedVariables false
set_option linter.unusedSimpArgs false
set_option maxRecDepth 8192
@[irreducible] def hpassed (a e : Int) (q : Nat) : Bool := inn a 1 1125899906842624 && inn e 1 1048576 && decide (q ≠ 1) && pright q
theorem hpassed_iff {a e : Int} {q : Nat} (h : hpassed a e q = true) : (1 ≤ a ∧ a ≤ 1125899906842624) ∧ (1 ≤ e ∧ e ≤ 1048576) ∧ q ≠ 1 ∧ pright q = true := by
 unfold hpassed at h; simp [inn] at h; obtain ⟨⟨⟨h1, h2⟩, h3⟩, h4⟩ := h; exact ⟨h1, h2, h3, h4⟩
def hworld (h j b n : Int) : Bool := inn h 0 1048576 && inn j 0 1000 && inn b 0 1000 && inn n 0 1000
theorem hworld_iff {h j b n : Int} (k : hworld h j b n = true) : (0 ≤ h ∧ h ≤ 1048576) ∧ (0 ≤ n ∧ n ≤ 1000) := by
 simp [hworld, inn] at k; omega
set_option maxHeartbeats 1000000 in
theorem hpassed_any (f i a : Int) (q : Nat) (hq : q < 18446744073709551616) (e : Int) (w : World) : Calls Try.prog 59 #[QV f i a q e] w fun e' w' => e' = .returned (.bool (hpassed a e q)) ∧ Kp w w' := by
 have K1 := Lib.hid (fun w => hin_any a 1 1125899906842624 w)
 have K2 := Lib.hid (fun w => hin_any e 1 1048576 w)
 have K3 := Lib.hid (fun w => pright_any q hq w)
 have hd : ((q : Int) != 1) = decide (q ≠ 1) := by
  by_cases h : q = 1
  ·subst h; rfl
  ·have h' : ¬ (q : Int) = 1 := by omega
   simp [h, h']
 have hs : hpassed a e q = (inn a 1 1125899906842624 && inn e 1 1048576 && decide (q ≠ 1) && pright q) := by unfold hpassed; rfl
 rw [hs]
 clear hs hq
 generalize inn a 1 1125899906842624 = x1 at *
 generalize inn e 1 1048576 = x2 at *
 generalize pright q = x4 at *
 generalize decide (q ≠ 1) = x3 at *
 cases x1
 ·go_enter Try.func59, Try.ntmps59
  go_wp2_with (go_at_call 54; first | ((with_reducible (refine (K1.out _).mono ?_)); rintro e w' ⟨rfl, rfl⟩) | ((with_reducible (refine (K2.out _).mono ?_)); rintro e w' ⟨rfl, rfl⟩))
  go_ret
  exact ⟨rfl, by (repeat (first | assumption | exact Kp.refl _ | with_reducible refine Kp.alloc ?_ _ | with_reducible refine Kp.drewN ?_ _ | with_reducible refine Kp.drew ?_ | (with_reducible refine Kp.setCell ?_ (by simp) _)))⟩
 ·cases x2
  ·go_enter Try.func59, Try.ntmps59
   go_wp2_with (go_at_call 54; first | ((with_reducible (refine (K1.out _).mono ?_)); rintro e w' ⟨rfl, rfl⟩) | ((with_reducible (refine (K2.out _).mono ?_)); rintro e w' ⟨rfl, rfl⟩))
   go_ret
   exact ⟨rfl, by (repeat (first | assumption | exact Kp.refl _ | with_reducible refine Kp.alloc ?_ _ | with_reducible refine Kp.drewN ?_ _ | with_reducible refine Kp.drew ?_ | (with_reducible refine Kp.setCell ?_ (by simp) _)))⟩
  ·cases x3
   ·go_enter Try.func59, Try.ntmps59
    go_wp2_with (go_at_call 54; first | ((with_reducible (refine (K1.out _).mono ?_)); rintro e w' ⟨rfl, rfl⟩) | ((with_reducible (refine (K2.out _).mono ?_)); rintro e w' ⟨rfl, rfl⟩))
    go_ret
    exact ⟨rfl, by (repeat (first | assumption | exact Kp.refl _ | with_reducible refine Kp.alloc ?_ _ | with_reducible refine Kp.drewN ?_ _ | with_reducible refine Kp.drew ?_ | (with_reducible refine Kp.setCell ?_ (by simp) _)))⟩
   ·cases x4
    all_goals
     go_enter Try.func59, Try.ntmps59
     go_wp2_with (first | (go_at_call 65; (with_reducible (refine (K3.out _).mono ?_)); rintro e w' ⟨rfl, k, rfl⟩) | (go_at_call 54; first | ((with_reducible (refine (K1.out _).mono ?_)); rintro e w' ⟨rfl, rfl⟩) | ((with_reducible (refine (K2.out _).mono ?_)); rintro e w' ⟨rfl, rfl⟩)))
     go_ret
     exact ⟨rfl, by (repeat (first | assumption | exact Kp.refl _ | with_reducible refine Kp.alloc ?_ _ | with_reducible refine Kp.drewN ?_ _ | with_reducible refine Kp.drew ?_ | (with_reducible refine Kp.setCell ?_ (by simp) _)))⟩
set_option maxHeartbeats 1000000 in
theorem rhpassed_any (f i a : Int) (q : Nat) (e : Int) (w : World) : Calls Try.prog 61 #[QV f i a q e] w fun e' w' => e' = .returned (.bool (hpassed a e q)) ∧ Kp w w' := by
 have K1 := Lib.hid (fun w => rhin_any a 1 1125899906842624 w)
 have K2 := Lib.hid (fun w => rhin_any e 1 1048576 w)
 have K3 := Lib.hid (fun w => rpright_any q w)
 have hd : ((q : Int) != 1) = decide (q ≠ 1) := by
  by_cases h : q = 1
  ·subst h; rfl
  ·have h' : ¬ (q : Int) = 1 := by omega
   simp [h, h']
 have hs : hpassed a e q = (inn a 1 1125899906842624 && inn e 1 1048576 && decide (q ≠ 1) && pright q) := by unfold hpassed; rfl
 rw [hs]
 clear hs
 generalize inn a 1 1125899906842624 = x1 at *
 generalize inn e 1 1048576 = x2 at *
 generalize pright q = x4 at *
 generalize decide (q ≠ 1) = x3 at *
 cases x1 <;> cases x2 <;> cases x3 <;> cases x4
 all_goals
  go_enter Try.func61, Try.ntmps61
  go_wp2_with (first | (go_at_call 77; (with_reducible (refine (K3.out _).mono ?_)); rintro e w' ⟨rfl, rfl⟩) | (go_at_call 57; first | ((with_reducible (refine (K1.out _).mono ?_)); rintro e w' ⟨rfl, rfl⟩) | ((with_reducible (refine (K2.out _).mono ?_)); rintro e w' ⟨rfl, rfl⟩)))
  go_ret
  exact ⟨rfl, by (repeat (first | assumption | exact Kp.refl _ | with_reducible refine Kp.alloc ?_ _ | with_reducible refine Kp.drewN ?_ _ | with_reducible refine Kp.drew ?_ | (with_reducible refine Kp.setCell ?_ (by simp) _)))⟩
set_option maxHeartbeats 1000000 in
theorem hworld_any (h j b n : Int) (w : World) : Calls Try.prog 60 #[.int .i64 h, BV j b n] w fun e' w' => e' = .returned (.bool (hworld h j b n)) ∧ Kp w w' := by
 have K1 := Lib.hid (fun w => hin_any h 0 1048576 w)
 have K2 := Lib.hid (fun w => hin_any j 0 1000 w)
 have K3 := Lib.hid (fun w => hin_any b 0 1000 w)
 have K4 := Lib.hid (fun w => hin_any n 0 1000 w)
 unfold hworld
 generalize inn h 0 1048576 = x1 at *
 generalize inn j 0 1000 = x2 at *
 generalize inn b 0 1000 = x3 at *
 generalize inn n 0 1000 = x4 at *
 go_enter Try.func60, Try.ntmps60
 go_wp2_with (go_at_call 54; first | ((with_reducible (refine (K1.out _).mono ?_)); rintro e w' ⟨rfl, rfl⟩) | ((with_reducible (refine (K2.out _).mono ?_)); rintro e w' ⟨rfl, rfl⟩) | ((with_reducible (refine (K3.out _).mono ?_)); rintro e w' ⟨rfl, rfl⟩) | ((with_reducible (refine (K4.out _).mono ?_)); rintro e w' ⟨rfl, rfl⟩))
 all_goals go_ret
 all_goals exact ⟨by simp_all, by (repeat (first | assumption | exact Kp.refl _ | with_reducible refine Kp.alloc ?_ _ | with_reducible refine Kp.drewN ?_ _ | with_reducible refine Kp.drew ?_ | (with_reducible refine Kp.setCell ?_ (by simp) _)))⟩
set_option maxHeartbeats 1000000 in
theorem rhworld_any (h j b n : Int) (w : World) : Calls Try.prog 62 #[.int .i64 h, BV j b n] w fun e' w' => e' = .returned (.bool (hworld h j b n)) ∧ Kp w w' := by
 have K1 := Lib.hid (fun w => rhin_any h 0 1048576 w)
 have K2 := Lib.hid (fun w => rhin_any j 0 1000 w)
 have K3 := Lib.hid (fun w => rhin_any b 0 1000 w)
 have K4 := Lib.hid (fun w => rhin_any n 0 1000 w)
 unfold hworld
 generalize inn h 0 1048576 = x1 at *
 generalize inn j 0 1000 = x2 at *
 generalize inn b 0 1000 = x3 at *
 generalize inn n 0 1000 = x4 at *
 go_enter Try.func62, Try.ntmps62
 go_wp2_with (go_at_call 57; first | ((with_reducible (refine (K1.out _).mono ?_)); rintro e w' ⟨rfl, rfl⟩) | ((with_reducible (refine (K2.out _).mono ?_)); rintro e w' ⟨rfl, rfl⟩) | ((with_reducible (refine (K3.out _).mono ?_)); rintro e w' ⟨rfl, rfl⟩) | ((with_reducible (refine (K4.out _).mono ?_)); rintro e w' ⟨rfl, rfl⟩))
 all_goals go_ret
 all_goals exact ⟨by simp_all, by (repeat (first | assumption | exact Kp.refl _ | with_reducible refine Kp.alloc ?_ _ | with_reducible refine Kp.drewN ?_ _ | with_reducible refine Kp.drew ?_ | (with_reducible refine Kp.setCell ?_ (by simp) _)))⟩
end Go.Proofs.Ytcdmmfelagbpdaa
