/- Contracts of terms.Change and its reference. -/
import Derived.Test.YtcdmmfelagbpdaaTe3
namespace Go.Proofs.Ytcdmmfelagbpdaa
open Go.RowKit Go.Lib Ckp Cfd Cpd
set_option linter.unusedVariables false
set_option maxRecDepth 8192
set_option linter.unusedSimpArgs false
def tchange (t u : Bool) (d r l c a m d' r' l' c' a' m' : Int) : Int :=
  if (t && u) = false then 1 else if d < d' then 9 else if r < r' then 10 else if l < l' then 6 else if c' < c ∨ m' < m ∨ a < a' then 3 else 0
set_option maxHeartbeats 1000000 in
theorem change_any (d r l c a m d' r' l' c' a' m' : Int) (w : World) :
    Calls Try.prog 23 #[TV d r l c a m, TV d' r' l' c' a' m'] w fun e w' => e = .returned (.int .i64 (tchange (tright d r l c a m) (tright d' r' l' c' a' m') d r l c a m d' r' l' c' a' m')) ∧ Kp w w' := by
  have H0 := Lib.hid (fun w => tright_any d r l c a m w)
  have H1 := Lib.hid (fun w => tright_any d' r' l' c' a' m' w)
  obtain ⟨t0, ht0⟩ : ∃ t, tright d r l c a m = t := ⟨_, rfl⟩
  obtain ⟨t1, ht1⟩ : ∃ t, tright d' r' l' c' a' m' = t := ⟨_, rfl⟩
  rw [ht0] at H0 ⊢; rw [ht1] at H1 ⊢
  clear ht0 ht1
  unfold tchange
  go_enter Try.func23, Try.ntmps23
  cases t0
  all_goals cases t1
  all_goals go_wp2_with (go_at_call 15; first | ((with_reducible (refine (H0.out _).mono ?_)); rintro e w' ⟨rfl, o, rfl⟩) | ((with_reducible (refine (H1.out _).mono ?_)); rintro e w' ⟨rfl, o, rfl⟩))
  all_goals go_ret
  all_goals refine ⟨?_, by repeat (first | exact Kp.refl _ | with_reducible refine Kp.alloc ?_ _ | with_reducible refine Kp.drewN ?_ _)⟩
  all_goals simp_all [Int.not_lt, Int.not_le]
set_option maxHeartbeats 1000000 in
theorem rchange_any (d r l c a m d' r' l' c' a' m' : Int) (w : World) :
    Calls Try.prog 24 #[TV d r l c a m, TV d' r' l' c' a' m'] w fun e w' => e = .returned (.int .i64 (tchange (tright d r l c a m) (tright d' r' l' c' a' m') d r l c a m d' r' l' c' a' m')) ∧ Kp w w' := by
  have H0 := Lib.hid (fun w => rtright_any d r l c a m w)
  have H1 := Lib.hid (fun w => rtright_any d' r' l' c' a' m' w)
  obtain ⟨t0, ht0⟩ : ∃ t, tright d r l c a m = t := ⟨_, rfl⟩
  obtain ⟨t1, ht1⟩ : ∃ t, tright d' r' l' c' a' m' = t := ⟨_, rfl⟩
  rw [ht0] at H0 ⊢; rw [ht1] at H1 ⊢
  clear ht0 ht1
  unfold tchange
  go_enter Try.func24, Try.ntmps24
  cases t0
  all_goals cases t1
  all_goals go_wp2_with (go_at_call 16; first | ((with_reducible (refine (H0.out _).mono ?_)); rintro e w' ⟨rfl, o, rfl⟩) | ((with_reducible (refine (H1.out _).mono ?_)); rintro e w' ⟨rfl, o, rfl⟩))
  all_goals go_ret
  all_goals refine ⟨?_, by repeat (first | exact Kp.refl _ | with_reducible refine Kp.alloc ?_ _ | with_reducible refine Kp.drewN ?_ _)⟩
  all_goals simp_all [Int.not_lt, Int.not_le]
end Go.Proofs.Ytcdmmfelagbpdaa
