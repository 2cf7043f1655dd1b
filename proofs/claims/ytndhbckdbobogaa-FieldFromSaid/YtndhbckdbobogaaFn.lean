/- A sum that is one more, as a number modulo one less than Order. No program in sight. -/
import Derived.Test.YtndhbckdbobogaaFd
namespace Cfd
theorem ffold_app (a b : List Nat) : ffold (a ++ b) = b.foldl fstep (ffold a) := by unfold ffold; rw [List.foldl_append]
theorem fstep_eq (n b : Nat) : fstep n b % 2305843009213688668 = (n * 256 + b) % 2305843009213688668 := Nat.mod_mod _ _
/-- A number that is one more stays one more behind noughts for ones. -/
theorem carry : ∀ (m u v : Nat), u % 2305843009213688668 = (v + 1) % 2305843009213688668 →
    ((List.replicate m 0).foldl fstep u) % 2305843009213688668 = ((List.replicate m 255).foldl fstep v + 1) % 2305843009213688668
  | 0, _, _, h => h
  | m + 1, u, v, h => by
    rw [List.replicate_succ, List.replicate_succ, List.foldl_cons, List.foldl_cons]
    refine carry m _ _ ?_
    rw [fstep_eq]
    unfold fstep
    rw [Nat.mod_add_mod]
    omega
theorem ffold_next (p : List Nat) (x m : Nat) : ffold (p ++ (x + 1) :: List.replicate m 0) % 2305843009213688668 = (ffold (p ++ x :: List.replicate m 255) + 1) % 2305843009213688668 := by
  rw [ffold_app, ffold_app, List.foldl_cons, List.foldl_cons]
  refine carry m _ _ ?_
  rw [fstep_eq]
  unfold fstep
  rw [Nat.mod_add_mod, Nat.add_assoc]
theorem ffold_inc (p : List Nat) (x m : Nat) (h : ffold (p ++ x :: List.replicate m 255) + 1 < 2305843009213688668) : ffold (p ++ (x + 1) :: List.replicate m 0) = ffold (p ++ x :: List.replicate m 255) + 1 := by
  have h1 := ffold_next p x m
  rwa [Nat.mod_eq_of_lt (ffold_lt _), Nat.mod_eq_of_lt h] at h1
theorem ffold_wrap (p : List Nat) (x m : Nat) (h : ¬ ffold (p ++ x :: List.replicate m 255) + 1 < 2305843009213688668) : ffold (p ++ (x + 1) :: List.replicate m 0) = 0 ∧ ffold (p ++ x :: List.replicate m 255) = 2305843009213688667 := by
  have h1 := ffold_next p x m
  have h2 := ffold_lt (p ++ x :: List.replicate m 255)
  have h3 : ffold (p ++ x :: List.replicate m 255) = 2305843009213688667 := by omega
  rw [h3, Nat.mod_eq_of_lt (ffold_lt _)] at h1
  exact ⟨h1, h3⟩
end Cfd
