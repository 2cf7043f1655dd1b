/- Contracts of package point: each function computes what Pd says. -/
import Derived.Test.YtaohpdhhbnempaaDoorFrom
import Derived.Test.YtaohpdhhbnempaaDoorPd
namespace Go.Proofs.YtaohpdhhbnempaaDoor
open Go.RowKit Go.Lib Cfd Cpd Ckp
set_option linter.unusedVariables false

theorem p_round (o b n : Nat) (h : n % 2 = 1) : pt (pt o b) (ppow (pt b b) (n / 2)) = pt o (ppow b n) := by
 have e1 : ppow (pt b b) (n / 2) = ppow b (n - 1) := by
  unfold pt ppow; rw [Cnt.pw_sq, show 2 * (n / 2) = n - 1 from by omega]
 have e2 : ppow b n = pt b (ppow b (n - 1)) := by
  unfold pt ppow
  rw [← Cnt.pw_succ', show n - 1 + 1 = n from by omega]
 rw [e1, e2, pt_assoc]
theorem p_round' (o b n : Nat) (h : ¬ n % 2 = 1) : pt o (ppow (pt b b) (n / 2)) = pt o (ppow b n) := by
 unfold pt ppow
 rw [Cnt.pw_sq, show 2 * (n / 2) = n from by omega]

@[irreducible] def pq (a : Nat) : Nat := ppow a 2305843009213688669
theorem ret_bool {a b : Bool} (h : a = b) : Ending.returned (.bool a) = .returned (.bool b) := by rw [h]
theorem right_dec (a : Nat) (h0 : 0 < a) (h1 : a < 4611686018427377339) : ((pq a : Int) == 1) = pright a := by
 have e : ((pq a : Int) == 1) = decide (pq a = 1) := by rw [Bool.eq_iff_iff]; simp; omega
 rw [e]
 unfold pright pq
 simp [h0, h1]
/-- A slice of points that reads as a list. -/
def Pts (w : World) (A : Option Addr) (l : List Nat) : Prop := 0 < l.length → ∃ ad, A = some ad ∧ ad.block < w.heap.size ∧ ∀ j, j < l.length → w.cell? (ad.add j) = some (.int .u64 (l.getD j 0 : Nat))
theorem Pts.keep {w w' : World} {A : Option Addr} {l : List Nat} (h : Pts w A l) (hk : Kp w w') : Pts w' A l := by
 intro h0
 obtain ⟨ad, e, hb, hc⟩ := h h0
 refine ⟨ad, e, Nat.lt_of_lt_of_le hb hk.size, fun j hj => ?_⟩
 have hbl : (ad.add j).block = ad.block := by unfold Addr.add; split <;> rfl
 rw [hk.cell (p := ad.add j) (by rw [hbl]; exact hb)]
 exact hc j hj
