/- Contracts of package point: each function computes what Pd says. -/
import Derived.Test.YtebffdgghkomjaaDoorFrom
import Derived.Test.YtebffdgghkomjaaDoorPd
namespace Go.Proofs.YtebffdgghkomjaaDoor
open Go.RowKit Go.Lib Cfd Cpd Ckp
set_option linter.unusedVariables false

@[irreducible] def pq (a : Nat) : Nat := ppow a 2305843009213688669
/-- A slice of points that reads as a list. -/
def Pts (w : World) (A : Option Addr) (l : List Nat) : Prop := 0 < l.length → ∃ ad, A = some ad ∧ ad.block < w.heap.size ∧ ∀ j, j < l.length → w.cell? (ad.add j) = some (.int .u64 (l.getD j 0 : Nat))
theorem Pts.keep {w w' : World} {A : Option Addr} {l : List Nat} (h : Pts w A l) (hk : Kp w w') : Pts w' A l := by
 intro h0
 obtain ⟨ad, e, hb, hc⟩ := h h0
 refine ⟨ad, e, Nat.lt_of_lt_of_le hb hk.size, fun j hj => ?_⟩
 have hbl : (ad.add j).block = ad.block := by unfold Addr.add; split <;> rfl
 rw [hk.cell (p := ad.add j) (by rw [hbl]; exact hb)]
 exact hc j hj
