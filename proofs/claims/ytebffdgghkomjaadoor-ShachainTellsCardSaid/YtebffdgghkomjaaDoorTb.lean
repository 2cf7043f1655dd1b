/- The table of math/bits that counts noughts: what the row's condition on package variables gives the walks. -/
import Derived.Test.YtebffdgghkomjaaDoorRows
import Derived.Test.YtebffdgghkomjaaDoorSs
import Derived.LaidMore
import Derived.OpenShut
import Derived.Lay
import Derived.SevenTiedAt
import Derived.Stop.Joined
namespace Go.Proofs.YtebffdgghkomjaaDoor
open Go.ChangeShapes Go.WideShapes Go.ChangeAt Go.RowKit Go.Lib Ckp Sx
set_option linter.unusedVariables false
theorem tab_of_laid {W : World} (h : laidMetH Tryd.prog [("math/bits.deBruijn32tab", Rows.laid_math_bits_deBruijn32tab), ("math/bits.deBruijn64tab", Rows.laid_math_bits_deBruijn64tab)] W) : TabAt 1 Lib.deBruijn64tab W := by
 rw [MakeChecks.laidMetH_plain _ _ _ (by kernel_rfl)] at h
 obtain ⟨ps, ⟨g0, t0, cs0, f0, p0, q0, hg0, ht0, hv0, hd0, ⟨g, t, cs, fuel, p, q, hg, ht, hv, hd, _, _⟩, _⟩, _, _⟩ := h
 obtain rfl := Option.some.inj ((show Tryd.prog.globalNamed "math/bits.deBruijn64tab" = some 1 by kernel_rfl).symm.trans hg)
 obtain rfl := Option.some.inj ((show (Tryd.prog.globals[1]?).map (·.type) = some 101 by kernel_rfl).symm.trans ht)
 intro r hr
 obtain ⟨xs, m, _, ex, _, hl, hel⟩ := DataW.trod_array Tryd.underlying101 hd
 have c5 : Tryd.prog.cellsOf 5 = 1 := by kernel_rfl
 have hlen : Lib.deBruijn64tab.length = 64 := by kernel_rfl
 have hE := hel r (by omega)
 rw [c5, Nat.mul_one, List.getElem?_eq_getElem (by omega)] at hE
 obtain ⟨z, e1, e2, _⟩ := DataW.trod_int Tryd.underlying5 hE
 have e3 : (xs.map (·.1)) = Lib.deBruijn64tab.map fun n : Nat => .lit (.int .u8 (n : Int)) := (DataW.agg.inj (Prod.mk.inj ex).1).symm.trans (by kernel_rfl)
 have e4 : (xs.map (·.1))[r]? = (Lib.deBruijn64tab.map fun n : Nat => (DataW.lit (.int .u8 (n : Int)) : DataW Unit))[r]? := by rw [e3]
 rw [List.getElem?_map, List.getElem?_map, List.getElem?_eq_getElem (by omega : r < xs.length), List.getElem?_eq_getElem (by omega : r < Lib.deBruijn64tab.length), e2] at e4
 have hz : z = ((Lib.deBruijn64tab.getD r 0 : Nat) : Int) := by
  simp only [Option.map_some, Option.some.injEq, DataW.lit.injEq, Lit.int.injEq, true_and] at e4
  rw [e4, List.getD, List.getElem?_eq_getElem (by omega : r < Lib.deBruijn64tab.length)]; rfl
 rw [World.var?_cell hg hv r, ← hz]
 have : cs.toList[r]? = some (.int .u8 z) := by
  have h0 : ((cs.toList.drop r).take 1)[0]? = some (.int .u8 z) := by rw [e1]; rfl
  simpa using h0
 simpa using this
theorem amb_of_laid {W : World} (h : laidMetH Tryd.prog [("math/bits.deBruijn32tab", Rows.laid_math_bits_deBruijn32tab), ("math/bits.deBruijn64tab", Rows.laid_math_bits_deBruijn64tab)] W) : AmbW IT W := by
 have T := tab_of_laid h
 refine ⟨T, fun b hb => ?_⟩
 obtain rfl : b = 1 := hb
 have := T 0 (by decide)
 apply Nat.lt_of_not_le
 intro hc
 unfold World.cell? at this
 rw [Array.getElem?_eq_none hc] at this
 cases this
end Go.Proofs.YtebffdgghkomjaaDoor
