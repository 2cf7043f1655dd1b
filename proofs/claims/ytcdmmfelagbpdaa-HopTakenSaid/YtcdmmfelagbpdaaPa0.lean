/- Pay: what its contracts lean on (printed by genpa0.py): sums, tags, scalars, points. -/
import Derived.Test.YtcdmmfelagbpdaaSg2
namespace Go.Proofs.Ytcdmmfelagbpdaa
open Go.RowKit Go.Lib Ckp Cfd Cpd Sx
set_option linter.unusedVariables false
set_option linter.unusedSimpArgs false
set_option maxRecDepth 1000000
structure OY where
 fac : ByteArray → Int → Int → Int
 cs : Int → Array Value → Nat → Int
def yO (O : OO) : OY := ⟨fun _ _ _ => 0, fun _ _ _ => 0⟩
def spY2 (O : OO) (Y : OY) (f : FuncId) : Option Sx.Spec := match f with
 | 93 => some (gspec [.ro .u8] (g_sumO O))
 | f => spZ0 O (zO O) f
theorem spY2_ok (I : Sx.Interp) (O : OO) (hO : O = oo) (Y : OY) (hY : Y = yO O) : ∀ f s, spY2 O Y f = some s → Sx.SpecOK I Try.prog f s := by
 intro f s h
 unfold spY2 at h
 split at h
 · cases h; exact ok_hSum I O hO
 ·exact spZ0_ok I O hO (zO O) rfl _ s h
end Go.Proofs.Ytcdmmfelagbpdaa
