/- Sheet: small, and what a law calls (printed by genSh.py; VCs by VcTool). -/
import Derived.Test.YtcdmmfelagbpdaaGreatLa
namespace Go.Proofs.YtcdmmfelagbpdaaGreat
open Go.RowKit Go.Lib Ckp Cfd Cpd Sx
set_option linter.unusedVariables false
set_option linter.unusedSimpArgs false
set_option maxRecDepth 1000000
def I0 : Sx.Interp := ⟨fun _ _ _ _ _ => False, fun _ _ _ _ _ _ _ h => h, fun _ => True, fun _ => False, fun _ _ _ h => h⟩
def spS20 (O : OO) (Y : OY) (f : FuncId) : Option Sx.Spec := match f with
 | f => spS19 O Y f
theorem spS20_ok (I : Sx.Interp) (O : OO) (hO : O = oo) (Y : OY) (hY : Y = yO O) : ∀ f s, spS20 O Y f = some s → Sx.SpecOK I Tryz.prog f s := by
 intro f s h
 unfold spS20 at h
 exact spS19_ok I O hO Y hY _ s h

def g_small20 (l : List Value) : Option (Bool × Value) := match l with
 | [] => some (true, .bool true)
 | _ => none
def spS21 (O : OO) (Y : OY) (f : FuncId) : Option Sx.Spec := match f with
 | f => spS20 O Y f
theorem spS21_ok (I : Sx.Interp) (O : OO) (hO : O = oo) (Y : OY) (hY : Y = yO O) : ∀ f s, spS21 O Y f = some s → Sx.SpecOK I Tryz.prog f s := by
 intro f s h
 unfold spS21 at h
 exact spS20_ok I O hO Y hY _ s h
end Go.Proofs.YtcdmmfelagbpdaaGreat
