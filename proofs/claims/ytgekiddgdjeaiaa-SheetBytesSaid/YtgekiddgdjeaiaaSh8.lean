/- Sheet: small, and what a law calls (printed by genSh.py; VCs by VcTool). -/
import Derived.Test.YtgekiddgdjeaiaaLa
namespace Go.Proofs.Ytgekiddgdjeaiaa
open Go.RowKit Go.Lib Ckp Cfd Cpd Sx
set_option linter.unusedVariables false
set_option linter.unusedSimpArgs false
set_option maxRecDepth 1000000
def I0 : Sx.Interp := ⟨fun _ _ _ _ _ => False, fun _ _ _ _ _ _ _ h => h, fun _ => True, fun _ => False, fun _ _ _ h => h⟩
def spS20 (O : OO) (Y : OY) (f : FuncId) : Option Sx.Spec := match f with
 | 16 => some (pspec [.agg [.v, .v, .v, .roS [.i64, .i64, .i64, .u64, .i64], .v], .agg [.v, .v, .v, .roS [.i64, .i64, .i64, .u64, .i64], .v]] false (g_same O Y))
 | 10 => some (pspec [.agg [.v, .v, .v, .roS [.i64, .i64, .i64, .u64, .i64], .v]] false (g_few O Y))
 | 25 => some (Sx.vspec (g_plain O Y))
 | f => spS19 O Y f
theorem spS20_ok (I : Sx.Interp) (O : OO) (hO : O = oo) (Y : OY) (hY : Y = yO O) : ∀ f s, spS20 O Y f = some s → Sx.SpecOK I Try.prog f s := by
 intro f s h
 unfold spS20 at h
 split at h
 · cases h; exact ok_same I O hO Y hY
 · cases h; exact ok_few I O hO Y hY
 · cases h; exact ok_plain I O hO Y hY
 ·exact spS19_ok I O hO Y hY _ s h
def g_small20 (l : List Value) : Option (Bool × Value) := match l with
 | [] => some (true, .bool true)
 | _ => none
theorem small20_calls (w : World) : Calls Try.prog 9 (List.toArray []) w fun e w' => e = .returned (.bool true) ∧ Fr (fun _ => False) w w' :=
 calls_real (I := I0) (spS20_ok I0 oo rfl (yO oo) rfl) (by kernel_rfl) [] Try.func9 (by kernel_rfl) rfl Try.ntmps9 (by decide) (Eq.mpr (by kernel_rfl : _ = (Value.bool true = Value.bool true)) rfl) w
theorem ok_small20 (I : Sx.Interp) : Sx.SpecOK I Try.prog 9 (Sx.vspec g_small20) := by
 refine Sx.spec_of_calls Try.func9 (by kernel_rfl) (by kernel_rfl) ?_
 intro l v hg w
 unfold g_small20 at hg
 split at hg
 ·simp only [Option.some.injEq, Prod.mk.injEq, true_and] at hg
  subst hg
  exact small20_calls w
 ·cases hg
def spS21 (O : OO) (Y : OY) (f : FuncId) : Option Sx.Spec := match f with
 | 9 => some (Sx.vspec g_small20)
 | f => spS20 O Y f
theorem spS21_ok (I : Sx.Interp) (O : OO) (hO : O = oo) (Y : OY) (hY : Y = yO O) : ∀ f s, spS21 O Y f = some s → Sx.SpecOK I Try.prog f s := by
 intro f s h
 unfold spS21 at h
 split at h
 · cases h; exact ok_small20 I
 ·exact spS20_ok I O hO Y hY _ s h
end Go.Proofs.Ytgekiddgdjeaiaa
