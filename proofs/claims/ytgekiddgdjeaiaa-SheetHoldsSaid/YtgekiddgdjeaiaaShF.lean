/- Sheet: an act's contract, with a result of one of two shapes (printed by genSh.py; VCs by VcTool). -/
import Derived.Test.YtgekiddgdjeaiaaSh9
namespace Go.Proofs.Ytgekiddgdjeaiaa
open Go.RowKit Go.Lib Ckp Cfd Cpd Sx
set_option linter.unusedVariables false
set_option linter.unusedSimpArgs false
set_option maxRecDepth 1000000
def p_dones (O : OO) (Y : OY) (ch : Array Value) (no h0 h1 rt : Int) (l : List (List Int)) (d f i a q e k r : Int) (bs : List Bool) : Post := match bs with
 | [true] => ⟨[.agg [.v (.int .i64 no), .v (.int .i64 (dH0 h0 l d f i a)), .v (.int .i64 (dH1 h1 l d f i a)), .row 1, .v (.int .i64 (dRt rt d r))], .v (.int .i64 0)], [(1, .ro (.structs [.i64, .i64, .i64, .u64, .i64] (dL l d f i a q e)))]⟩
 | _ => ⟨[.agg [.v (.int .i64 0), .v (.int .i64 0), .v (.int .i64 0), .row 1, .v (.int .i64 0)], .v (.int .i64 (dE O (cz ch) no h0 h1 rt l d f i a q e k r))], [(1, .ro (.structs [.i64, .i64, .i64, .u64, .i64] []))]⟩
def g_dones (O : OO) (Y : OY) (ds : List Dt) : Option (Bool × List Bool × (List Bool → Post)) := match ds with
 | [.v (.agg ch), .node [.v (.int .i64 no), .v (.int .i64 h0), .v (.int .i64 h1), .structs l, .v (.int .i64 rt)], .v (.agg ⟨[.int .i64 d, .int .i64 f, .int .i64 i, .int .i64 a, .int .u64 q, .int .i64 e, .int .u64 k, .int .i64 r]⟩)] => some ((chB ch) && (Nat.ble l.length 1000) && (cnd l) && (inU q 18446744073709551616) && (inU k 18446744073709551616), [iBeq (dE O (cz ch) no h0 h1 rt l d f i a q e k r) 0], p_dones O Y ch no h0 h1 rt l d f i a q e k r)
 | _ => none
theorem pspec_sel {I : Sx.Interp} {P : Program} {fn : FuncId} {ps : List Pat} {al : Bool} {g g' : List Dt → Option (Bool × List Bool × (List Bool → Post))} (h : Sx.SpecOK I P fn (pspec ps al g)) (hg : ∀ ds bs F', g' ds = some (true, bs, F') → ∃ bs0 F, g ds = some (true, bs0, F) ∧ F' bs = F bs0) : Sx.SpecOK I P fn (pspec ps al g') := by
 refine ⟨h.enters, fun γ D M args w b hm hD hids hfr hfit => ?_⟩
 obtain ⟨ds, ns, bs, F', hp, hq, hap⟩ : ∃ ds ns bs F', pms M ps args = some (ds, ns) ∧ g' ds = some (true, bs, F') ∧ (apN ns && (!al || frzOk M (readIds ns))) = true := by
  simp only [pspec] at hfit
  split at hfit
  ·rename_i ds ns hp
   split at hfit
   ·rename_i p x h1 h2
    obtain ⟨bs, F'⟩ := x
    subst hfit
    exact ⟨ds, ns, bs, F', hp, h2, h1⟩
   ·cases hfit
  ·cases hfit
 obtain ⟨bs0, F, e1, e2⟩ := hg ds bs F' hq
 have eo : (pspec ps al g').out args M b = (pspec ps al g).out args M b := by simp [Sx.Spec.out, pspec, hp, hq, e1, e2]
 rw [eo]
 exact h.calls γ D M args w b hm hD hids hfr (by simp only [pspec, hp, e1, hap])
theorem ok_dones (I : Sx.Interp) (O : OO) (hO : O = oo) (Y : OY) (hY : Y = yO O) : Sx.SpecOK I Try.prog 19 (pspec [.v, .agg [.v, .v, .v, .roS [.i64, .i64, .i64, .u64, .i64], .v], .v] true (g_dones O Y)) := by
 refine pspec_sel (ok_done I O hO Y hY) fun ds bs F' h => ?_
 unfold g_dones at h
 split at h
 ·simp only [Option.some.injEq, Prod.mk.injEq, Bool.and_eq_true] at h
  obtain ⟨⟨⟨⟨⟨a1, a2⟩, a3⟩, a4⟩, a5⟩, rfl, rfl⟩ := h
  refine ⟨_, _, by unfold g_done; simp only [a1, a2, a3, a4, a5, Bool.and_self]; rfl, ?_⟩
  rename_i ch no h0 h1 l rt d f i a q e k r
  cases hb : iBeq (dE O (cz ch) no h0 h1 rt l d f i a q e k r) 0 with
  | true =>
   have hE : dE O (cz ch) no h0 h1 rt l d f i a q e k r = 0 := by rw [iBeq_t] at hb; exact hb
   simp only [hE, cond_true]
   rfl
  | false =>
   simp only [cond_false]
   rfl
 ·cases h
def spS23 (O : OO) (Y : OY) (f : FuncId) : Option Sx.Spec := match f with
 | 19 => some (pspec [.v, .agg [.v, .v, .v, .roS [.i64, .i64, .i64, .u64, .i64], .v], .v] true (g_dones O Y))
 | f => spS21 O Y f
theorem spS23_ok (I : Sx.Interp) (O : OO) (hO : O = oo) (Y : OY) (hY : Y = yO O) : ∀ f s, spS23 O Y f = some s → Sx.SpecOK I Try.prog f s := by
 intro f s h
 unfold spS23 at h
 split at h
 · cases h; exact ok_dones I O hO Y hY
 ·exact spS21_ok I O hO Y hY _ s h
end Go.Proofs.Ytgekiddgdjeaiaa
