/- Sheet: what the walks of the laws need (printed by genSh.py; VCs by VcTool). -/
import Derived.Test.YtgekiddgdjeaiaaSh8
import Derived.Test.YtgekiddgdjeaiaaSl3
namespace Go.Proofs.Ytgekiddgdjeaiaa
open Go.RowKit Go.Lib Ckp Cfd Cpd Sx
set_option linter.unusedVariables false
set_option linter.unusedSimpArgs false
set_option maxRecDepth 1000000
def g_saddX (O : OO) (Y : OY) (ds : List Dt) : Option (Bool × List Bool × (List Bool → Post)) := match ds with
 | [.v (.agg ch), .node [.v (.int .i64 no), .v (.int .i64 h0), .v (.int .i64 h1), .structs l, .v (.int .i64 rt)], .v (.agg ⟨[.int .i64 f, .int .i64 i, .int .i64 a, .int .u64 q, .int .i64 e]⟩)] => some (chB ch && Nat.ble l.length 1000 && cnd l && inU q 18446744073709551616 && !(allW 0 1 [f]), [], fun _ => ⟨[.agg [.v (.int .i64 0), .v (.int .i64 0), .v (.int .i64 0), .row 1, .v (.int .i64 0)], .v (.int .i64 1)], [(1, .ro (.structs [.i64, .i64, .i64, .u64, .i64] []))]⟩)
 | _ => none
theorem pspec_weak {I : Sx.Interp} {P : Program} {fn : FuncId} {ps : List Pat} {al : Bool} {g g' : List Dt → Option (Bool × List Bool × (List Bool → Post))} (h : Sx.SpecOK I P fn (pspec ps al g)) (hg : ∀ ds bs F', g' ds = some (true, bs, F') → ∃ F, g ds = some (true, bs, F) ∧ F' bs = F bs) : Sx.SpecOK I P fn (pspec ps al g') := by
 refine ⟨h.enters, fun γ D M args w b hm hD hids hfr hfit => ?_⟩
 obtain ⟨ds, ns, bs, F', hp, hq, hap⟩ : ∃ ds ns bs F', pms M ps args = some (ds, ns) ∧ g' ds = some (true, bs, F') ∧ (apN ns && (!al || frzOk M (readIds ns))) = true := by
  simp only [pspec] at hfit
  split at hfit
  ·rename_i ds ns hp
   split at hfit
   ·rename_i p x h1 h2
    obtain ⟨bs, F'⟩ := x
    subst hfit
    exact ⟨ds, ns, bs, F', hp, h2, h1⟩
   ·cases hfit
  ·cases hfit
 obtain ⟨F, e1, e2⟩ := hg ds bs F' hq
 have eo : (pspec ps al g').out args M b = (pspec ps al g).out args M b := by simp [Sx.Spec.out, pspec, hp, hq, e1, e2]
 rw [eo]
 exact h.calls γ D M args w b hm hD hids hfr (by simp only [pspec, hp, e1, hap])
theorem ok_saddX (I : Sx.Interp) (O : OO) (hO : O = oo) (Y : OY) (hY : Y = yO O) : Sx.SpecOK I Try.prog 12 (pspec [.v, .agg [.v, .v, .v, .roS [.i64, .i64, .i64, .u64, .i64], .v], .v] true (g_saddX O Y)) := by
 refine pspec_weak (ok_sadd I O hO Y hY) fun ds bs F' h => ?_
 unfold g_saddX at h
 split at h
 ·simp only [Option.some.injEq, Prod.mk.injEq, Bool.and_eq_true] at h
  obtain ⟨⟨⟨⟨⟨a1, a2⟩, a3⟩, a4⟩, a5⟩, rfl, rfl⟩ := h
  refine ⟨_, by unfold g_sadd; simp only [a1, a2, a3, a4, Bool.and_self]; rfl, ?_⟩
  rename_i ch no h0 h1 l rt f i a q e
  have hE : addE O (cz ch) no h0 h1 rt l f i a q e = 1 := by
   unfold addE fineO
   have a5 : allW 0 1 [f] = false := by simpa using a5
   rw [a5]
   cases rightO O (cz ch) no h0 h1 rt l <;> rfl
  simp only [hE]
  rfl
 ·cases h
theorem same_self (no h0 h1 rt : Int) (l : List Cnd) : sameB no h0 h1 rt l no h0 h1 rt l = true := by
 have e : ∀ x : Int, iBne x x = false := fun x => by rw [iBne_f]
 have e2 : ∀ x : Int, iBeq x x = true := fun x => by rw [iBeq_t]
 unfold sameB
 rw [e, e, e, e2, e2, decide_eq_true rfl]; rfl
theorem eqv_q (a b x q e r : Int) : eqv (Array.mk [Value.int .i64 a, Value.int .i64 b, Value.int .i64 x, Value.int .u64 q, Value.int .i64 e]) (Array.mk ([Value.int .i64 a, Value.int .i64 b, Value.int .i64 x, Value.int .u64 r, Value.int .i64 e].set 3 (Value.int .u64 q))) = true := by
 show ((a == a) && ((b == b) && ((x == x) && ((q == q) && ((e == e) && true))))) = true
 simp only [beq_self_eq_true, Bool.and_self]
theorem take_cnt (k : Int) {L : List Cnd} {x : Nat} (h : x < L.length) : cntF k (L.take (x + 1)) = cntF k (L.take x) + (if fr (L.getD x []) = k then 1 else 0) := by
 rw [List.take_add_one, List.getElem?_eq_getElem h, getD_at h, cntF_append]
 show _ + cntF k [L[x]] = _
 rw [cntF_cons]; rfl
theorem take_sum (k : Int) {L : List Cnd} {x : Nat} (h : x < L.length) : sumF k (L.take (x + 1)) = sumF k (L.take x) + (if fr (L.getD x []) = k then amt (L.getD x []) else 0) := by
 rw [List.take_add_one, List.getElem?_eq_getElem h, getD_at h, sumF_append]
 show _ + sumF k [L[x]] = _
 rw [sumF_cons, show sumF k [] = 0 from rfl]; omega
theorem take_bd (k : Int) {L : List Cnd} (hc : coinsL L) (x : Nat) (hx : x ≤ 20) : cntF k (L.take x) ≤ 20 ∧ 0 ≤ sumF k (L.take x) ∧ sumF k (L.take x) ≤ 22517998136852480 := by
 have hc' : coinsL (L.take x) := coins_sub hc fun y hy => List.mem_of_mem_take hy
 have h1 := sumF_le k hc'
 have h2 := (sumA_le hc').2
 have h3 : (L.take x).length ≤ x := by rw [List.length_take]; omega
 have h4 : cntF k (L.take x) ≤ (L.take x).length := by unfold cntF; exact List.length_filter_le _ _
 exact ⟨by omega, h1.1, by omega⟩
theorem eqv_00 {a b : Int} (h1 : a = 0) (h2 : b = 0) (z : Int) : eqv (Array.mk ([Value.int .i64 a, Value.int .i64 z].set 1 (Value.int .i64 b))) (Array.mk [Value.int .i64 0, Value.int .i64 0]) = true := by
 subst h1 h2
 rfl
def spS22 (O : OO) (Y : OY) (f : FuncId) : Option Sx.Spec := match f with
 | 12 => some (pspec [.v, .agg [.v, .v, .v, .roS [.i64, .i64, .i64, .u64, .i64], .v], .v] true (g_saddX O Y))
 | f => spS21 O Y f
theorem spS22_ok (I : Sx.Interp) (O : OO) (hO : O = oo) (Y : OY) (hY : Y = yO O) : ∀ f s, spS22 O Y f = some s → Sx.SpecOK I Try.prog f s := by
 intro f s h
 unfold spS22 at h
 split at h
 · cases h; exact ok_saddX I O hO Y hY
 ·exact spS21_ok I O hO Y hY _ s h
end Go.Proofs.Ytgekiddgdjeaiaa
