/- Sheet's changes, parted by whether they go well (printed by genHe0.py). -/
import Derived.Test.YtcdmmfelagbpdaaGreatMd
import Derived.Test.YtcdmmfelagbpdaaGreatSl2
namespace Go.Proofs.YtcdmmfelagbpdaaGreat
open Go.RowKit Go.Lib Ckp Cfd Cpd Sx
set_option linter.unusedVariables false
set_option linter.unusedSimpArgs false
set_option maxRecDepth 1000000
theorem pspec_parted {I : Sx.Interp} {P : Program} {fn : FuncId} {ps : List Pat} {al : Bool} {g g' : List Dt → Option (Bool × List Bool × (List Bool → Post))} (h : Sx.SpecOK I P fn (pspec ps al g)) (hg : ∀ ds bs F', g' ds = some (true, bs, F') → ∃ b0 F, g ds = some (true, b0, F) ∧ F' bs = F b0) : Sx.SpecOK I P fn (pspec ps al g') := by
 refine ⟨h.enters, fun γ D M args w b hm hD hids hfr hamb hfit => ?_⟩
 obtain ⟨ds, ns, bs, F', hp, hq, hap⟩ : ∃ ds ns bs F', pms M ps args = some (ds, ns) ∧ g' ds = some (true, bs, F') ∧ (apN ns && (!al || frzOk M (readIds ns))) = true := by
  simp only [pspec] at hfit
  split at hfit
  ·rename_i ds ns hp
   split at hfit
   ·rename_i p x h1 h2
    obtain ⟨bs, F'⟩ := x
    subst hfit
    exact ⟨ds, ns, bs, F', hp, h2, h1⟩
   ·cases hfit
  ·cases hfit
 obtain ⟨b0, F, e1, e2⟩ := hg ds bs F' hq
 have eo : (pspec ps al g').out args M b = (pspec ps al g).out args M b := by simp [Sx.Spec.out, pspec, hp, hq, e1, e2]
 rw [eo]
 exact h.calls γ D M args w b hm hD hids hfr hamb (by simp only [pspec, hp, e1, hap])
theorem cond_nn {b : Bool} {x y : Int} (h : 0 ≤ x) (k : 0 ≤ y) : 0 ≤ (bif b then x else y) := by cases b <;> assumption
def p_saddS (O : OO) (ch : Array Value) (no h0 h1 rt : Int) (l : List (List Int)) (f i a q e : Int) (bs : List Bool) : Post := match bs with
 | [true] => ⟨[.agg [.v (.int .i64 no), .v (.int .i64 (hsub f h0 a 0)), .v (.int .i64 (hsub f h1 a 1)), .row 1, .v (.int .i64 rt)], .v (.int .i64 0)], [(1, .ro (.structs [.i64, .i64, .i64, .u64, .i64] (insC [f, i, a, q, e] l)))]⟩
 | _ => ⟨[.agg [.v (.int .i64 0), .v (.int .i64 0), .v (.int .i64 0), .row 1, .v (.int .i64 0)], .v (.int .i64 (.ofNat ((addE O (cz ch) no h0 h1 rt l f i a q e).toNat - 1 + 1)))], [(1, .ro (.structs [.i64, .i64, .i64, .u64, .i64] []))]⟩
def g_saddS (O : OO) (Y : OY) (ds : List Dt) : Option (Bool × List Bool × (List Bool → Post)) := match ds with
 | [.v (.agg ch), .node [.v (.int .i64 no), .v (.int .i64 h0), .v (.int .i64 h1), .structs l, .v (.int .i64 rt)], .v (.agg ⟨[.int .i64 f, .int .i64 i, .int .i64 a, .int .u64 q, .int .i64 e]⟩)] => some ((chB ch) && (Nat.ble l.length 1000) && (cnd l) && (inU q 18446744073709551616), [iBeq (addE O (cz ch) no h0 h1 rt l f i a q e) 0], p_saddS O ch no h0 h1 rt l f i a q e)
 | _ => none
theorem ok_saddS (I : Sx.Interp) (O : OO) (hO : O = oo) (Y : OY) (hY : Y = yO O) : Sx.SpecOK I Tryz.prog 10 (pspec [.v, .agg [.v, .v, .v, .roS [.i64, .i64, .i64, .u64, .i64], .v], .v] true (g_saddS O Y)) := by
 refine pspec_parted (ok_sadd I O hO Y hY) fun ds bs F' h => ?_
 unfold g_saddS at h
 split at h
 ·rename_i ch no h0 h1 l rt f i a q e
  simp only [Option.some.injEq, Prod.mk.injEq, Bool.and_eq_true] at h
  obtain ⟨⟨⟨⟨hc, g0⟩, g1⟩, g2⟩, rfl, rfl⟩ := h
  refine ⟨[], _, by unfold g_sadd; simp only [hc, g0, g1, g2, Bool.and_self]; rfl, ?_⟩
  unfold p_saddS
  have ez : ∀ b : Bool, iBeq (addE O (cz ch) no h0 h1 rt l f i a q e) 0 = b → iBeq (addE O (cz ch) no h0 h1 rt l f i a q e) 0 = true ∧ addE O (cz ch) no h0 h1 rt l f i a q e = 0 ∨ iBeq (addE O (cz ch) no h0 h1 rt l f i a q e) 0 = false := fun b hb => by
   cases b with
   | true => exact .inl ⟨hb, by simpa only [Sx.Bz, Sx.Cont.n] using hb⟩
   | false => exact .inr hb
  rcases ez _ rfl with ⟨y1, y2⟩ | y1
  ·simp only [y1, y2, cond_true]
   rfl
  ·have y3 : Int.ofNat ((addE O (cz ch) no h0 h1 rt l f i a q e).toNat - 1 + 1) = addE O (cz ch) no h0 h1 rt l f i a q e := by
    have y4 : 0 ≤ addE O (cz ch) no h0 h1 rt l f i a q e := by
     unfold addE
     repeat first | (exact (by decide)) | refine cond_nn ?_ ?_
    have y5 : addE O (cz ch) no h0 h1 rt l f i a q e ≠ 0 := by simpa only [Sx.Bz, Sx.Cont.n] using y1
    show ((((addE O (cz ch) no h0 h1 rt l f i a q e).toNat - 1 + 1 : Nat)) : Int) = _
    omega
   simp only [y1, y3, cond_false]
 ·cases h
def p_ssetS (O : OO) (ch : Array Value) (no h0 h1 rt : Int) (l : List (List Int)) (fr id k : Int) (bs : List Bool) : Post := match bs with
 | [true] => ⟨[.agg [.v (.int .i64 no), .v (.int .i64 (hadd fr h0 (findC fr id l 2) 1)), .v (.int .i64 (hadd fr h1 (findC fr id l 2) 0)), .row 1, .v (.int .i64 rt)], .v (.int .i64 0)], [(1, .ro (.structs [.i64, .i64, .i64, .u64, .i64] (remC [findC fr id l 0, findC fr id l 1, findC fr id l 2, findC fr id l 3, findC fr id l 4] l)))]⟩
 | _ => ⟨[.agg [.v (.int .i64 0), .v (.int .i64 0), .v (.int .i64 0), .row 1, .v (.int .i64 0)], .v (.int .i64 (.ofNat ((setE O (cz ch) no h0 h1 rt l fr id k).toNat - 1 + 1)))], [(1, .ro (.structs [.i64, .i64, .i64, .u64, .i64] []))]⟩
def g_ssetS (O : OO) (Y : OY) (ds : List Dt) : Option (Bool × List Bool × (List Bool → Post)) := match ds with
 | [.v (.agg ch), .node [.v (.int .i64 no), .v (.int .i64 h0), .v (.int .i64 h1), .structs l, .v (.int .i64 rt)], .v (.int .i64 fr), .v (.int .i64 id), .v (.int .u64 k)] => some ((chB ch) && (Nat.ble l.length 1000) && (cnd l) && (inU k 18446744073709551616), [iBeq (setE O (cz ch) no h0 h1 rt l fr id k) 0], p_ssetS O ch no h0 h1 rt l fr id k)
 | _ => none
theorem ok_ssetS (I : Sx.Interp) (O : OO) (hO : O = oo) (Y : OY) (hY : Y = yO O) : Sx.SpecOK I Tryz.prog 12 (pspec [.v, .agg [.v, .v, .v, .roS [.i64, .i64, .i64, .u64, .i64], .v], .v, .v, .v] true (g_ssetS O Y)) := by
 refine pspec_parted (ok_sset I O hO Y hY) fun ds bs F' h => ?_
 unfold g_ssetS at h
 split at h
 ·rename_i ch no h0 h1 l rt fr id k
  simp only [Option.some.injEq, Prod.mk.injEq, Bool.and_eq_true] at h
  obtain ⟨⟨⟨⟨hc, g0⟩, g1⟩, g2⟩, rfl, rfl⟩ := h
  refine ⟨[], _, by unfold g_sset; simp only [hc, g0, g1, g2, Bool.and_self]; rfl, ?_⟩
  unfold p_ssetS
  have ez : ∀ b : Bool, iBeq (setE O (cz ch) no h0 h1 rt l fr id k) 0 = b → iBeq (setE O (cz ch) no h0 h1 rt l fr id k) 0 = true ∧ setE O (cz ch) no h0 h1 rt l fr id k = 0 ∨ iBeq (setE O (cz ch) no h0 h1 rt l fr id k) 0 = false := fun b hb => by
   cases b with
   | true => exact .inl ⟨hb, by simpa only [Sx.Bz, Sx.Cont.n] using hb⟩
   | false => exact .inr hb
  rcases ez _ rfl with ⟨y1, y2⟩ | y1
  ·simp only [y1, y2, cond_true]
   rfl
  ·have y3 : Int.ofNat ((setE O (cz ch) no h0 h1 rt l fr id k).toNat - 1 + 1) = setE O (cz ch) no h0 h1 rt l fr id k := by
    have y4 : 0 ≤ setE O (cz ch) no h0 h1 rt l fr id k := by
     unfold setE
     repeat first | (exact (by decide)) | refine cond_nn ?_ ?_
    have y5 : setE O (cz ch) no h0 h1 rt l fr id k ≠ 0 := by simpa only [Sx.Bz, Sx.Cont.n] using y1
    show ((((setE O (cz ch) no h0 h1 rt l fr id k).toNat - 1 + 1 : Nat)) : Int) = _
    omega
   simp only [y1, y3, cond_false]
 ·cases h
def p_sfailS (O : OO) (ch : Array Value) (no h0 h1 rt : Int) (l : List (List Int)) (fr id : Int) (bs : List Bool) : Post := match bs with
 | [true] => ⟨[.agg [.v (.int .i64 no), .v (.int .i64 (hadd fr h0 (findC fr id l 2) 0)), .v (.int .i64 (hadd fr h1 (findC fr id l 2) 1)), .row 1, .v (.int .i64 rt)], .v (.int .i64 0)], [(1, .ro (.structs [.i64, .i64, .i64, .u64, .i64] (remC [findC fr id l 0, findC fr id l 1, findC fr id l 2, findC fr id l 3, findC fr id l 4] l)))]⟩
 | _ => ⟨[.agg [.v (.int .i64 0), .v (.int .i64 0), .v (.int .i64 0), .row 1, .v (.int .i64 0)], .v (.int .i64 (.ofNat ((failE O (cz ch) no h0 h1 rt l fr id).toNat - 1 + 1)))], [(1, .ro (.structs [.i64, .i64, .i64, .u64, .i64] []))]⟩
def g_sfailS (O : OO) (Y : OY) (ds : List Dt) : Option (Bool × List Bool × (List Bool → Post)) := match ds with
 | [.v (.agg ch), .node [.v (.int .i64 no), .v (.int .i64 h0), .v (.int .i64 h1), .structs l, .v (.int .i64 rt)], .v (.int .i64 fr), .v (.int .i64 id)] => some ((chB ch) && (Nat.ble l.length 1000) && (cnd l), [iBeq (failE O (cz ch) no h0 h1 rt l fr id) 0], p_sfailS O ch no h0 h1 rt l fr id)
 | _ => none
theorem ok_sfailS (I : Sx.Interp) (O : OO) (hO : O = oo) (Y : OY) (hY : Y = yO O) : Sx.SpecOK I Tryz.prog 14 (pspec [.v, .agg [.v, .v, .v, .roS [.i64, .i64, .i64, .u64, .i64], .v], .v, .v] true (g_sfailS O Y)) := by
 refine pspec_parted (ok_sfail I O hO Y hY) fun ds bs F' h => ?_
 unfold g_sfailS at h
 split at h
 ·rename_i ch no h0 h1 l rt fr id
  simp only [Option.some.injEq, Prod.mk.injEq, Bool.and_eq_true] at h
  obtain ⟨⟨⟨hc, g0⟩, g1⟩, rfl, rfl⟩ := h
  refine ⟨[], _, by unfold g_sfail; simp only [hc, g0, g1, Bool.and_self]; rfl, ?_⟩
  unfold p_sfailS
  have ez : ∀ b : Bool, iBeq (failE O (cz ch) no h0 h1 rt l fr id) 0 = b → iBeq (failE O (cz ch) no h0 h1 rt l fr id) 0 = true ∧ failE O (cz ch) no h0 h1 rt l fr id = 0 ∨ iBeq (failE O (cz ch) no h0 h1 rt l fr id) 0 = false := fun b hb => by
   cases b with
   | true => exact .inl ⟨hb, by simpa only [Sx.Bz, Sx.Cont.n] using hb⟩
   | false => exact .inr hb
  rcases ez _ rfl with ⟨y1, y2⟩ | y1
  ·simp only [y1, y2, cond_true]
   rfl
  ·have y3 : Int.ofNat ((failE O (cz ch) no h0 h1 rt l fr id).toNat - 1 + 1) = failE O (cz ch) no h0 h1 rt l fr id := by
    have y4 : 0 ≤ failE O (cz ch) no h0 h1 rt l fr id := by
     unfold failE
     repeat first | (exact (by decide)) | refine cond_nn ?_ ?_
    have y5 : failE O (cz ch) no h0 h1 rt l fr id ≠ 0 := by simpa only [Sx.Bz, Sx.Cont.n] using y1
    show ((((failE O (cz ch) no h0 h1 rt l fr id).toNat - 1 + 1 : Nat)) : Int) = _
    omega
   simp only [y1, y3, cond_false]
 ·cases h
def spHe0 (O : OO) (Y : OY) (f : FuncId) : Option Sx.Spec := match f with
 | 10 => some (pspec [.v, .agg [.v, .v, .v, .roS [.i64, .i64, .i64, .u64, .i64], .v], .v] true (g_saddS O Y))
 | 12 => some (pspec [.v, .agg [.v, .v, .v, .roS [.i64, .i64, .i64, .u64, .i64], .v], .v, .v, .v] true (g_ssetS O Y))
 | 14 => some (pspec [.v, .agg [.v, .v, .v, .roS [.i64, .i64, .i64, .u64, .i64], .v], .v, .v] true (g_sfailS O Y))
 | f => spMd O Y f
theorem spHe0_ok (I : Sx.Interp) (O : OO) (hO : O = oo) (Y : OY) (hY : Y = yO O) : ∀ f s, spHe0 O Y f = some s → Sx.SpecOK I Tryz.prog f s := by
 intro f s h
 unfold spHe0 at h
 split at h
 · cases h; exact ok_saddS I O hO Y hY
 · cases h; exact ok_ssetS I O hO Y hY
 · cases h; exact ok_sfailS I O hO Y hY
 ·exact spMd_ok I O hO Y hY _ s h
end Go.Proofs.YtcdmmfelagbpdaaGreat
