/- Sheet: cost, worth, what is found (printed by genSh.py; VCs by VcTool). -/
import Derived.Test.YtcdmmfelagbpdaaGreatSh2
namespace Go.Proofs.YtcdmmfelagbpdaaGreat
open Go.RowKit Go.Lib Ckp Cfd Cpd Sx
set_option linter.unusedVariables false
set_option linter.unusedSimpArgs false
set_option maxRecDepth 1000000
def costO (rt n : Int) : Int := IntKind.i64.wrap (feeT rt n + 660)
def haveO (h0 h1 side : Int) : Int := bif iBeq side 0 then h0 else h1
def matchF (f i : Int) (x : List Int) : Bool := bif iBeq (x.getD 0 0) f then iBeq (x.getD 1 0) i else false
def idxS (p : List Int → Bool) (l : List (List Int)) : Int := match l.findIdx? p with
 | some i => (i : Int)
 | none => -1
def findC (f i : Int) (l : List (List Int)) (j : Nat) : Int := bif iLt (idxS (matchF f i) l) 0 then 0 else (l.getD (idxS (matchF f i) l).toNat []).getD j 0
theorem idxS_here {p : List Int → Bool} {l : List (List Int)} {x : Nat} (hx : x < l.length) (hb : ∀ k, k < x → p (l.getD k []) = false) (h : p (l.getD x []) = true) : idxS p l = (x : Int) := by
 have e : l.findIdx? p = some x := by
  rw [List.findIdx?_eq_some_iff_getElem]
  refine ⟨hx, ?_, fun j hj => ?_⟩
  ·rw [List.getD_eq_getElem?_getD, List.getElem?_eq_getElem hx] at h; exact h
  ·have := hb j hj
   rw [List.getD_eq_getElem?_getD, List.getElem?_eq_getElem (by omega)] at this
   simpa using this
 unfold idxS
 rw [e]
theorem idxS_none {p : List Int → Bool} {l : List (List Int)} (hb : ∀ k, k < l.length → p (l.getD k []) = false) : idxS p l = -1 := by
 have e : l.findIdx? p = none := by
  rw [List.findIdx?_eq_none_iff]
  intro x hx
  obtain ⟨k, hk, rfl⟩ := List.getElem_of_mem hx
  have := hb k hk
  rw [List.getD_eq_getElem?_getD, List.getElem?_eq_getElem hk] at this
  exact this
 unfold idxS
 rw [e]
theorem idxS_lt (p : List Int → Bool) (l : List (List Int)) : idxS p l < (l.length : Int) ∧ (iLt (idxS p l) 0 = false → (idxS p l).toNat < l.length ∧ 0 ≤ idxS p l) := by
 unfold idxS
 cases h : l.findIdx? p with
 | none => exact ⟨by simp only; omega, fun h => by simp only [Sx.Bz, Sx.Cont.n] at h; omega⟩
 | some i =>
  rw [List.findIdx?_eq_some_iff_getElem] at h
  obtain ⟨hi, _⟩ := h
  exact ⟨by simp only; omega, fun _ => by simp only [Int.toNat_natCast]; omega⟩
theorem have0 {h0 h1 side : Int} (e : iEq side (iOf 0) = true) : haveO h0 h1 side = h0 := by
 have : side = 0 := of_decide_eq_true e
 subst this
 rfl
theorem have1 {h0 h1 side : Int} (e : iEq side (iOf (nAdd 0 1)) = true) : haveO h0 h1 side = h1 := by
 have : side = 1 := of_decide_eq_true e
 subst this
 rfl
theorem side01 {side : Int} (h : allW 0 1 [side] = true) (e : iEq side (iOf 0) = false) : iEq side (iOf (nAdd 0 1)) = true := by
 unfold allW outB at h
 simp only [List.all_cons, List.all_nil, Bool.and_true] at h
 have e' : ¬ side = 0 := of_decide_eq_false e
 refine decide_eq_true ?_
 show side = 1
 cases a : iLt side 0 with
 | true => rw [a] at h; cases h
 | false =>
  rw [a] at h
  cases b : iLt 1 side with
  | true => rw [b] at h; cases h
  | false => simp only [Sx.Bz, Sx.Cont.n] at a b; omega
def spS10 (O : OO) (Y : OY) (f : FuncId) : Option Sx.Spec := match f with
 | 32 => some (pspec [.agg [.v, .v, .v, .roS [.i64, .i64, .i64, .u64, .i64], .v], .v] false (g_offered O Y))
 | 61 => some (pspec [.agg [.v, .v, .v, .roS [.i64, .i64, .i64, .u64, .i64], .v]] false (g_total O Y))
 | 59 => some (pspec [.v] false (g_fit O Y))
 | f => spS9 O Y f
theorem spS10_ok (I : Sx.Interp) (O : OO) (hO : O = oo) (Y : OY) (hY : Y = yO O) : ∀ f s, spS10 O Y f = some s → Sx.SpecOK I Tryz.prog f s := by
 intro f s h
 unfold spS10 at h
 split at h
 · cases h; exact ok_offered I O hO Y hY
 · cases h; exact ok_total I O hO Y hY
 · cases h; exact ok_fit I O hO Y hY
 ·exact spS9_ok I O hO Y hY _ s h
def g_cost (O : OO) (Y : OY) (ds : List Dt) : Option (Bool × List Bool × (List Bool → Post)) := match ds with
 | [.v (.agg ch), .node [.v (.int .i64 no), .v (.int .i64 h0), .v (.int .i64 h1), .structs l, .v (.int .i64 rt)]] => some ((chB ch) && (Nat.ble l.length 1000), [], fun _ => ⟨[.v (.int .i64 (costO rt l.length))], []⟩)
 | _ => none
set_option maxHeartbeats 4000000 in
theorem vc_cost (O : OO) (Y : OY) (c : Nat → Int) (no h0 h1 rt : Int) (l : List (List Int)) (F : FO O) (hy : Y = yO O) (hc : chB (chA c) = true) (g0 : Nat.ble l.length 1000 = true) :
 Value.int .i64 (IntKind.i64.wrap (iAdd (feeT rt (iOf l.length)) 660)) = Value.int .i64 (costO rt (iOf l.length)) ∧ True ∧ True := by
 exact ⟨rfl, trivial, trivial⟩
theorem wpc_cost (O : OO) (Y : OY) (c : Nat → Int) (no h0 h1 rt : Int) (l : List (List Int)) (F : FO O) (hy : Y = yO O) (hc : chB (chA c) = true) (g0 : Nat.ble l.length 1000 = true) : wpcI Tryz.prog (spS10 O Y) Tryz.f62.ntmps [] (bodyOf Tryz.f62) 0 64 (envP (mks [.v, .agg [.v, .v, .v, .roS [.i64, .i64, .i64, .u64, .i64], .v]] [.v (.agg (chA c)), .node [.v (.int .i64 no), .v (.int .i64 h0), .v (.int .i64 h1), .structs l, .v (.int .i64 rt)]] 0).1 0) (mks [.v, .agg [.v, .v, .v, .roS [.i64, .i64, .i64, .u64, .i64], .v]] [.v (.agg (chA c)), .node [.v (.int .i64 no), .v (.int .i64 h0), .v (.int .i64 h1), .structs l, .v (.int .i64 rt)]] 0).2 (retP Tryz.prog Tryz.f62.results.toList 1 (⟨[.v (.int .i64 (costO rt l.length))], []⟩ : Post)) :=
 Eq.mpr (by kernel_rfl) (vc_cost O Y c no h0 h1 rt l F hy hc g0)
theorem ok_cost (I : Sx.Interp) (O : OO) (hO : O = oo) (Y : OY) (hY : Y = yO O) : Sx.SpecOK I Tryz.prog 62 (pspec [.v, .agg [.v, .v, .v, .roS [.i64, .i64, .i64, .u64, .i64], .v]] false (g_cost O Y)) := by
 refine spec_patI (spS10_ok I O hO Y hY) (by kernel_rfl) (fun ds => match ds with | [.v (.agg ch), .node [.v (.int .i64 no), .v (.int .i64 h0), .v (.int .i64 h1), .structs l, .v (.int .i64 rt)]] => [] | _ => []) Tryz.func62 (by kernel_rfl) (by kernel_rfl) rfl Tryz.ntmps62 (by decide) ?_ ?_
 ·intro ds p bs F h
  unfold g_cost at h
  split at h
  ·simp only [Option.some.injEq, Prod.mk.injEq] at h
   obtain ⟨_, _, rfl⟩ := h
   kernel_rfl
  ·cases h
 ·intro ds bs F hl h
  unfold g_cost at h
  split at h
  ·rename_i ch no h0 h1 l rt
   simp only [Option.some.injEq, Prod.mk.injEq, Bool.and_eq_true] at h
   obtain ⟨⟨hc, g0⟩, _, rfl⟩ := h
   obtain ⟨c, ec, rfl⟩ : ∃ c, cz ch = c ∧ ch = chA c := ⟨_, rfl, chB_eq hc⟩
   simp only [ec]
   exact wpc_cost O Y c no h0 h1 rt l (fo_oo O hO) hY hc g0
  ·cases h
def g_worth (O : OO) (Y : OY) (ds : List Dt) : Option (Bool × List Bool × (List Bool → Post)) := match ds with
 | [.node [.v (.int .i64 no), .v (.int .i64 h0), .v (.int .i64 h1), .structs l, .v (.int .i64 rt)], .v (.int .i64 side)] => some ((Nat.ble l.length 1000), [], fun _ => ⟨[.v (.int .i64 (bif !(allW 0 1 [side]) then 0 else IntKind.i64.wrap (haveO h0 h1 side + offM (IntKind.i64.wrap (1 - side)) l)))], []⟩)
 | _ => none
set_option maxHeartbeats 4000000 in
theorem vc_worth (O : OO) (Y : OY) (no h0 h1 rt : Int) (l : List (List Int)) (side : Int) (F : FO O) (hy : Y = yO O) (g0 : Nat.ble l.length 1000 = true) :
 If (!allW 0 1 [side]) (Value.int .i64 0 = Value.int .i64 (bif !allW 0 1 [side] then 0 else IntKind.i64.wrap (iAdd (haveO h0 h1 side) (offM (IntKind.i64.wrap (iSub 1 side)) l))) ∧
  True ∧ True) (If (l.length.ble 1000) (If (iEq side (iOf 0)) (Value.int .i64 (IntKind.i64.wrap (iAdd h0 (offM (IntKind.i64.wrap (iSub 1 side)) l))) = Value.int .i64 (bif !allW 0 1
  [side] then 0 else IntKind.i64.wrap (iAdd (haveO h0 h1 side) (offM (IntKind.i64.wrap (iSub 1 side)) l))) ∧ True ∧ True) (If (iEq side (iOf (nAdd 0 1))) (Value.int .i64
  (IntKind.i64.wrap (iAdd h1 (offM (IntKind.i64.wrap (iSub 1 side)) l))) = Value.int .i64 (bif !allW 0 1 [side] then 0 else IntKind.i64.wrap (iAdd (haveO h0 h1 side) (offM
  (IntKind.i64.wrap (iSub 1 side)) l))) ∧ True ∧ True) False)) False) := by
 refine Sx.if_both (fun h => ⟨by rw [h]; rfl, (by first | rfl | trivial)⟩) (fun h => Sx.if_true g0 (Sx.if_both (fun e => ⟨by rw [h, have0 e]; rfl, (by first | rfl | trivial)⟩) (fun e => Sx.if_true (side01 (by cases a : allW 0 1 [side] with
  | true => rfl
  | false => rw [a] at h; cases h) e) ?_)))
 have e1 := side01 (side := side) (by cases a : allW 0 1 [side] with
  | true => rfl
  | false => rw [a] at h; cases h) e
 exact ⟨by rw [h, have1 e1]; rfl, (by first | rfl | trivial)⟩
theorem wpc_worth (O : OO) (Y : OY) (no h0 h1 rt : Int) (l : List (List Int)) (side : Int) (F : FO O) (hy : Y = yO O) (g0 : Nat.ble l.length 1000 = true) : wpcI Tryz.prog (spS10 O Y) Tryz.f11.ntmps [] (bodyOf Tryz.f11) 0 64 (envP (mks [.agg [.v, .v, .v, .roS [.i64, .i64, .i64, .u64, .i64], .v], .v] [.node [.v (.int .i64 no), .v (.int .i64 h0), .v (.int .i64 h1), .structs l, .v (.int .i64 rt)], .v (.int .i64 side)] 0).1 0) (mks [.agg [.v, .v, .v, .roS [.i64, .i64, .i64, .u64, .i64], .v], .v] [.node [.v (.int .i64 no), .v (.int .i64 h0), .v (.int .i64 h1), .structs l, .v (.int .i64 rt)], .v (.int .i64 side)] 0).2 (retP Tryz.prog Tryz.f11.results.toList 1 (⟨[.v (.int .i64 (bif !(allW 0 1 [side]) then 0 else IntKind.i64.wrap (haveO h0 h1 side + offM (IntKind.i64.wrap (1 - side)) l)))], []⟩ : Post)) :=
 Eq.mpr (by kernel_rfl) (vc_worth O Y no h0 h1 rt l side F hy g0)
theorem ok_worth (I : Sx.Interp) (O : OO) (hO : O = oo) (Y : OY) (hY : Y = yO O) : Sx.SpecOK I Tryz.prog 11 (pspec [.agg [.v, .v, .v, .roS [.i64, .i64, .i64, .u64, .i64], .v], .v] false (g_worth O Y)) := by
 refine spec_patI (spS10_ok I O hO Y hY) (by kernel_rfl) (fun ds => match ds with | [.node [.v (.int .i64 no), .v (.int .i64 h0), .v (.int .i64 h1), .structs l, .v (.int .i64 rt)], .v (.int .i64 side)] => [] | _ => []) Tryz.func11 (by kernel_rfl) (by kernel_rfl) rfl Tryz.ntmps11 (by decide) ?_ ?_
 ·intro ds p bs F h
  unfold g_worth at h
  split at h
  ·simp only [Option.some.injEq, Prod.mk.injEq] at h
   obtain ⟨_, _, rfl⟩ := h
   kernel_rfl
  ·cases h
 ·intro ds bs F hl h
  unfold g_worth at h
  split at h
  ·rename_i no h0 h1 l rt side
   simp only [Option.some.injEq, Prod.mk.injEq, Bool.and_eq_true] at h
   obtain ⟨g0, _, rfl⟩ := h
   exact wpc_worth O Y no h0 h1 rt l side (fo_oo O hO) hY g0
  ·cases h
def g_find1 (O : OO) (Y : OY) (ds : List Dt) : Option (Bool × List Bool × (List Bool → Post)) := match ds with
 | [.v (.agg ⟨[.int .i64 xf, .int .i64 xi, .int .i64 xa, .int .u64 xq, .int .i64 xe]⟩), .node [.v (.int .i64 fr)], .node [.v (.int .i64 id)]] => some (true, [], fun _ => ⟨[.v (.bool (bif iBeq xf fr then iBeq xi id else false))], [(0, .blk 3 [.v (.int .i64 fr)]), (1, .blk 3 [.v (.int .i64 id)])]⟩)
 | _ => none
set_option maxHeartbeats 4000000 in
theorem vc_find1 (O : OO) (Y : OY) (xf xi xa xq xe fr id : Int) (F : FO O) (hy : Y = yO O) :
 If (iBeq xf fr) (Value.bool (iBeq xi id) = Value.bool (bif iBeq xf fr then iBeq xi id else false) ∧ True ∧ Value.int .i64 fr = Value.int .i64 fr ∧ Value.int .i64 id = Value.int .i64
  id ∧ True) (Value.bool false = Value.bool (bif iBeq xf fr then iBeq xi id else false) ∧ True ∧ Value.int .i64 fr = Value.int .i64 fr ∧ Value.int .i64 id = Value.int .i64 id ∧ True) := by
 exact Sx.if_both (fun h => ⟨by rw [h]; rfl, (by first | rfl | trivial)⟩) (fun h => ⟨by rw [h]; rfl, (by first | rfl | trivial)⟩)
theorem wpc_find1 (O : OO) (Y : OY) (xf xi xa xq xe fr id : Int) (F : FO O) (hy : Y = yO O) : wpcI Tryz.prog (spS10 O Y) Tryz.f65.ntmps [] (bodyOf Tryz.f65) 0 64 (envP (mks [.v, .obj 3 [.v], .obj 3 [.v]] [.v (.agg ⟨[.int .i64 xf, .int .i64 xi, .int .i64 xa, .int .u64 xq, .int .i64 xe]⟩), .node [.v (.int .i64 fr)], .node [.v (.int .i64 id)]] 0).1 0) (mks [.v, .obj 3 [.v], .obj 3 [.v]] [.v (.agg ⟨[.int .i64 xf, .int .i64 xi, .int .i64 xa, .int .u64 xq, .int .i64 xe]⟩), .node [.v (.int .i64 fr)], .node [.v (.int .i64 id)]] 0).2 (retP Tryz.prog Tryz.f65.results.toList 2 (⟨[.v (.bool (bif iBeq xf fr then iBeq xi id else false))], [(0, .blk 3 [.v (.int .i64 fr)]), (1, .blk 3 [.v (.int .i64 id)])]⟩ : Post)) :=
 Eq.mpr (by kernel_rfl) (vc_find1 O Y xf xi xa xq xe fr id F hy)
theorem ok_find1 (I : Sx.Interp) (O : OO) (hO : O = oo) (Y : OY) (hY : Y = yO O) : Sx.SpecOK I Tryz.prog 65 (pspec [.v, .obj 3 [.v], .obj 3 [.v]] false (g_find1 O Y)) := by
 refine spec_patI (spS10_ok I O hO Y hY) (by kernel_rfl) (fun ds => match ds with | [.v (.agg ⟨[.int .i64 xf, .int .i64 xi, .int .i64 xa, .int .u64 xq, .int .i64 xe]⟩), .node [.v (.int .i64 fr)], .node [.v (.int .i64 id)]] => [] | _ => []) Tryz.func65 (by kernel_rfl) (by kernel_rfl) rfl Tryz.ntmps65 (by decide) ?_ ?_
 ·intro ds p bs F h
  unfold g_find1 at h
  split at h
  ·simp only [Option.some.injEq, Prod.mk.injEq] at h
   obtain ⟨_, _, rfl⟩ := h
   kernel_rfl
  ·cases h
 ·intro ds bs F hl h
  unfold g_find1 at h
  split at h
  ·rename_i xf xi xa xq xe fr id
   simp only [Option.some.injEq, Prod.mk.injEq, Bool.and_eq_true] at h
   obtain ⟨_, _, rfl⟩ := h
   exact wpc_find1 O Y xf xi xa xq xe fr id (fo_oo O hO) hY 
  ·cases h
def spS11 (O : OO) (Y : OY) (f : FuncId) : Option Sx.Spec := match f with
 | 62 => some (pspec [.v, .agg [.v, .v, .v, .roS [.i64, .i64, .i64, .u64, .i64], .v]] false (g_cost O Y))
 | 11 => some (pspec [.agg [.v, .v, .v, .roS [.i64, .i64, .i64, .u64, .i64], .v], .v] false (g_worth O Y))
 | 65 => some (pspec [.v, .obj 3 [.v], .obj 3 [.v]] false (g_find1 O Y))
 | f => spS10 O Y f
theorem spS11_ok (I : Sx.Interp) (O : OO) (hO : O = oo) (Y : OY) (hY : Y = yO O) : ∀ f s, spS11 O Y f = some s → Sx.SpecOK I Tryz.prog f s := by
 intro f s h
 unfold spS11 at h
 split at h
 · cases h; exact ok_cost I O hO Y hY
 · cases h; exact ok_worth I O hO Y hY
 · cases h; exact ok_find1 I O hO Y hY
 ·exact spS10_ok I O hO Y hY _ s h
def g_idxCond (O : OO) (Y : OY) (ds : List Dt) : Option (Bool × List Bool × (List Bool → Post)) := match ds with
 | [.structs l, .node [.node [.v (.int .i64 fr)], .node [.v (.int .i64 id)]]] => some ((Nat.ble l.length 1000), [], fun _ => ⟨[.v (.int .i64 (idxS (matchF fr id) l))], [(1, .blk 3 [.v (.int .i64 fr)]), (2, .blk 3 [.v (.int .i64 id)])]⟩)
 | _ => none
set_option maxHeartbeats 4000000 in
theorem vc_idxCond (O : OO) (Y : OY) (l : List (List Int)) (fr id : Int) (F : FO O) (hy : Y = yO O) (h1 : Nat.ble l.length 1000 = true) :
 (∃ (x : Nat), (x ≤ l.length ∧ ∀ (k : Nat), k.succ ≤ x → matchF fr id (l.getD k []) = false) ∧ (Value.int .i64 0 = Value.int .i64 (iOf x) ∧ SV.fn (Fn.func 65)
  [SV.ptr 1 0, SV.ptr 2 0] = SV.fn (Fn.func 65) [SV.ptr 1 0, SV.ptr 2 0] ∧ Value.int .i64 (iOf l.length) = Value.int .i64 (iOf l.length) ∧ True) ∧ Cont.structs
  [.i64, .i64, .i64, .u64, .i64] l = Cont.structs [.i64, .i64, .i64, .u64, .i64] l ∧ Value.int .i64 fr = Value.int .i64 fr ∧ Value.int .i64 id = Value.int .i64 id ∧ True) ∧ ∀ (x :
  Nat), (x ≤ l.length ∧ ∀ (k : Nat), k.succ ≤ x → matchF fr id (l.getD k []) = false) → If (iLt (iOf x) (iOf (Cont.structs [.i64, .i64, .i64, .u64, .i64] l).n)) (If (iLe 0 (iOf x) &&
  (iOf x).toNat.blt l.length) (If (true && Nat.beq 5 5 && (iOf x).toNat.blt l.length) (If (bif iBeq ((l.getD (iOf x).toNat []).getD 0 0) fr then iBeq ((l.getD (iOf x).toNat []).getD 1
  0) id else false) (Value.int .i64 (iOf x) = Value.int .i64 (idxS (matchF fr id) l) ∧ True ∧ Value.int .i64 fr = Value.int .i64 fr ∧ Value.int .i64 id = Value.int .i64 id ∧ True) (∃
  (x' : Nat), (x' ≤ l.length ∧ ∀ (k : Nat), k.succ ≤ x' → matchF fr id (l.getD k []) = false) ∧ (nSub l.length x').succ ≤ nSub l.length x ∧ (Value.int .i64 (IntKind.i64.wrap (iAdd
  (iOf x) 1)) = Value.int .i64 (iOf x') ∧ SV.fn (Fn.func 65) [SV.ptr 1 0, SV.ptr 2 0] = SV.fn (Fn.func 65) [SV.ptr 1 0, SV.ptr 2 0] ∧
  Value.int .i64 (iOf l.length) = Value.int .i64 (iOf l.length) ∧ True) ∧ Cont.structs [.i64, .i64, .i64, .u64, .i64] l = Cont.structs [.i64, .i64, .i64, .u64, .i64] l ∧ Value.int
  .i64 fr = Value.int .i64 fr ∧ Value.int .i64 id = Value.int .i64 id ∧ True)) False) False) (Value.int .i64 (iNeg 1) = Value.int .i64 (idxS (matchF fr id) l) ∧ True ∧ Value.int .i64
  fr = Value.int .i64 fr ∧ Value.int .i64 id = Value.int .i64 id ∧ True) := by
 simp only [Sx.app, Sx.nAdd, Sx.nSub, Sx.nMul, Sx.nPow, Sx.nDiv, Sx.nMod, Sx.iAdd, Sx.iSub, Sx.iMul, Sx.iNeg, Sx.iPow, Sx.iOf]
 have hm := Nat.le_of_ble_eq_true h1
 refine ⟨⟨0, ⟨Nat.zero_le _, fun k hk => absurd hk (Nat.not_succ_le_zero _)⟩, ⟨rfl, (by first | rfl | trivial)⟩, (by first | rfl | trivial)⟩, fun x hx => Sx.if_both (fun h => ?_) (fun h => ?_)⟩
 ·simp only [Sx.Bz, Sx.Cont.n] at h
  have hlt : x < l.length := by omega
  have hbl : x.blt l.length = true := by rw [Nat.blt_eq]; exact hlt
  refine Sx.if_true (by simp only [Sx.Bz, Sx.Cont.n, hbl, and_true, Int.toNat_natCast]; omega) (Sx.if_true (by simp only [hbl, Int.toNat_natCast]; rfl) (Sx.if_both (fun hc => ?_) (fun hc => ?_)))
  ·simp only [Int.toNat_natCast] at hc
   have hc' : matchF fr id (l.getD x []) = true := hc
   exact ⟨by rw [idxS_here hlt (fun k hk => hx.2 k hk) hc'], (by first | rfl | trivial)⟩
  ·simp only [Int.toNat_natCast] at hc
   have hc' : matchF fr id (l.getD x []) = false := hc
   exact ⟨x + 1, ⟨hlt, fun k hk => by
    rcases Nat.lt_or_ge k x with h' | h'
    ·exact hx.2 k h'
    ·have : k = x := by omega
     rw [this]; exact hc'⟩, by omega, ⟨by rw [wrap_succ (by omega)], (by first | rfl | trivial)⟩, (by first | rfl | trivial)⟩
 ·simp only [Sx.Bz, Sx.Cont.n] at h
  have hx2 : x = l.length := by omega
  subst hx2
  exact ⟨by rw [idxS_none (fun k hk => hx.2 k hk)], (by first | rfl | trivial)⟩
theorem wpc_idxCond (O : OO) (Y : OY) (l : List (List Int)) (fr id : Int) (F : FO O) (hy : Y = yO O) (h1 : Nat.ble l.length 1000 = true) : wpcI Tryz.prog (spS11 O Y) Tryz.f64.ntmps [⟨Nat, [0, 1, 7], [], fun B j => [(8, .v (.int .i64 (j : Int)))], fun B j => [], fun j => j ≤ l.length ∧ ∀ k, k < j → matchF fr id (l.getD k []) = false, fun j => l.length - j, 0⟩] (bodyOf Tryz.f64) 0 64 (envP (mks [.roS [.i64, .i64, .i64, .u64, .i64], .fn 65 [.obj 3 [.v], .obj 3 [.v]]] [.structs l, .node [.node [.v (.int .i64 fr)], .node [.v (.int .i64 id)]]] 0).1 0) (mks [.roS [.i64, .i64, .i64, .u64, .i64], .fn 65 [.obj 3 [.v], .obj 3 [.v]]] [.structs l, .node [.node [.v (.int .i64 fr)], .node [.v (.int .i64 id)]]] 0).2 (retP Tryz.prog Tryz.f64.results.toList 3 (⟨[.v (.int .i64 (idxS (matchF fr id) l))], [(1, .blk 3 [.v (.int .i64 fr)]), (2, .blk 3 [.v (.int .i64 id)])]⟩ : Post)) :=
 Eq.mpr (by kernel_rfl) (vc_idxCond O Y l fr id F hy h1)
theorem ok_idxCond (I : Sx.Interp) (O : OO) (hO : O = oo) (Y : OY) (hY : Y = yO O) : Sx.SpecOK I Tryz.prog 64 (pspec [.roS [.i64, .i64, .i64, .u64, .i64], .fn 65 [.obj 3 [.v], .obj 3 [.v]]] false (g_idxCond O Y)) := by
 refine spec_patI (spS11_ok I O hO Y hY) (by kernel_rfl) (fun ds => match ds with | [.structs l, .node [.node [.v (.int .i64 fr)], .node [.v (.int .i64 id)]]] => [⟨Nat, [0, 1, 7], [], fun B j => [(8, .v (.int .i64 (j : Int)))], fun B j => [], fun j => j ≤ l.length ∧ ∀ k, k < j → matchF fr id (l.getD k []) = false, fun j => l.length - j, 0⟩] | _ => []) Tryz.func64 (by kernel_rfl) (by kernel_rfl) rfl Tryz.ntmps64 (by decide) ?_ ?_
 ·intro ds p bs F h
  unfold g_idxCond at h
  split at h
  ·simp only [Option.some.injEq, Prod.mk.injEq] at h
   obtain ⟨_, _, rfl⟩ := h
   kernel_rfl
  ·cases h
 ·intro ds bs F hl h
  unfold g_idxCond at h
  split at h
  ·rename_i l fr id
   simp only [Option.some.injEq, Prod.mk.injEq, Bool.and_eq_true] at h
   obtain ⟨h1, _, rfl⟩ := h
   exact wpc_idxCond O Y l fr id (fo_oo O hO) hY h1
  ·cases h
def spS12 (O : OO) (Y : OY) (f : FuncId) : Option Sx.Spec := match f with
 | 64 => some (pspec [.roS [.i64, .i64, .i64, .u64, .i64], .fn 65 [.obj 3 [.v], .obj 3 [.v]]] false (g_idxCond O Y))
 | f => spS11 O Y f
theorem spS12_ok (I : Sx.Interp) (O : OO) (hO : O = oo) (Y : OY) (hY : Y = yO O) : ∀ f s, spS12 O Y f = some s → Sx.SpecOK I Tryz.prog f s := by
 intro f s h
 unfold spS12 at h
 split at h
 · cases h; exact ok_idxCond I O hO Y hY
 ·exact spS11_ok I O hO Y hY _ s h
def g_find (O : OO) (Y : OY) (ds : List Dt) : Option (Bool × List Bool × (List Bool → Post)) := match ds with
 | [.node [.v (.int .i64 no), .v (.int .i64 h0), .v (.int .i64 h1), .structs l, .v (.int .i64 rt)], .v (.int .i64 fr), .v (.int .i64 id)] => some ((Nat.ble l.length 1000), [], fun _ => ⟨[.v (.agg ⟨[.int .i64 (findC fr id l 0), .int .i64 (findC fr id l 1), .int .i64 (findC fr id l 2), .int .u64 (findC fr id l 3), .int .i64 (findC fr id l 4)]⟩), .v (.bool (!(iLt (idxS (matchF fr id) l) 0)))], []⟩)
 | _ => none
set_option maxHeartbeats 4000000 in
theorem vc_find (O : OO) (Y : OY) (no h0 h1 rt : Int) (l : List (List Int)) (fr id : Int) (F : FO O) (hy : Y = yO O) (g0 : Nat.ble l.length 1000 = true) :
 If (l.length.ble 1000) (If (iLt (idxS (matchF fr id) l) 0) ((Value.agg (Array.mk [Value.int .i64 0, Value.int .i64 0, Value.int .i64 0, Value.int .u64 0, Value.int .i64 0]) =
  Value.agg (Array.mk [Value.int .i64 (findC fr id l 0), Value.int .i64 (findC fr id l 1), Value.int .i64 (findC fr id l 2), Value.int .u64 (findC fr id l 3), Value.int .i64 (findC fr
  id l 4)]) ∧ Value.bool false = Value.bool !iLt (idxS (matchF fr id) l) 0) ∧ True ∧ True) (If (iLe 0 (idxS (matchF fr id) l) && (idxS (matchF fr id) l).toNat.blt l.length) (If (true
  && Nat.beq 5 5 && (idxS (matchF fr id) l).toNat.blt l.length) ((Value.agg (Array.mk [Value.int .i64 ((l.getD (idxS (matchF fr id) l).toNat []).getD 0 0), Value.int .i64 ((l.getD
  (idxS (matchF fr id) l).toNat []).getD 1 0), Value.int .i64 ((l.getD (idxS (matchF fr id) l).toNat []).getD 2 0), Value.int .u64 ((l.getD (idxS (matchF fr id) l).toNat []).getD 3
  0), Value.int .i64 ((l.getD (idxS (matchF fr id) l).toNat []).getD 4 0)]) = Value.agg (Array.mk [Value.int .i64 (findC fr id l 0), Value.int .i64 (findC fr id l 1), Value.int .i64
  (findC fr id l 2), Value.int .u64 (findC fr id l 3), Value.int .i64 (findC fr id l 4)]) ∧ Value.bool true = Value.bool !iLt (idxS (matchF fr id) l) 0) ∧ True ∧ True) False) False))
  False := by
 refine Sx.if_true g0 (Sx.if_both (fun h => ⟨⟨by unfold findC; rw [h]; rfl, by rw [h]; rfl⟩, (by first | rfl | trivial)⟩) (fun h => ?_))
 obtain ⟨k1, k2⟩ := (idxS_lt (matchF fr id) l).2 h
 have hb : (idxS (matchF fr id) l).toNat.blt l.length = true := by rw [Nat.blt_eq]; exact k1
 exact Sx.if_true (by rw [hb]; simp only [Sx.Bz, Sx.Cont.n, and_true]; exact k2) (Sx.if_true (by rw [hb]; rfl) ⟨⟨by unfold findC; rw [h]; rfl, by rw [h]; rfl⟩, (by first | rfl | trivial)⟩)
theorem wpc_find (O : OO) (Y : OY) (no h0 h1 rt : Int) (l : List (List Int)) (fr id : Int) (F : FO O) (hy : Y = yO O) (g0 : Nat.ble l.length 1000 = true) : wpcI Tryz.prog (spS12 O Y) Tryz.f33.ntmps [] (bodyOf Tryz.f33) 0 64 (envP (mks [.agg [.v, .v, .v, .roS [.i64, .i64, .i64, .u64, .i64], .v], .v, .v] [.node [.v (.int .i64 no), .v (.int .i64 h0), .v (.int .i64 h1), .structs l, .v (.int .i64 rt)], .v (.int .i64 fr), .v (.int .i64 id)] 0).1 0) (mks [.agg [.v, .v, .v, .roS [.i64, .i64, .i64, .u64, .i64], .v], .v, .v] [.node [.v (.int .i64 no), .v (.int .i64 h0), .v (.int .i64 h1), .structs l, .v (.int .i64 rt)], .v (.int .i64 fr), .v (.int .i64 id)] 0).2 (retP Tryz.prog Tryz.f33.results.toList 1 (⟨[.v (.agg ⟨[.int .i64 (findC fr id l 0), .int .i64 (findC fr id l 1), .int .i64 (findC fr id l 2), .int .u64 (findC fr id l 3), .int .i64 (findC fr id l 4)]⟩), .v (.bool (!(iLt (idxS (matchF fr id) l) 0)))], []⟩ : Post)) :=
 Eq.mpr (by kernel_rfl) (vc_find O Y no h0 h1 rt l fr id F hy g0)
theorem ok_find (I : Sx.Interp) (O : OO) (hO : O = oo) (Y : OY) (hY : Y = yO O) : Sx.SpecOK I Tryz.prog 33 (pspec [.agg [.v, .v, .v, .roS [.i64, .i64, .i64, .u64, .i64], .v], .v, .v] false (g_find O Y)) := by
 refine spec_patI (spS12_ok I O hO Y hY) (by kernel_rfl) (fun ds => match ds with | [.node [.v (.int .i64 no), .v (.int .i64 h0), .v (.int .i64 h1), .structs l, .v (.int .i64 rt)], .v (.int .i64 fr), .v (.int .i64 id)] => [] | _ => []) Tryz.func33 (by kernel_rfl) (by kernel_rfl) rfl Tryz.ntmps33 (by decide) ?_ ?_
 ·intro ds p bs F h
  unfold g_find at h
  split at h
  ·simp only [Option.some.injEq, Prod.mk.injEq] at h
   obtain ⟨_, _, rfl⟩ := h
   kernel_rfl
  ·cases h
 ·intro ds bs F hl h
  unfold g_find at h
  split at h
  ·rename_i no h0 h1 l rt fr id
   simp only [Option.some.injEq, Prod.mk.injEq, Bool.and_eq_true] at h
   obtain ⟨g0, _, rfl⟩ := h
   exact wpc_find O Y no h0 h1 rt l fr id (fo_oo O hO) hY g0
  ·cases h
def g_free (O : OO) (Y : OY) (ds : List Dt) : Option (Bool × List Bool × (List Bool → Post)) := match ds with
 | [.v (.agg ch), .node [.v (.int .i64 no), .v (.int .i64 h0), .v (.int .i64 h1), .structs l, .v (.int .i64 rt)], .v (.int .i64 side)] => some ((chB ch) && (Nat.ble l.length 1000) && (allW 0 1 [side]), [], fun _ => ⟨[.v (.int .i64 (bif iBeq side ((cz ch) 56) then IntKind.i64.wrap (haveO h0 h1 side - costO rt l.length) else haveO h0 h1 side))], []⟩)
 | _ => none
set_option maxHeartbeats 4000000 in
theorem vc_free (O : OO) (Y : OY) (c : Nat → Int) (no h0 h1 rt : Int) (l : List (List Int)) (side : Int) (F : FO O) (hy : Y = yO O) (hc : chB (chA c) = true) (g0 : Nat.ble l.length 1000 = true) (hs : allW 0 1 [side] = true) :
 If (iBeq side (c 56)) (If (iEq side (iOf 0)) (If (chB (chA c) && l.length.ble 1000) (Value.int .i64 (IntKind.i64.wrap (iSub h0 (costO rt (iOf l.length)))) = Value.int .i64 (bif iBeq
  side (c 56) then IntKind.i64.wrap (iSub (haveO h0 h1 side) (costO rt (iOf l.length))) else haveO h0 h1 side) ∧ True ∧ True) False) (If (iEq side (iOf (nAdd 0 1))) (If (chB (chA c)
  && l.length.ble 1000) (Value.int .i64 (IntKind.i64.wrap (iSub h1 (costO rt (iOf l.length)))) = Value.int .i64 (bif iBeq side (c 56) then IntKind.i64.wrap (iSub (haveO h0 h1 side)
  (costO rt (iOf l.length))) else haveO h0 h1 side) ∧ True ∧ True) False) False)) (If (iEq side (iOf 0)) (Value.int .i64 h0 = Value.int .i64 (bif iBeq side (c 56) then
  IntKind.i64.wrap (iSub (haveO h0 h1 side) (costO rt (iOf l.length))) else haveO h0 h1 side) ∧ True ∧ True) (If (iEq side (iOf (nAdd 0 1))) (Value.int .i64 h1 = Value.int .i64 (bif
  iBeq side (c 56) then IntKind.i64.wrap (iSub (haveO h0 h1 side) (costO rt (iOf l.length))) else haveO h0 h1 side) ∧ True ∧ True) False)) := by
 have q0 : (chB (chA c) && l.length.ble 1000) = true := by rw [hc, g0]; rfl
 refine Sx.if_both (fun a => Sx.if_both (fun e => Sx.if_true q0 ⟨by rw [a, have0 e]; rfl, (by first | rfl | trivial)⟩) (fun e => Sx.if_true (side01 hs e) (Sx.if_true q0 ⟨by rw [a, have1 (side01 hs e)]; rfl, (by first | rfl | trivial)⟩))) (fun a => Sx.if_both (fun e => ⟨by rw [a, have0 e]; rfl, (by first | rfl | trivial)⟩) (fun e => Sx.if_true (side01 hs e) ⟨by rw [a, have1 (side01 hs e)]; rfl, (by first | rfl | trivial)⟩))
theorem wpc_free (O : OO) (Y : OY) (c : Nat → Int) (no h0 h1 rt : Int) (l : List (List Int)) (side : Int) (F : FO O) (hy : Y = yO O) (hc : chB (chA c) = true) (g0 : Nat.ble l.length 1000 = true) (hs : allW 0 1 [side] = true) : wpcI Tryz.prog (spS12 O Y) Tryz.f35.ntmps [] (bodyOf Tryz.f35) 0 64 (envP (mks [.v, .agg [.v, .v, .v, .roS [.i64, .i64, .i64, .u64, .i64], .v], .v] [.v (.agg (chA c)), .node [.v (.int .i64 no), .v (.int .i64 h0), .v (.int .i64 h1), .structs l, .v (.int .i64 rt)], .v (.int .i64 side)] 0).1 0) (mks [.v, .agg [.v, .v, .v, .roS [.i64, .i64, .i64, .u64, .i64], .v], .v] [.v (.agg (chA c)), .node [.v (.int .i64 no), .v (.int .i64 h0), .v (.int .i64 h1), .structs l, .v (.int .i64 rt)], .v (.int .i64 side)] 0).2 (retP Tryz.prog Tryz.f35.results.toList 1 (⟨[.v (.int .i64 (bif iBeq side (c 56) then IntKind.i64.wrap (haveO h0 h1 side - costO rt l.length) else haveO h0 h1 side))], []⟩ : Post)) :=
 Eq.mpr (by kernel_rfl) (vc_free O Y c no h0 h1 rt l side F hy hc g0 hs)
theorem ok_free (I : Sx.Interp) (O : OO) (hO : O = oo) (Y : OY) (hY : Y = yO O) : Sx.SpecOK I Tryz.prog 35 (pspec [.v, .agg [.v, .v, .v, .roS [.i64, .i64, .i64, .u64, .i64], .v], .v] false (g_free O Y)) := by
 refine spec_patI (spS12_ok I O hO Y hY) (by kernel_rfl) (fun ds => match ds with | [.v (.agg ch), .node [.v (.int .i64 no), .v (.int .i64 h0), .v (.int .i64 h1), .structs l, .v (.int .i64 rt)], .v (.int .i64 side)] => [] | _ => []) Tryz.func35 (by kernel_rfl) (by kernel_rfl) rfl Tryz.ntmps35 (by decide) ?_ ?_
 ·intro ds p bs F h
  unfold g_free at h
  split at h
  ·simp only [Option.some.injEq, Prod.mk.injEq] at h
   obtain ⟨_, _, rfl⟩ := h
   kernel_rfl
  ·cases h
 ·intro ds bs F hl h
  unfold g_free at h
  split at h
  ·rename_i ch no h0 h1 l rt side
   simp only [Option.some.injEq, Prod.mk.injEq, Bool.and_eq_true] at h
   obtain ⟨⟨⟨hc, g0⟩, hs⟩, _, rfl⟩ := h
   obtain ⟨c, ec, rfl⟩ : ∃ c, cz ch = c ∧ ch = chA c := ⟨_, rfl, chB_eq hc⟩
   simp only [ec]
   exact wpc_free O Y c no h0 h1 rt l side (fo_oo O hO) hY hc g0 hs
  ·cases h
end Go.Proofs.YtcdmmfelagbpdaaGreat
