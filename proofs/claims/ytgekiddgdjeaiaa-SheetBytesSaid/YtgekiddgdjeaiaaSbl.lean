/- SheetBytes: the walk, by the symbolic machine (printed by genSbl.py; VCs by VcTool). -/
import Derived.Test.YtgekiddgdjeaiaaSh8
import Derived.Test.YtgekiddgdjeaiaaSbq
namespace Go.Proofs.Ytgekiddgdjeaiaa
open Go.RowKit Go.Lib Ckp Cfd Cpd Sx
set_option linter.unusedVariables false
set_option linter.unusedSimpArgs false
set_option maxRecDepth 1000000
/-- Are bytes the same? -/
def eqB8 (a b : List Int) : Bool := decide (a = b)

theorem few_len20 {h0 h1 rt : Int} {l : List (List Int)} (h : (!fewB h0 h1 rt l) = false) : l.length ≤ 20 := by
 have h : fewB h0 h1 rt l = true := by simpa using h
 unfold fewB at h
 cases c : iLt 20 (l.length : Int)
 ·simp only [Sx.Bz, Sx.Cont.n] at c; omega
 ·rw [c] at h; cases h
theorem stB_len {R : OB} (hr : R = bO) {no h0 h1 rt : Int} {l : List (List Int)} (h : l.length ≤ 20) : (stB R no h0 h1 rt l).length ≤ 1100 := by
 have a := rowsF_len hr [no, h0, h1, rt, (l.length : Int)]
 have c := cdsF_len hr l
 simp only [List.length_cons, List.length_nil] at a
 unfold stB
 cases allQ 0 9223372036854775807 [no, h0, h1, rt, (l.length : Int)] <;> cases cdsOk l <;> simp only [cond_true, cond_false, List.length_nil, List.length_append] <;> omega
theorem stB_cases (R : OB) (no h0 h1 rt : Int) (l : List (List Int)) : stB R no h0 h1 rt l = [] ∨ (allQ 0 9223372036854775807 [no, h0, h1, rt, (l.length : Int)] = true ∧ cdsOk l = true) := by
 unfold stB
 cases allQ 0 9223372036854775807 [no, h0, h1, rt, (l.length : Int)]
 ·exact .inl rfl
 ·cases cdsOk l
  ·exact .inl rfl
  ·exact .inr ⟨rfl, rfl⟩
def g_same8 (O : OO) (R : OB) (ds : List Dt) : Option (Bool × List Bool × (List Bool → Post)) := match ds with
 | [.ints a, .ints b] => some ((Nat.ble a.length 9223372036854775807), [], fun _ => ⟨[.v (.bool (eqB8 a b))], []⟩)
 | _ => none
set_option maxHeartbeats 4000000 in
theorem vc_same8 (O : OO) (R : OB) (a b : List Int) (F : FO O) (hr : R = bO) (h0 : (Nat.ble a.length 9223372036854775807) = true) :
 If (iBne (iOf a.length) (iOf b.length)) (Value.bool false = Value.bool (eqB8 a b) ∧ True ∧ True) ((∃ (x : Nat), (x ≤ a.length ∧ a.length = b.length ∧ eqB8 (List.take x a) (List.take
  x b) = true) ∧ (Value.int .i64 0 = Value.int .i64 (iOf x) ∧ True) ∧ EqI a a ∧ EqI b b ∧ True) ∧ ∀ (x : Nat), x ≤ a.length ∧ a.length = b.length ∧ eqB8 (List.take x a) (List.take x
  b) = true → If (iLt (iOf x) (iOf (Cont.ints .u8 a).n)) (If (iLe 0 (iOf x) && (iOf x).toNat.blt a.length) (If (true && Nat.beq 1 1 && (iOf x).toNat.blt a.length) (If (iLe 0 (iOf x)
  && (iOf x).toNat.blt b.length) (If (true && Nat.beq 1 1 && (iOf x).toNat.blt b.length) (If (iBne (a.getD (iOf x).toNat 0) (b.getD (iOf x).toNat 0)) (Value.bool false = Value.bool
  (eqB8 a b) ∧ True ∧ True) (∃ (x' : Nat), (x' ≤ a.length ∧ a.length = b.length ∧ eqB8 (List.take x' a) (List.take x' b) = true) ∧ (nSub a.length x').succ ≤ nSub a.length x ∧
  (Value.int .i64 (IntKind.i64.wrap (iAdd (iOf x) 1)) = Value.int .i64 (iOf x') ∧ True) ∧ EqI a a ∧ EqI b b ∧ True)) False) False) False) False) (Value.bool true = Value.bool (eqB8 a
  b) ∧ True ∧ True)) := by
 have eqd : ∀ x y : List Int, eqB8 x y = true ↔ x = y := fun x y => by unfold eqB8; rw [decide_eq_true_eq]
 refine Sx.if_both (fun d => ?_) (fun d => ?_)
 ·simp only [Sx.Bz, Sx.Cont.n, Sx.app, Sx.nAdd, Sx.nSub, Sx.nMul, Sx.nPow, Sx.nDiv, Sx.nMod, Sx.iAdd, Sx.iSub, Sx.iMul, Sx.iNeg, Sx.iPow, Sx.iOf] at d
  refine ⟨?_, trivial, trivial⟩
  rw [show eqB8 a b = false by unfold eqB8; rw [decide_eq_false_iff_not]; intro e; subst e; exact absurd rfl d]
 simp only [Sx.Bz, Sx.Cont.n, Sx.app, Sx.nAdd, Sx.nSub, Sx.nMul, Sx.nPow, Sx.nDiv, Sx.nMod, Sx.iAdd, Sx.iSub, Sx.iMul, Sx.iNeg, Sx.iPow, Sx.iOf] at d
 have hl : a.length = b.length := by omega
 have h0' := Nat.le_of_ble_eq_true h0
 refine ⟨⟨0, ⟨Nat.zero_le _, hl, by rw [eqd]; rfl⟩, ⟨rfl, trivial⟩, rfl, rfl, trivial⟩, fun x ⟨x1, x2, x3⟩ => ?_⟩
 have hn : (iOf x).toNat = x := by simp only [Sx.app, Sx.nAdd, Sx.nSub, Sx.nMul, Sx.nPow, Sx.nDiv, Sx.nMod, Sx.iAdd, Sx.iSub, Sx.iMul, Sx.iNeg, Sx.iPow, Sx.iOf, Int.toNat_natCast]
 rw [eqd] at x3
 rw [hn]
 refine Sx.if_both (fun e => ?_) (fun e => ?_)
 ·simp only [Sx.Bz, Sx.Cont.n, Sx.app, Sx.nAdd, Sx.nSub, Sx.nMul, Sx.nPow, Sx.nDiv, Sx.nMod, Sx.iAdd, Sx.iSub, Sx.iMul, Sx.iNeg, Sx.iPow, Sx.iOf] at e
  have ha : x < a.length := by omega
  have hb : x < b.length := by omega
  have ba : x.blt a.length = true := by rw [Nat.blt_eq]; exact ha
  have bb : x.blt b.length = true := by rw [Nat.blt_eq]; exact hb
  have w1 : IntKind.i64.wrap (iAdd (iOf x) 1) = iOf (x + 1) := by simp only [Sx.app, Sx.nAdd, Sx.nSub, Sx.nMul, Sx.nPow, Sx.nDiv, Sx.nMod, Sx.iAdd, Sx.iSub, Sx.iMul, Sx.iNeg, Sx.iPow, Sx.iOf]; rw [IntKind.wrap_i64]; omega
  rw [ba, bb, w1]
  refine Sx.if_true (by simp only [Sx.Bz, Sx.Cont.n, Sx.app, Sx.nAdd, Sx.nSub, Sx.nMul, Sx.nPow, Sx.nDiv, Sx.nMod, Sx.iAdd, Sx.iSub, Sx.iMul, Sx.iNeg, Sx.iPow, Sx.iOf]; exact ⟨by omega, trivial⟩) (Sx.if_true rfl (Sx.if_true (by simp only [Sx.Bz, Sx.Cont.n, Sx.app, Sx.nAdd, Sx.nSub, Sx.nMul, Sx.nPow, Sx.nDiv, Sx.nMod, Sx.iAdd, Sx.iSub, Sx.iMul, Sx.iNeg, Sx.iPow, Sx.iOf]; exact ⟨by omega, trivial⟩) (Sx.if_true rfl (Sx.if_both (fun f => ?_) (fun f => ?_)))))
  ·simp only [Sx.Bz, Sx.Cont.n] at f
   refine ⟨?_, trivial, trivial⟩
   rw [show eqB8 a b = false by unfold eqB8; rw [decide_eq_false_iff_not]; intro e; subst e; exact absurd rfl f]
  ·simp only [Sx.Bz, Sx.Cont.n] at f
   refine ⟨x + 1, ⟨ha, hl, ?_⟩, by simp only [Sx.app, Sx.nAdd, Sx.nSub, Sx.nMul, Sx.nPow, Sx.nDiv, Sx.nMod, Sx.iAdd, Sx.iSub, Sx.iMul, Sx.iNeg, Sx.iPow, Sx.iOf]; omega, ⟨rfl, trivial⟩, rfl, rfl, trivial⟩
   rw [eqd, take_snoc' 0 ha, take_snoc' 0 hb, x3]
   rw [show a.getD x 0 = b.getD x 0 by omega]
 ·simp only [Sx.Bz, Sx.Cont.n, Sx.app, Sx.nAdd, Sx.nSub, Sx.nMul, Sx.nPow, Sx.nDiv, Sx.nMod, Sx.iAdd, Sx.iSub, Sx.iMul, Sx.iNeg, Sx.iPow, Sx.iOf] at e
  obtain rfl : x = a.length := by omega
  refine ⟨?_, trivial, trivial⟩
  rw [List.take_length, hl, List.take_length] at x3
  rw [(eqd a b).2 x3]
theorem wpc_same8 (O : OO) (R : OB) (a b : List Int) (F : FO O) (hr : R = bO) (h0 : (Nat.ble a.length 9223372036854775807) = true) : wpcI Try.prog (spB5 O R) Try.f24.ntmps [⟨Nat, [0, 1], [], fun B k => [(5, .v (.int .i64 (k : Nat)))], fun B k => [], fun k => k ≤ a.length ∧ a.length = b.length ∧ eqB8 (a.take k) (b.take k) = true, fun k => a.length - k, 0⟩] (bodyOf Try.f24) 0 64 (envP (mks [.ro .u8, .ro .u8] [.ints a, .ints b] 0).1 0) (mks [.ro .u8, .ro .u8] [.ints a, .ints b] 0).2 (retP Try.prog Try.f24.results.toList 2 (⟨[.v (.bool (eqB8 a b))], []⟩ : Post)) :=
 Eq.mpr (by kernel_rfl) (vc_same8 O R a b F hr h0)
theorem ok_same8 (I : Sx.Interp) (O : OO) (hO : O = oo) (R : OB) (hR : R = bO) : Sx.SpecOK I Try.prog 24 (pspec [.ro .u8, .ro .u8] false (g_same8 O R)) := by
 refine spec_pI (spB5_ok I O hO R hR) (by kernel_rfl) (fun ds => match ds with | [.ints a, .ints b] => [⟨Nat, [0, 1], [], fun B k => [(5, .v (.int .i64 (k : Nat)))], fun B k => [], fun k => k ≤ a.length ∧ a.length = b.length ∧ eqB8 (a.take k) (b.take k) = true, fun k => a.length - k, 0⟩] | _ => []) Try.func24 (by kernel_rfl) (by kernel_rfl) rfl Try.ntmps24 (by decide) ?_ ?_
 ·intro ds p bs F h
  unfold g_same8 at h
  split at h
  ·rename_i a b
   simp only [Option.some.injEq, Prod.mk.injEq] at h
   obtain ⟨_, _, rfl⟩ := h
   kernel_rfl
  ·cases h
 ·intro ds bs F hl h
  unfold g_same8 at h
  split at h
  ·rename_i a b
   simp only [Option.some.injEq, Prod.mk.injEq, Bool.and_eq_true] at h
   obtain ⟨h0, _, rfl⟩ := h
   exact wpc_same8 O R a b (fo_oo O hO) hR (by first | exact h0 | (simp only [Bool.and_eq_true]; exact h0))
  ·cases h
def spX0 (O : OO) (Y : OY) (R : OB) (f : FuncId) : Option Sx.Spec := match f with
 | 22 => some (pspec [.agg [.v, .v, .v, .roS [.i64, .i64, .i64, .u64, .i64], .v]] true (g_stbytes O R))
 | 23 => some (pspec [.ro .u8] true (g_stread O R))
 | 24 => some (pspec [.ro .u8, .ro .u8] false (g_same8 O R))
 | f => spS21 O Y f
theorem spX0_ok (I : Sx.Interp) (O : OO) (hO : O = oo) (Y : OY) (hY : Y = yO O) (R : OB) (hR : R = bO) : ∀ f s, spX0 O Y R f = some s → Sx.SpecOK I Try.prog f s := by
 intro f s h
 unfold spX0 at h
 split at h
 · cases h; exact ok_stbytes I O hO R hR
 · cases h; exact ok_stread I O hO R hR
 · cases h; exact ok_same8 I O hO R hR
 ·exact spS21_ok I O hO Y hY _ s h
def g_sbytes20 (O : OO) (Y : OY) (R : OB) (ds : List Dt) : Option (Bool × List Bool × (List Bool → Post)) := match ds with
 | [.node [.v (.int .i64 no), .v (.int .i64 h0), .v (.int .i64 h1), .structs l, .v (.int .i64 rt)], .ints b] => some ((Nat.ble l.length 9223372036854775807) && (cnd l) && (byB b), [], fun _ => ⟨[.v (.bool true)], []⟩)
 | _ => none
set_option maxHeartbeats 4000000 in
theorem vc_sbytes20 (O : OO) (Y : OY) (R : OB) (no h0 h1 rt : Int) (l : List (List Int)) (b : List Int) (F : FO O) (hy : Y = yO O) (hr : R = bO) (g0 : (Nat.ble l.length 9223372036854775807) = true) (g1 : (cnd l) = true) (g2 : (byB b) = true) :
 If (!fewB h0 h1 rt l) (Value.bool true = Value.bool true ∧ True ∧ True) (If (iLt 1000 (iOf (Cont.ints .u8 b).n)) (Value.bool true = Value.bool true ∧ True ∧ True) (If (l.length.ble
  1000 && pqB l) (If ((stB R no h0 h1 rt l).length.ble 1000000) (If (b.length.ble 1000000) (If (iLt 0 (iOf (Cont.ints .u8 (stB R no h0 h1 rt l)).n)) (If (!stOk R (stB R no h0 h1 rt
  l)) (Value.bool false = Value.bool true ∧ True ∧ True) (If ((snC R (stB R no h0 h1 rt l)).length.ble 1000 && cnd (snC R (stB R no h0 h1 rt l)) && l.length.ble 1000 && cnd l) (If
  (!sameB (stNo R (stB R no h0 h1 rt l)) (stH0 R (stB R no h0 h1 rt l)) (stH1 R (stB R no h0 h1 rt l)) (stRt R (stB R no h0 h1 rt l)) (snC R (stB R no h0 h1 rt l)) no h0 h1 rt l)
  (Value.bool false = Value.bool true ∧ True ∧ True) (If (iBeq (iOf (stB R no h0 h1 rt l).length) 0) (If (stOk R (stB R no h0 h1 rt l)) (Value.bool false = Value.bool true ∧ True ∧
  True) (If (stOk R b) (If ((snC R b).length.ble 1000 && pqB (snC R b)) (If ((stB R (stNo R b) (stH0 R b) (stH1 R b) (stRt R b) (snC R b)).length.ble 9223372036854775807) (Value.bool
  (eqB8 (stB R (stNo R b) (stH0 R b) (stH1 R b) (stRt R b) (snC R b)) b) = Value.bool true ∧ True ∧ True) False) False) (If ((snC R b).length.ble 1000 && cnd (snC R b) && Nat.ble 0
  1000 && cnd []) (Value.bool (sameB (stNo R b) (stH0 R b) (stH1 R b) (stRt R b) (snC R b) 0 0 0 0 []) = Value.bool true ∧ True ∧ True) False))) (If (stOk R b) (If ((snC R
  b).length.ble 1000 && pqB (snC R b)) (If ((stB R (stNo R b) (stH0 R b) (stH1 R b) (stRt R b) (snC R b)).length.ble 9223372036854775807) (Value.bool (eqB8 (stB R (stNo R b) (stH0 R
  b) (stH1 R b) (stRt R b) (snC R b)) b) = Value.bool true ∧ True ∧ True) False) False) (If ((snC R b).length.ble 1000 && cnd (snC R b) && Nat.ble 0 1000 && cnd []) (Value.bool (sameB
  (stNo R b) (stH0 R b) (stH1 R b) (stRt R b) (snC R b) 0 0 0 0 []) = Value.bool true ∧ True ∧ True) False)))) False)) (If (iBeq (iOf (stB R no h0 h1 rt l).length) 0) (If (stOk R (stB
  R no h0 h1 rt l)) (Value.bool false = Value.bool true ∧ True ∧ True) (If (stOk R b) (If ((snC R b).length.ble 1000 && pqB (snC R b)) (If ((stB R (stNo R b) (stH0 R b) (stH1 R b)
  (stRt R b) (snC R b)).length.ble 9223372036854775807) (Value.bool (eqB8 (stB R (stNo R b) (stH0 R b) (stH1 R b) (stRt R b) (snC R b)) b) = Value.bool true ∧ True ∧ True) False)
  False) (If ((snC R b).length.ble 1000 && cnd (snC R b) && Nat.ble 0 1000 && cnd []) (Value.bool (sameB (stNo R b) (stH0 R b) (stH1 R b) (stRt R b) (snC R b) 0 0 0 0 []) = Value.bool
  true ∧ True ∧ True) False))) (If (stOk R b) (If ((snC R b).length.ble 1000 && pqB (snC R b)) (If ((stB R (stNo R b) (stH0 R b) (stH1 R b) (stRt R b) (snC R b)).length.ble
  9223372036854775807) (Value.bool (eqB8 (stB R (stNo R b) (stH0 R b) (stH1 R b) (stRt R b) (snC R b)) b) = Value.bool true ∧ True ∧ True) False) False) (If ((snC R b).length.ble 1000
  && cnd (snC R b) && Nat.ble 0 1000 && cnd []) (Value.bool (sameB (stNo R b) (stH0 R b) (stH1 R b) (stRt R b) (snC R b) 0 0 0 0 []) = Value.bool true ∧ True ∧ True) False)))) False)
  False) False)) := by
 refine Sx.if_both (fun _ => ⟨rfl, trivial, trivial⟩) (fun hf => Sx.if_both (fun _ => ⟨rfl, trivial, trivial⟩) (fun hb => ?_))
 have l20 := few_len20 hf
 simp only [Sx.Bz, Sx.Cont.n, Sx.app, Sx.nAdd, Sx.nSub, Sx.nMul, Sx.nPow, Sx.nDiv, Sx.nMod, Sx.iAdd, Sx.iSub, Sx.iMul, Sx.iNeg, Sx.iPow, Sx.iOf] at hb
 have hb' : b.length ≤ 1000 := by omega
 have l1 : Nat.ble l.length 1000 = true := by rw [Nat.ble_eq]; omega
 have p1 : pqB l = true := g1
 have z0 : ∀ X, stOk R X = false → snC R X = [] ∧ stNo R X = 0 ∧ stH0 R X = 0 ∧ stH1 R X = 0 ∧ stRt R X = 0 := fun X h => by
  unfold snC stNo stH0 stH1 stRt; rw [h]; exact ⟨rfl, rfl, rfl, rfl, rfl⟩
 have ss : ∀ (no h0 h1 rt : Int) (l : List (List Int)), sameB no h0 h1 rt l no h0 h1 rt l = true := fun no h0 h1 rt l => by
  unfold sameB
  rw [show iBne no no = false by simp only [Sx.Bz, Sx.Cont.n], show iBeq h0 h0 = true by simp only [Sx.Bz, Sx.Cont.n], show iBeq h1 h1 = true by simp only [Sx.Bz, Sx.Cont.n], show iBne rt rt = false by simp only [Sx.Bz, Sx.Cont.n], show iBne (l.length : Int) (l.length : Int) = false by simp only [Sx.Bz, Sx.Cont.n]]
  exact decide_eq_true rfl
 have fin : Sx.If (stOk R b) (Sx.If ((snC R b).length.ble 1000 && pqB (snC R b)) (Sx.If ((stB R (stNo R b) (stH0 R b) (stH1 R b) (stRt R b) (snC R b)).length.ble 9223372036854775807) (Value.bool (eqB8 (stB R (stNo R b) (stH0 R b) (stH1 R b) (stRt R b) (snC R b)) b) = Value.bool true ∧ True ∧ True) False) False)
   (Sx.If ((snC R b).length.ble 1000 && cnd (snC R b) && Nat.ble 0 1000 && cnd []) (Value.bool (sameB (stNo R b) (stH0 R b) (stH1 R b) (stRt R b) (snC R b) 0 0 0 0 []) = Value.bool true ∧ True ∧ True) False) := by
  refine Sx.if_both (fun h => ?_) (fun h => ?_)
  ·obtain ⟨e1, e2, e3⟩ := st_bwd hr g2 h
   rw [e1, e2]
   refine Sx.if_true (by rw [Bool.and_true, Nat.ble_eq]; omega) (Sx.if_true (by rw [Nat.ble_eq]; omega) ⟨?_, trivial, trivial⟩)
   rw [show eqB8 b b = true from decide_eq_true rfl]
  ·obtain ⟨e1, e2, e3, e4, e5⟩ := z0 b h
   rw [e1, e2, e3, e4, e5]
   exact Sx.if_true rfl ⟨by rw [ss], trivial, trivial⟩
 have no0 : ∀ X, stOk R X = true → X.length ≠ 0 := fun X h h0 => by
  rw [List.eq_nil_of_length_eq_zero h0, st_nil hr] at h; cases h
 obtain ⟨X, hX⟩ : ∃ X, stB R no h0 h1 rt l = X := ⟨_, rfl⟩
 have lX : X.length ≤ 1100 := by rw [← hX]; exact stB_len hr (by omega)
 rw [hX]
 refine Sx.if_true (by rw [l1, p1]; rfl) (Sx.if_true (by rw [Nat.ble_eq]; omega) (Sx.if_true (by rw [Nat.ble_eq]; omega) ?_))
 rcases stB_cases R no h0 h1 rt l with e | ⟨e1, e2⟩
 ·have e : X = [] := by rw [← hX]; exact e
  subst e
  rw [st_nil hr]
  exact Sx.if_false rfl (Sx.if_true rfl (Sx.if_false rfl fin))
 ·obtain ⟨f0, f1, f2, f3, f4, f5⟩ := st_fwd hr e1 e2 p1 X hX.symm
  have hp := no0 X f0
  rw [f0, f1, f2, f3, f4, f5, ss]
  exact Sx.if_true (by simp only [Sx.Bz, Sx.Cont.n, Sx.app, Sx.nAdd, Sx.nSub, Sx.nMul, Sx.nPow, Sx.nDiv, Sx.nMod, Sx.iAdd, Sx.iSub, Sx.iMul, Sx.iNeg, Sx.iPow, Sx.iOf]; omega) (Sx.if_false rfl (Sx.if_true (by rw [l1, g1]; rfl) (Sx.if_false rfl (Sx.if_false (by simp only [Sx.Bz, Sx.Cont.n, Sx.app, Sx.nAdd, Sx.nSub, Sx.nMul, Sx.nPow, Sx.nDiv, Sx.nMod, Sx.iAdd, Sx.iSub, Sx.iMul, Sx.iNeg, Sx.iPow, Sx.iOf]; omega) fin))))
theorem wpc_sbytes20 (O : OO) (Y : OY) (R : OB) (no h0 h1 rt : Int) (l : List (List Int)) (b : List Int) (F : FO O) (hy : Y = yO O) (hr : R = bO) (g0 : (Nat.ble l.length 9223372036854775807) = true) (g1 : (cnd l) = true) (g2 : (byB b) = true) : wpcI Try.prog (spX0 O Y R) Try.f8.ntmps [] (bodyOf Try.f8) 0 64 (envP (mks [.agg [.v, .v, .v, .roS [.i64, .i64, .i64, .u64, .i64], .v], .ro .u8] [.node [.v (.int .i64 no), .v (.int .i64 h0), .v (.int .i64 h1), .structs l, .v (.int .i64 rt)], .ints b] 0).1 0) (mks [.agg [.v, .v, .v, .roS [.i64, .i64, .i64, .u64, .i64], .v], .ro .u8] [.node [.v (.int .i64 no), .v (.int .i64 h0), .v (.int .i64 h1), .structs l, .v (.int .i64 rt)], .ints b] 0).2 (retP Try.prog Try.f8.results.toList 2 (⟨[.v (.bool true)], []⟩ : Post)) :=
 Eq.mpr (by kernel_rfl) (vc_sbytes20 O Y R no h0 h1 rt l b F hy hr g0 g1 g2)
theorem ok_sbytes20 (I : Sx.Interp) (O : OO) (hO : O = oo) (Y : OY) (hY : Y = yO O) (R : OB) (hR : R = bO) : Sx.SpecOK I Try.prog 8 (pspec [.agg [.v, .v, .v, .roS [.i64, .i64, .i64, .u64, .i64], .v], .ro .u8] false (g_sbytes20 O Y R)) := by
 refine spec_pI (spX0_ok I O hO Y hY R hR) (by kernel_rfl) (fun ds => match ds with | [.node [.v (.int .i64 no), .v (.int .i64 h0), .v (.int .i64 h1), .structs l, .v (.int .i64 rt)], .ints b] => [] | _ => []) Try.func8 (by kernel_rfl) (by kernel_rfl) rfl Try.ntmps8 (by decide) ?_ ?_
 ·intro ds p bs F h
  unfold g_sbytes20 at h
  split at h
  ·rename_i no h0 h1 l rt b
   simp only [Option.some.injEq, Prod.mk.injEq] at h
   obtain ⟨_, _, rfl⟩ := h
   kernel_rfl
  ·cases h
 ·intro ds bs F hl h
  unfold g_sbytes20 at h
  split at h
  ·rename_i no h0 h1 l rt b
   simp only [Option.some.injEq, Prod.mk.injEq, Bool.and_eq_true] at h
   obtain ⟨⟨⟨g0, g1⟩, g2⟩, _, rfl⟩ := h
   exact wpc_sbytes20 O Y R no h0 h1 rt l b (fo_oo O hO) hY hR (by first | exact g0 | (simp only [Bool.and_eq_true]; exact g0)) (by first | exact g1 | (simp only [Bool.and_eq_true]; exact g1)) (by first | exact g2 | (simp only [Bool.and_eq_true]; exact g2))
  ·cases h
end Go.Proofs.Ytgekiddgdjeaiaa
