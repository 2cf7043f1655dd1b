/- The other reading of the log (corsnedref44), by the symbolic machine (printed by genLg5.py; VCs by VcTool). -/
import Derived.Test.YtaohpdhhbnempaaLg3
import Derived.Test.YtaohpdhhbnempaaLu
import Derived.Test.YtaohpdhhbnempaaR8
namespace Go.Proofs.Ytaohpdhhbnempaa
open Go.RowKit Go.Lib Ckp Cfd Cpd Sx
set_option linter.unusedVariables false
set_option linter.unusedSimpArgs false
set_option maxRecDepth 1000000
def onN (O : OO) (R : OB) (b : List Int) : Int := bif nxtOk O R b 0 then ((lgRow O R (nxtB R b 0)).length : Int) else 0
def onB (O : OO) (R : OB) (b : List Int) : List Int := bif nxtOk O R b 0 then nxtB R b 0 else []
theorem rowsB_leC {O : OO} {R : OB} {c : Nat} : ∀ {l : List (List Int)}, (∀ x ∈ l, (lgRow O R x).length ≤ c) → (rowsB O R l).length ≤ c * l.length
 | [], _ => Nat.le_refl _
 | x :: xs, h => by
  have h1 := h x (List.mem_cons_self ..)
  have h2 := rowsB_leC (l := xs) fun y hy => h y (List.mem_cons_of_mem _ hy)
  rw [rowsB, List.length_append, List.length_cons, Nat.mul_succ]; omega
theorem strE_comm (a b : List Int) : strE a b = strE b a := by
 unfold strE
 rw [Bool.eq_iff_iff, beq_iff_eq, beq_iff_eq]
 exact eq_comm
theorem nxt_fits {R : OB} (hr : R = bO) {b : List Int} (hb : byB b = true) {e : Nat} (ht : nxtT R b e = false) :
  R.nOk (b.drop e) = true ∧ 0 ≤ R.nV (b.drop e) ∧ R.nV (b.drop e) ≤ 65536 ∧ R.nV (b.drop e) + 8 ≤ ((R.nR (b.drop e)).length : Int) ∧ ((R.row (R.nV (b.drop e))).length : Int) + ((R.nR (b.drop e)).length : Int) = ((b.drop e).length : Int) := by
 unfold nxtT at ht
 cases k0 : R.nOk (b.drop e)
 ·rw [k0] at ht; cases ht
 cases k1 : iLt 65536 (R.nV (b.drop e))
 ·rw [k0, k1] at ht
  have k2 : iLt (((R.nR (b.drop e)).length : Int) - 8) (R.nV (b.drop e)) = false := ht
  simp only [iLt_f] at k1 k2
  subst hr
  have n1 : (numG (b.drop e) 10 0 0).1 = true := k0
  have n2 := num_back (byB_drop hb e) (v := (numG (b.drop e) 10 0 0).2.1) (m := (numG (b.drop e) 10 0 0).2.2) (Prod.ext n1 rfl)
  refine ⟨rfl, n2.1, by omega, by omega, ?_⟩
  have e1 : bO.nR (b.drop e) = (b.drop e).drop (numG (b.drop e) 10 0 0).2.2 := by
   show (bif (numG (b.drop e) 10 0 0).1 then (b.drop e).drop (numG (b.drop e) 10 0 0).2.2 else []) = _
   rw [n1]; rfl
  have e2 : bO.row (bO.nV (b.drop e)) = rowI (numG (b.drop e) 10 0 0).2.1 := rfl
  rw [e1, e2]
  have e3 := congrArg List.length n2.2.2.1
  rw [List.length_append] at e3
  omega
 ·rw [k0, k1] at ht; cases ht
theorem nxt_drop {O : OO} {R : OB} (hr : R = bO) {b : List Int} (hb : byB b = true) {e : Nat} (he : e ≤ b.length) : nxtOk O R (b.drop e) 0 = nxtOk O R b e ∧ (nxtOk O R b e = true → nxtB R (b.drop e) 0 = nxtB R b e) := by
 have hT : nxtT R (b.drop e) 0 = nxtT R b e := rfl
 cases ht : nxtT R b e
 ·have f := nxt_fits hr hb ht
  have hl : (b.drop e).length = b.length - e := List.length_drop
  have hB : nxtB R (b.drop e) 0 = nxtB R b e := by
   unfold nxtB nxtF
   rw [List.drop_zero, List.drop_drop]
   congr 2
   omega
  unfold nxtOk
  rw [hT, ht, hB]
  exact ⟨rfl, fun _ => rfl⟩
 ·unfold nxtOk
  rw [hT, ht]
  exact ⟨rfl, fun h => by cases h⟩
theorem nxtB_len {R : OB} (hr : R = bO) {b : List Int} (hb : byB b = true) {e : Nat} (he : e ≤ b.length) (ht : nxtT R b e = false) : ((nxtB R b e).length : Int) = R.nV (b.drop e) := by
 have f := nxt_fits hr hb ht
 have hl : (b.drop e).length = b.length - e := List.length_drop
 unfold nxtB nxtF
 rw [List.length_take, List.length_drop]
 omega
def spU0 (O : OO) (R : OB) (f : FuncId) : Option Sx.Spec := match f with
 | 44 => some (gspec [.ro .u8] (g_sumO O))
 | 45 => some (pspec [.ro .u8, .v] false (g_put8 O R))
 | 69 => some (pspec [.ro .u8] false (g_open8 O R))
 | 70 => some (pspec [.obj 152 [.ro .u8, .v]] true (g_num8 O R))
 | 71 => some (pspec [.robj 152 [.ro .u8, .v]] false (g_ok8 O R))
 | 72 => some (pspec [.robj 152 [.ro .u8, .v]] false (g_left8 O R))
 | f => spG4 O R f
theorem spU0_ok (I : Sx.Interp) (O : OO) (hO : O = oo) (R : OB) (hR : R = bO) : ∀ f s, spU0 O R f = some s → Sx.SpecOK I Try.prog f s := by
 intro f s h
 unfold spU0 at h
 split at h
 · cases h; exact ok_rSum4 I O hO
 · cases h; exact ok_put8 I O hO R hR
 · cases h; exact ok_open8 I O hO R hR
 · cases h; exact ok_num8 I O hO R hR
 · cases h; exact ok_ok8 I O hO R hR
 · cases h; exact ok_left8 I O hO R hR
 ·exact spG4_ok I O hO R hR _ s h
def g_row44 (O : OO) (R : OB) (ds : List Dt) : Option (Bool × List Bool × (List Bool → Post)) := match ds with
 | [.ints b] => some ((Nat.ble b.length 1000000), [], fun _ => ⟨[.row 1], [(1, .own 5 (.ints .u8 (lgRow O R b)))]⟩)
 | _ => none
set_option maxHeartbeats 4000000 in
theorem vc_row44 (O : OO) (R : OB) (b : List Int) (F : FO O) (hr : R = bO) (hS : SB O) (h0 : (Nat.ble b.length 1000000) = true) :
 If (b.length.ble 1099511627776) (If (Nat.ble 0 1000000 && iLe (iOf (Cont.ints .u8 b).n) 9223372036854775807) (If ((nMul (nAdd (bif iLt (iOf (Cont.ints .u8 b).n) 0 then [] else app
  [] (R.row (iOf b.length))).length 8) 1).ble 140737488355328 && (nAdd (bif iLt (iOf (Cont.ints .u8 b).n) 0 then [] else app [] (R.row (iOf b.length))).length 8).ble
  9223372036854775807) (If ((nMul (nAdd (app (bif iLt (iOf (Cont.ints .u8 b).n) 0 then [] else app [] (R.row (iOf b.length))) (tabI (O.sum b) 8)).length b.length) 1).ble
  140737488355328 && (nAdd (app (bif iLt (iOf (Cont.ints .u8 b).n) 0 then [] else app [] (R.row (iOf b.length))) (tabI (O.sum b) 8)).length b.length).ble 9223372036854775807) (True ∧
  EqI (app (app (bif iLt (iOf (Cont.ints .u8 b).n) 0 then [] else app [] (R.row (iOf b.length))) (tabI (O.sum b) 8)) b) (lgRow O R b) ∧ True) False) False) False) False := by
 have h0' := Nat.le_of_ble_eq_true h0
 have e : (bif iLt (iOf (Cont.ints IntKind.u8 b).n) 0 then [] else app [] (R.row (iOf b.length))) = R.row (b.length : Int) := by
  rw [show iLt (iOf (Cont.ints IntKind.u8 b).n) 0 = false by simp only [Sx.app, Sx.nAdd, Sx.nSub, Sx.nMul, Sx.nPow, Sx.nDiv, Sx.nMod, Sx.iAdd, Sx.iSub, Sx.iMul, Sx.iNeg, Sx.iPow, Sx.iOf, Bool.and_eq_true, Bool.or_eq_true, Sx.iLt_t, Sx.iLt_f, Sx.iLe_t, Sx.iLe_f, Sx.iEq_t, Sx.iEq_f, Sx.iBeq_t, Sx.iBeq_f, Sx.iBne_t, Sx.iBne_f, Nat.ble_eq, Nat.beq_eq, Sx.Cont.n]; omega]; rfl
 rw [e]
 have l1 := row_len hr (b.length : Int)
 have l2 : (tabI (O.sum b) 8).length = 8 := tab_length _ 8
 refine Sx.if_true (by simp only [Bool.and_eq_true, Bool.or_eq_true, Sx.iLt_t, Sx.iLt_f, Sx.iLe_t, Sx.iLe_f, Sx.iEq_t, Sx.iEq_f, Sx.iBeq_t, Sx.iBeq_f, Sx.iBne_t, Sx.iBne_f, Nat.ble_eq, Nat.beq_eq, Sx.Cont.n]; omega) (Sx.if_true (by simp only [Bool.and_eq_true, Bool.or_eq_true, Sx.iLt_t, Sx.iLt_f, Sx.iLe_t, Sx.iLe_f, Sx.iEq_t, Sx.iEq_f, Sx.iBeq_t, Sx.iBeq_f, Sx.iBne_t, Sx.iBne_f, Nat.ble_eq, Nat.beq_eq, Sx.Cont.n, Sx.app, Sx.nAdd, Sx.nSub, Sx.nMul, Sx.nPow, Sx.nDiv, Sx.nMod, Sx.iAdd, Sx.iSub, Sx.iMul, Sx.iNeg, Sx.iPow, Sx.iOf]; omega) (Sx.if_true (by simp only [Bool.and_eq_true, Bool.or_eq_true, Sx.iLt_t, Sx.iLt_f, Sx.iLe_t, Sx.iLe_f, Sx.iEq_t, Sx.iEq_f, Sx.iBeq_t, Sx.iBeq_f, Sx.iBne_t, Sx.iBne_f, Nat.ble_eq, Nat.beq_eq, Sx.Cont.n, Sx.app, Sx.nAdd, Sx.nSub, Sx.nMul, Sx.nPow, Sx.nDiv, Sx.nMod, Sx.iAdd, Sx.iSub, Sx.iMul, Sx.iNeg, Sx.iPow, Sx.iOf]; omega) (Sx.if_true (by simp only [Bool.and_eq_true, Bool.or_eq_true, Sx.iLt_t, Sx.iLt_f, Sx.iLe_t, Sx.iLe_f, Sx.iEq_t, Sx.iEq_f, Sx.iBeq_t, Sx.iBeq_f, Sx.iBne_t, Sx.iBne_f, Nat.ble_eq, Nat.beq_eq, Sx.Cont.n, Sx.app, Sx.nAdd, Sx.nSub, Sx.nMul, Sx.nPow, Sx.nDiv, Sx.nMod, Sx.iAdd, Sx.iSub, Sx.iMul, Sx.iNeg, Sx.iPow, Sx.iOf, List.length_append, l2]; omega) ⟨trivial, ?_, trivial⟩)))
 rfl
theorem wpc_row44 (O : OO) (R : OB) (b : List Int) (F : FO O) (hr : R = bO) (hS : SB O) (h0 : (Nat.ble b.length 1000000) = true) : wpcI Try.prog (spU0 O R) Try.f18.ntmps [] (bodyOf Try.f18) 0 64 (envP (mks [.ro .u8] [.ints b] 0).1 0) (mks [.ro .u8] [.ints b] 0).2 (retP Try.prog Try.f18.results.toList 1 (⟨[.row 1], [(1, .own 5 (.ints .u8 (lgRow O R b)))]⟩ : Post)) :=
 Eq.mpr (by kernel_rfl) (vc_row44 O R b F hr hS h0)
theorem ok_row44 (I : Sx.Interp) (O : OO) (hO : O = oo) (R : OB) (hR : R = bO) : Sx.SpecOK I Try.prog 18 (pspec [.ro .u8] false (g_row44 O R)) := by
 refine spec_pI (spU0_ok I O hO R hR) (by kernel_rfl) (fun ds => match ds with | [.ints b] => [] | _ => []) Try.func18 (by kernel_rfl) (by kernel_rfl) rfl Try.ntmps18 (by decide) ?_ ?_
 ·intro ds p bs F h
  unfold g_row44 at h
  split at h
  ·rename_i b
   simp only [Option.some.injEq, Prod.mk.injEq] at h
   obtain ⟨_, _, rfl⟩ := h
   kernel_rfl
  ·cases h
 ·intro ds bs F hl h
  unfold g_row44 at h
  split at h
  ·rename_i b
   simp only [Option.some.injEq, Prod.mk.injEq, Bool.and_eq_true] at h
   obtain ⟨h0, _, rfl⟩ := h
   exact wpc_row44 O R b (fo_oo O hO) hR (by subst hO; exact sb_oo) (by first | exact h0 | (simp only [Bool.and_eq_true]; exact h0))
  ·cases h
def spU1 (O : OO) (R : OB) (f : FuncId) : Option Sx.Spec := match f with
 | 18 => some (pspec [.ro .u8] false (g_row44 O R))
 | f => spU0 O R f
theorem spU1_ok (I : Sx.Interp) (O : OO) (hO : O = oo) (R : OB) (hR : R = bO) : ∀ f s, spU1 O R f = some s → Sx.SpecOK I Try.prog f s := by
 intro f s h
 unfold spU1 at h
 split at h
 · cases h; exact ok_row44 I O hO R hR
 ·exact spU0_ok I O hO R hR _ s h
def g_all44 (O : OO) (R : OB) (ds : List Dt) : Option (Bool × List Bool × (List Bool → Post)) := match ds with
 | [.rows a] => some ((Nat.ble a.length 1000) && (a.all fun x => Nat.ble x.length 1000), [], fun _ => ⟨[.row 1], [(1, .own 5 (.ints .u8 (rowsB O R a)))]⟩)
 | _ => none
set_option maxHeartbeats 4000000 in
theorem vc_all44 (O : OO) (R : OB) (a : List (List Int)) (F : FO O) (hr : R = bO) (hS : SB O) (h0 : (Nat.ble a.length 1000) = true) (h1 : (a.all fun x => Nat.ble x.length 1000) = true) :
 (∃ (x : Nat), x ≤ a.length ∧ (Value.int .i64 0 = Value.int .i64 (iOf x) ∧ True) ∧ EqI [] (tnB O R a x) ∧ Res.ros a = Res.ros a ∧ True) ∧ ∀ (x : Nat), x ≤ a.length → If (iLt (iOf x)
  (iOf a.length)) (If (iLe 0 (iOf x) && (iOf x).toNat.blt a.length) (If (true && !false && Nat.beq 1 1 && Nat.beq 0 0 && (iOf x).toNat.blt a.length) (If ((a.getD (iOf x).toNat
  []).length.ble 1000000) (If ((nMul (nAdd (tnB O R a x).length (lgRow O R (a.getD (iOf x).toNat [])).length) 1).ble 140737488355328 && (nAdd (tnB O R a x).length (lgRow O R (a.getD
  (iOf x).toNat [])).length).ble 9223372036854775807) (∃ (x' : Nat), x' ≤ a.length ∧ (nSub a.length x').succ ≤ nSub a.length x ∧ (Value.int .i64 (IntKind.i64.wrap (iAdd (iOf x) 1)) =
  Value.int .i64 (iOf x') ∧ True) ∧ EqI (app (tnB O R a x) (lgRow O R (a.getD (iOf x).toNat []))) (tnB O R a x') ∧ Res.ros a = Res.ros a ∧ True) False) False) False) False) (True ∧
  EqI (tnB O R a x) (rowsB O R a) ∧ True) := by
 have h0' := Nat.le_of_ble_eq_true h0
 have hL : ∀ x ∈ a, x.length ≤ 1000 := fun x hx => Nat.le_of_ble_eq_true (List.all_eq_true.1 h1 x hx)
 have hn : ∀ k : Nat, (iOf k).toNat = k := fun k => by simp only [Sx.app, Sx.nAdd, Sx.nSub, Sx.nMul, Sx.nPow, Sx.nDiv, Sx.nMod, Sx.iAdd, Sx.iSub, Sx.iMul, Sx.iNeg, Sx.iPow, Sx.iOf, Int.toNat_natCast]
 simp only [hn]
 have hrl : ∀ x : List Int, x.length ≤ 1000 → (lgRow O R x).length ≤ 1018 := fun x hx => by
  have k1 := lg_len (O := O) hr x
  have k2 := row_len hr (x.length : Int)
  omega
 have hsz : ∀ k, (tnB O R a k).length ≤ 1018000 := fun k => by
  have := rowsB_leC (O := O) (R := R) (c := 1018) (l := a.take k) (fun x hx => hrl x (hL x (List.mem_of_mem_take hx)))
  have e : (rowsB O R (a.take k)).length = (tnB O R a k).length := rfl
  rw [List.length_take] at this
  omega
 refine ⟨⟨0, Nat.zero_le _, ⟨rfl, trivial⟩, rfl, (by first | rfl | trivial), trivial⟩, fun x hx => ?_⟩
 refine Sx.if_both (fun d => ?_) (fun d => ?_)
 ·simp only [Bool.and_eq_true, Bool.or_eq_true, Sx.iLt_t, Sx.iLt_f, Sx.iLe_t, Sx.iLe_f, Sx.iEq_t, Sx.iEq_f, Sx.iBeq_t, Sx.iBeq_f, Sx.iBne_t, Sx.iBne_f, Nat.ble_eq, Nat.beq_eq, Sx.Cont.n, Sx.app, Sx.nAdd, Sx.nSub, Sx.nMul, Sx.nPow, Sx.nDiv, Sx.nMod, Sx.iAdd, Sx.iSub, Sx.iMul, Sx.iNeg, Sx.iPow, Sx.iOf] at d
  have hb : x.blt a.length = true := by rw [Nat.blt_eq]; omega
  have w1 : IntKind.i64.wrap (iAdd (iOf x) 1) = iOf (x + 1) := by simp only [Sx.app, Sx.nAdd, Sx.nSub, Sx.nMul, Sx.nPow, Sx.nDiv, Sx.nMod, Sx.iAdd, Sx.iSub, Sx.iMul, Sx.iNeg, Sx.iPow, Sx.iOf]; rw [IntKind.wrap_i64]; omega
  have hg : (a.getD x []).length ≤ 1000 := by
   rw [List.getD_eq_getElem?_getD, List.getElem?_eq_getElem (show x < a.length by omega)]
   exact hL _ (List.getElem_mem _)
  have e1 : app (tnB O R a x) (lgRow O R (a.getD x [])) = tnB O R a (x + 1) := (tnB_succ (show x < a.length by omega)).symm
  have k1 := hsz x
  have k2 := hrl _ hg
  rw [hb, w1, e1]
  refine Sx.if_true (by simp only [Bool.and_eq_true, Bool.or_eq_true, Sx.iLt_t, Sx.iLt_f, Sx.iLe_t, Sx.iLe_f, Sx.iEq_t, Sx.iEq_f, Sx.iBeq_t, Sx.iBeq_f, Sx.iBne_t, Sx.iBne_f, Nat.ble_eq, Nat.beq_eq, Sx.Cont.n, Sx.app, Sx.nAdd, Sx.nSub, Sx.nMul, Sx.nPow, Sx.nDiv, Sx.nMod, Sx.iAdd, Sx.iSub, Sx.iMul, Sx.iNeg, Sx.iPow, Sx.iOf]; exact ⟨by omega, trivial⟩) (Sx.if_true rfl (Sx.if_true (by simp only [Bool.and_eq_true, Bool.or_eq_true, Sx.iLt_t, Sx.iLt_f, Sx.iLe_t, Sx.iLe_f, Sx.iEq_t, Sx.iEq_f, Sx.iBeq_t, Sx.iBeq_f, Sx.iBne_t, Sx.iBne_f, Nat.ble_eq, Nat.beq_eq, Sx.Cont.n]; omega) (Sx.if_true (by simp only [Bool.and_eq_true, Bool.or_eq_true, Sx.iLt_t, Sx.iLt_f, Sx.iLe_t, Sx.iLe_f, Sx.iEq_t, Sx.iEq_f, Sx.iBeq_t, Sx.iBeq_f, Sx.iBne_t, Sx.iBne_f, Nat.ble_eq, Nat.beq_eq, Sx.Cont.n, Sx.app, Sx.nAdd, Sx.nSub, Sx.nMul, Sx.nPow, Sx.nDiv, Sx.nMod, Sx.iAdd, Sx.iSub, Sx.iMul, Sx.iNeg, Sx.iPow, Sx.iOf]; omega) ?_)))
  exact ⟨x + 1, by omega, by simp only [Sx.app, Sx.nAdd, Sx.nSub, Sx.nMul, Sx.nPow, Sx.nDiv, Sx.nMod, Sx.iAdd, Sx.iSub, Sx.iMul, Sx.iNeg, Sx.iPow, Sx.iOf]; omega, ⟨rfl, trivial⟩, rfl, (by first | rfl | trivial), trivial⟩
 ·simp only [Bool.and_eq_true, Bool.or_eq_true, Sx.iLt_t, Sx.iLt_f, Sx.iLe_t, Sx.iLe_f, Sx.iEq_t, Sx.iEq_f, Sx.iBeq_t, Sx.iBeq_f, Sx.iBne_t, Sx.iBne_f, Nat.ble_eq, Nat.beq_eq, Sx.Cont.n, Sx.app, Sx.nAdd, Sx.nSub, Sx.nMul, Sx.nPow, Sx.nDiv, Sx.nMod, Sx.iAdd, Sx.iSub, Sx.iMul, Sx.iNeg, Sx.iPow, Sx.iOf] at d
  obtain rfl : x = a.length := by omega
  refine ⟨trivial, ?_, trivial⟩
  show rowsB O R (a.take a.length) = rowsB O R a
  rw [List.take_length]
theorem wpc_all44 (O : OO) (R : OB) (a : List (List Int)) (F : FO O) (hr : R = bO) (hS : SB O) (h0 : (Nat.ble a.length 1000) = true) (h1 : (a.all fun x => Nat.ble x.length 1000) = true) : wpcI Try.prog (spU1 O R) Try.f19.ntmps [⟨Nat, [0], [(3, 5, .ints .u8 [])], fun B k => [(3, .row B), (4, .v (.int .i64 (k : Nat)))], fun B k => [(B, .own 5 (.ints .u8 (tnB O R a k)))], fun k => k ≤ a.length, fun k => a.length - k, 0⟩] (bodyOf Try.f19) 0 64 (envP (mks [.ros] [.rows a] 0).1 0) (mks [.ros] [.rows a] 0).2 (retP Try.prog Try.f19.results.toList 1 (⟨[.row 1], [(1, .own 5 (.ints .u8 (rowsB O R a)))]⟩ : Post)) :=
 Eq.mpr (by kernel_rfl) (vc_all44 O R a F hr hS h0 h1)
theorem ok_all44 (I : Sx.Interp) (O : OO) (hO : O = oo) (R : OB) (hR : R = bO) : Sx.SpecOK I Try.prog 19 (pspec [.ros] false (g_all44 O R)) := by
 refine spec_pI (spU1_ok I O hO R hR) (by kernel_rfl) (fun ds => match ds with | [.rows a] => [⟨Nat, [0], [(3, 5, .ints .u8 [])], fun B k => [(3, .row B), (4, .v (.int .i64 (k : Nat)))], fun B k => [(B, .own 5 (.ints .u8 (tnB O R a k)))], fun k => k ≤ a.length, fun k => a.length - k, 0⟩] | _ => []) Try.func19 (by kernel_rfl) (by kernel_rfl) rfl Try.ntmps19 (by decide) ?_ ?_
 ·intro ds p bs F h
  unfold g_all44 at h
  split at h
  ·rename_i a
   simp only [Option.some.injEq, Prod.mk.injEq] at h
   obtain ⟨_, _, rfl⟩ := h
   kernel_rfl
  ·cases h
 ·intro ds bs F hl h
  unfold g_all44 at h
  split at h
  ·rename_i a
   simp only [Option.some.injEq, Prod.mk.injEq, Bool.and_eq_true] at h
   obtain ⟨⟨h0, h1⟩, _, rfl⟩ := h
   exact wpc_all44 O R a (fo_oo O hO) hR (by subst hO; exact sb_oo) (by first | exact h0 | (simp only [Bool.and_eq_true]; exact h0)) (by first | exact h1 | (simp only [Bool.and_eq_true]; exact h1))
  ·cases h
def g_one44 (O : OO) (R : OB) (ds : List Dt) : Option (Bool × List Bool × (List Bool → Post)) := match ds with
 | [.ints b] => some ((Nat.ble b.length 1000000) && (byB b), [], fun _ => ⟨[.row 1, .v (.int .i64 (onN O R b)), .v (.bool (nxtOk O R b 0))], [(1, .own 5 (.ints .u8 (onB O R b)))]⟩)
 | _ => none
set_option maxHeartbeats 4000000 in
theorem vc_one44 (O : OO) (R : OB) (b : List Int) (F : FO O) (hr : R = bO) (hS : SB O) (h0 : (Nat.ble b.length 1000000) = true) (h1 : (byB b) = true) :
 If (b.length.ble 1000000) (If (b.length.ble 1000000 && byB b) (If (!!bif R.nOk b then false else true) ((Value.int .i64 0 = Value.int .i64 (onN O R b) ∧ Value.bool false =
  Value.bool (nxtOk O R b 0)) ∧ True ∧ EqI [] (onB O R b) ∧ True) (If (iLt 65536 (R.nV b)) ((Value.int .i64 0 = Value.int .i64 (onN O R b) ∧ Value.bool false = Value.bool (nxtOk O R b
  0)) ∧ True ∧ EqI [] (onB O R b) ∧ True) (If (iLt (iOf (R.nR b).length) (IntKind.i64.wrap (iAdd (R.nV b) 8))) ((Value.int .i64 0 = Value.int .i64 (onN O R b) ∧ Value.bool false =
  Value.bool (nxtOk O R b 0)) ∧ True ∧ EqI [] (onB O R b) ∧ True) (If (iLe 0 (IntKind.i64.wrap (iAdd (IntKind.i64.wrap (iSub (iOf (Cont.ints .u8 b).n) (iOf (R.nR b).length))) 8)) &&
  iLe (IntKind.i64.wrap (iAdd (IntKind.i64.wrap (iSub (iOf (Cont.ints .u8 b).n) (iOf (R.nR b).length))) 8)) (IntKind.i64.wrap (iAdd (IntKind.i64.wrap (iAdd (IntKind.i64.wrap (iSub
  (iOf (Cont.ints .u8 b).n) (iOf (R.nR b).length))) 8)) (R.nV b))) && iLe (IntKind.i64.wrap (iAdd (IntKind.i64.wrap (iAdd (IntKind.i64.wrap (iSub (iOf (Cont.ints .u8 b).n) (iOf (R.nR
  b).length))) 8)) (R.nV b))) (iOf (Cont.ints .u8 b).n)) (If ((List.take (nSub (IntKind.i64.wrap (iAdd (IntKind.i64.wrap (iAdd (IntKind.i64.wrap (iSub (iOf b.length) (iOf (R.nR
  b).length))) 8)) (R.nV b))).toNat (IntKind.i64.wrap (iAdd (IntKind.i64.wrap (iSub (iOf b.length) (iOf (R.nR b).length))) 8)).toNat) (List.drop (IntKind.i64.wrap (iAdd
  (IntKind.i64.wrap (iSub (iOf b.length) (iOf (R.nR b).length))) 8)).toNat b)).length.ble 1000000) (If (iLe 0 0 && iLe 0 (IntKind.i64.wrap (iAdd (IntKind.i64.wrap (iAdd
  (IntKind.i64.wrap (iSub (iOf (Cont.ints .u8 b).n) (iOf (R.nR b).length))) 8)) (R.nV b))) && iLe (IntKind.i64.wrap (iAdd (IntKind.i64.wrap (iAdd (IntKind.i64.wrap (iSub (iOf
  (Cont.ints .u8 b).n) (iOf (R.nR b).length))) 8)) (R.nV b))) (iOf (Cont.ints .u8 b).n)) (If (!(strOfNums (lgRow O R (List.take (nSub (IntKind.i64.wrap (iAdd (IntKind.i64.wrap (iAdd
  (IntKind.i64.wrap (iSub (iOf b.length) (iOf (R.nR b).length))) 8)) (R.nV b))).toNat (IntKind.i64.wrap (iAdd (IntKind.i64.wrap (iSub (iOf b.length) (iOf (R.nR b).length))) 8)).toNat)
  (List.drop (IntKind.i64.wrap (iAdd (IntKind.i64.wrap (iSub (iOf b.length) (iOf (R.nR b).length))) 8)).toNat b)))).toList == (strOfNums (List.take (nSub (IntKind.i64.wrap (iAdd
  (IntKind.i64.wrap (iAdd (IntKind.i64.wrap (iSub (iOf b.length) (iOf (R.nR b).length))) 8)) (R.nV b))).toNat 0) (List.drop 0 b))).toList) ((Value.int .i64 0 = Value.int .i64 (onN O R
  b) ∧ Value.bool false = Value.bool (nxtOk O R b 0)) ∧ True ∧ EqI [] (onB O R b) ∧ True) (If ((nMul (nAdd 0 (List.take (nSub (IntKind.i64.wrap (iAdd (IntKind.i64.wrap (iAdd
  (IntKind.i64.wrap (iSub (iOf b.length) (iOf (R.nR b).length))) 8)) (R.nV b))).toNat (IntKind.i64.wrap (iAdd (IntKind.i64.wrap (iSub (iOf b.length) (iOf (R.nR b).length))) 8)).toNat)
  (List.drop (IntKind.i64.wrap (iAdd (IntKind.i64.wrap (iSub (iOf b.length) (iOf (R.nR b).length))) 8)).toNat b)).length) 1).ble 140737488355328 && (nAdd 0 (List.take (nSub
  (IntKind.i64.wrap (iAdd (IntKind.i64.wrap (iAdd (IntKind.i64.wrap (iSub (iOf b.length) (iOf (R.nR b).length))) 8)) (R.nV b))).toNat (IntKind.i64.wrap (iAdd (IntKind.i64.wrap (iSub
  (iOf b.length) (iOf (R.nR b).length))) 8)).toNat) (List.drop (IntKind.i64.wrap (iAdd (IntKind.i64.wrap (iSub (iOf b.length) (iOf (R.nR b).length))) 8)).toNat b)).length).ble
  9223372036854775807) ((Value.int .i64 (IntKind.i64.wrap (iAdd (IntKind.i64.wrap (iAdd (IntKind.i64.wrap (iSub (iOf b.length) (iOf (R.nR b).length))) 8)) (R.nV b))) = Value.int .i64
  (onN O R b) ∧ Value.bool true = Value.bool (nxtOk O R b 0)) ∧ True ∧ EqI (app [] (List.take (nSub (IntKind.i64.wrap (iAdd (IntKind.i64.wrap (iAdd (IntKind.i64.wrap (iSub (iOf
  b.length) (iOf (R.nR b).length))) 8)) (R.nV b))).toNat (IntKind.i64.wrap (iAdd (IntKind.i64.wrap (iSub (iOf b.length) (iOf (R.nR b).length))) 8)).toNat) (List.drop (IntKind.i64.wrap
  (iAdd (IntKind.i64.wrap (iSub (iOf b.length) (iOf (R.nR b).length))) 8)).toNat b))) (onB O R b) ∧ True) False)) False) False) False)))) False) False := by
 have h0' := Nat.le_of_ble_eq_true h0
 simp only [show (Cont.ints IntKind.u8 b).n = b.length from rfl]
 have hok : nxtOk O R b 0 = bif nxtT R b 0 then false else prfE b (lgRow O R (nxtB R b 0)) := rfl
 have hT : nxtT R b 0 = bif (bif !(R.nOk b) then true else iLt 65536 (R.nV b)) then true else iLt (((R.nR b).length : Int) - 8) (R.nV b) := rfl
 refine Sx.if_true (by simp only [Bool.and_eq_true, Bool.or_eq_true, Sx.iLt_t, Sx.iLt_f, Sx.iLe_t, Sx.iLe_f, Sx.iEq_t, Sx.iEq_f, Sx.iBeq_t, Sx.iBeq_f, Sx.iBne_t, Sx.iBne_f, Nat.ble_eq, Nat.beq_eq, Sx.Cont.n]; omega) (Sx.if_true (by rw [h1]; simp only [Bool.and_eq_true, Bool.or_eq_true, Sx.iLt_t, Sx.iLt_f, Sx.iLe_t, Sx.iLe_f, Sx.iEq_t, Sx.iEq_f, Sx.iBeq_t, Sx.iBeq_f, Sx.iBne_t, Sx.iBne_f, Nat.ble_eq, Nat.beq_eq, Sx.Cont.n]; exact ⟨by omega, trivial⟩) ?_)
 cases k0 : R.nOk b
 ·have c : nxtOk O R b 0 = false := by rw [hok, hT, k0]; rfl
  exact Sx.if_true rfl ⟨⟨congrArg _ (by unfold onN; rw [c]; rfl), congrArg _ c.symm⟩, trivial, (by unfold onB; rw [c]; rfl), trivial⟩
 refine Sx.if_false rfl (Sx.if_both (fun k1 => ?_) (fun k1 => ?_))
 ·have c : nxtOk O R b 0 = false := by rw [hok, hT, k0, k1]; rfl
  exact ⟨⟨congrArg _ (by unfold onN; rw [c]; rfl), congrArg _ c.symm⟩, trivial, (by unfold onB; rw [c]; rfl), trivial⟩
 have hnum : 0 ≤ R.nV b ∧ (R.nR b).length ≤ b.length := by
  subst hr
  have n1 : (numG b 10 0 0).1 = true := k0
  have n2 := num_back h1 (v := (numG b 10 0 0).2.1) (m := (numG b 10 0 0).2.2) (Prod.ext n1 rfl)
  refine ⟨n2.1, ?_⟩
  show (bif (numG b 10 0 0).1 then b.drop (numG b 10 0 0).2.2 else []).length ≤ _
  rw [n1, cond_true, List.length_drop]; omega
 have k1' := k1
 simp only [Bool.and_eq_true, Bool.or_eq_true, Sx.iLt_t, Sx.iLt_f, Sx.iLe_t, Sx.iLe_f, Sx.iEq_t, Sx.iEq_f, Sx.iBeq_t, Sx.iBeq_f, Sx.iBne_t, Sx.iBne_f, Nat.ble_eq, Nat.beq_eq, Sx.Cont.n] at k1'
 have w0 : IntKind.i64.wrap (iAdd (R.nV b) 8) = R.nV b + 8 := by simp only [Sx.app, Sx.nAdd, Sx.nSub, Sx.nMul, Sx.nPow, Sx.nDiv, Sx.nMod, Sx.iAdd, Sx.iSub, Sx.iMul, Sx.iNeg, Sx.iPow, Sx.iOf]; rw [IntKind.wrap_i64]; omega
 rw [w0]
 refine Sx.if_both (fun k2 => ?_) (fun k2 => ?_)
 ·have c : nxtOk O R b 0 = false := by
   rw [hok, hT, k0, k1, show iLt (((R.nR b).length : Int) - 8) (R.nV b) = true by simp only [Bool.and_eq_true, Bool.or_eq_true, Sx.iLt_t, Sx.iLt_f, Sx.iLe_t, Sx.iLe_f, Sx.iEq_t, Sx.iEq_f, Sx.iBeq_t, Sx.iBeq_f, Sx.iBne_t, Sx.iBne_f, Nat.ble_eq, Nat.beq_eq, Sx.Cont.n, Sx.app, Sx.nAdd, Sx.nSub, Sx.nMul, Sx.nPow, Sx.nDiv, Sx.nMod, Sx.iAdd, Sx.iSub, Sx.iMul, Sx.iNeg, Sx.iPow, Sx.iOf] at k2 ⊢; omega]; rfl
  exact ⟨⟨congrArg _ (by unfold onN; rw [c]; rfl), congrArg _ c.symm⟩, trivial, (by unfold onB; rw [c]; rfl), trivial⟩
 have ht : nxtT R b 0 = false := by
  rw [hT, k0, k1, show iLt (((R.nR b).length : Int) - 8) (R.nV b) = false by simp only [Bool.and_eq_true, Bool.or_eq_true, Sx.iLt_t, Sx.iLt_f, Sx.iLe_t, Sx.iLe_f, Sx.iEq_t, Sx.iEq_f, Sx.iBeq_t, Sx.iBeq_f, Sx.iBne_t, Sx.iBne_f, Nat.ble_eq, Nat.beq_eq, Sx.Cont.n, Sx.app, Sx.nAdd, Sx.nSub, Sx.nMul, Sx.nPow, Sx.nDiv, Sx.nMod, Sx.iAdd, Sx.iSub, Sx.iMul, Sx.iNeg, Sx.iPow, Sx.iOf] at k2 ⊢; omega]; rfl
 obtain ⟨f0, f1, f2, f3, f4⟩ := nxt_fits hr h1 ht
 rw [List.drop_zero] at f1 f2 f3 f4
 have hBl := nxtB_len hr h1 (Nat.zero_le _) ht
 rw [List.drop_zero] at hBl
 have hF : nxtF R b 0 = (b.length : Int) - ((R.nR b).length : Int) + 8 := rfl
 have w1 : IntKind.i64.wrap (iSub (iOf b.length) (iOf (R.nR b).length)) = (b.length : Int) - ((R.nR b).length : Int) := by simp only [Sx.app, Sx.nAdd, Sx.nSub, Sx.nMul, Sx.nPow, Sx.nDiv, Sx.nMod, Sx.iAdd, Sx.iSub, Sx.iMul, Sx.iNeg, Sx.iPow, Sx.iOf]; rw [IntKind.wrap_i64]; omega
 have w2 : IntKind.i64.wrap (iAdd ((b.length : Int) - ((R.nR b).length : Int)) 8) = nxtF R b 0 := by rw [hF]; simp only [Sx.app, Sx.nAdd, Sx.nSub, Sx.nMul, Sx.nPow, Sx.nDiv, Sx.nMod, Sx.iAdd, Sx.iSub, Sx.iMul, Sx.iNeg, Sx.iPow, Sx.iOf]; rw [IntKind.wrap_i64]; omega
 have w3 : IntKind.i64.wrap (iAdd (nxtF R b 0) (R.nV b)) = nxtF R b 0 + R.nV b := by simp only [Sx.app, Sx.nAdd, Sx.nSub, Sx.nMul, Sx.nPow, Sx.nDiv, Sx.nMod, Sx.iAdd, Sx.iSub, Sx.iMul, Sx.iNeg, Sx.iPow, Sx.iOf]; rw [IntKind.wrap_i64]; omega
 have w5 : nSub (nxtF R b 0 + R.nV b).toNat (nxtF R b 0).toNat = (R.nV b).toNat := by simp only [Sx.app, Sx.nAdd, Sx.nSub, Sx.nMul, Sx.nPow, Sx.nDiv, Sx.nMod, Sx.iAdd, Sx.iSub, Sx.iMul, Sx.iNeg, Sx.iPow, Sx.iOf]; omega
 have hB : List.take (R.nV b).toNat (List.drop (nxtF R b 0).toNat b) = nxtB R b 0 := rfl
 have w6 : List.take (nSub (nxtF R b 0 + R.nV b).toNat 0) (List.drop 0 b) = b.take (nxtF R b 0 + R.nV b).toNat := by simp only [Sx.app, Sx.nAdd, Sx.nSub, Sx.nMul, Sx.nPow, Sx.nDiv, Sx.nMod, Sx.iAdd, Sx.iSub, Sx.iMul, Sx.iNeg, Sx.iPow, Sx.iOf, Nat.sub_zero, List.drop_zero]
 simp only [w1, w2, w3, w5, hB, w6]
 have hrow := lg_len (O := O) hr (nxtB R b 0)
 have hlen : ((lgRow O R (nxtB R b 0)).length : Int) = nxtF R b 0 + R.nV b := by rw [hrow, hBl]; omega
 have hp : prfE b (lgRow O R (nxtB R b 0)) = strE (lgRow O R (nxtB R b 0)) (b.take (nxtF R b 0 + R.nV b).toNat) := by
  unfold prfE
  rw [show iLe ((lgRow O R (nxtB R b 0)).length : Int) (b.length : Int) = true by simp only [Bool.and_eq_true, Bool.or_eq_true, Sx.iLt_t, Sx.iLt_f, Sx.iLe_t, Sx.iLe_f, Sx.iEq_t, Sx.iEq_f, Sx.iBeq_t, Sx.iBeq_f, Sx.iBne_t, Sx.iBne_f, Nat.ble_eq, Nat.beq_eq, Sx.Cont.n]; omega, cond_true, show (lgRow O R (nxtB R b 0)).length = (nxtF R b 0 + R.nV b).toNat by omega]
  exact strE_comm _ _
 rw [ht, cond_false, hp] at hok
 refine Sx.if_true (by simp only [Bool.and_eq_true, Bool.or_eq_true, Sx.iLt_t, Sx.iLt_f, Sx.iLe_t, Sx.iLe_f, Sx.iEq_t, Sx.iEq_f, Sx.iBeq_t, Sx.iBeq_f, Sx.iBne_t, Sx.iBne_f, Nat.ble_eq, Nat.beq_eq, Sx.Cont.n, Sx.app, Sx.nAdd, Sx.nSub, Sx.nMul, Sx.nPow, Sx.nDiv, Sx.nMod, Sx.iAdd, Sx.iSub, Sx.iMul, Sx.iNeg, Sx.iPow, Sx.iOf]; omega) (Sx.if_true (by simp only [Bool.and_eq_true, Bool.or_eq_true, Sx.iLt_t, Sx.iLt_f, Sx.iLe_t, Sx.iLe_f, Sx.iEq_t, Sx.iEq_f, Sx.iBeq_t, Sx.iBeq_f, Sx.iBne_t, Sx.iBne_f, Nat.ble_eq, Nat.beq_eq, Sx.Cont.n]; omega) (Sx.if_true (by simp only [Bool.and_eq_true, Bool.or_eq_true, Sx.iLt_t, Sx.iLt_f, Sx.iLe_t, Sx.iLe_f, Sx.iEq_t, Sx.iEq_f, Sx.iBeq_t, Sx.iBeq_f, Sx.iBne_t, Sx.iBne_f, Nat.ble_eq, Nat.beq_eq, Sx.Cont.n, Sx.app, Sx.nAdd, Sx.nSub, Sx.nMul, Sx.nPow, Sx.nDiv, Sx.nMod, Sx.iAdd, Sx.iSub, Sx.iMul, Sx.iNeg, Sx.iPow, Sx.iOf]; omega) (Sx.if_both (fun k3 => ?_) (fun k3 => Sx.if_true (by simp only [Bool.and_eq_true, Bool.or_eq_true, Sx.iLt_t, Sx.iLt_f, Sx.iLe_t, Sx.iLe_f, Sx.iEq_t, Sx.iEq_f, Sx.iBeq_t, Sx.iBeq_f, Sx.iBne_t, Sx.iBne_f, Nat.ble_eq, Nat.beq_eq, Sx.Cont.n, Sx.app, Sx.nAdd, Sx.nSub, Sx.nMul, Sx.nPow, Sx.nDiv, Sx.nMod, Sx.iAdd, Sx.iSub, Sx.iMul, Sx.iNeg, Sx.iPow, Sx.iOf]; omega) ?_))))
 ·have c : nxtOk O R b 0 = false := hok.trans ((Bool.not_eq_true' _).mp k3)
  exact ⟨⟨congrArg _ (by unfold onN; rw [c]; rfl), congrArg _ c.symm⟩, trivial, (by unfold onB; rw [c]; rfl), trivial⟩
 ·have c : nxtOk O R b 0 = true := hok.trans ((Bool.not_eq_false' _).mp k3)
  refine ⟨⟨congrArg _ ?_, congrArg _ c.symm⟩, trivial, ?_, trivial⟩
  ·unfold onN; rw [c, cond_true, hlen]
  ·unfold onB; rw [c]; rfl
theorem wpc_one44 (O : OO) (R : OB) (b : List Int) (F : FO O) (hr : R = bO) (hS : SB O) (h0 : (Nat.ble b.length 1000000) = true) (h1 : (byB b) = true) : wpcI Try.prog (spU1 O R) Try.f39.ntmps [] (bodyOf Try.f39) 0 64 (envP (mks [.ro .u8] [.ints b] 0).1 0) (mks [.ro .u8] [.ints b] 0).2 (retPA [(2, 5, .ints .u8 [])] Try.prog Try.f39.results.toList 1 (⟨[.row 1, .v (.int .i64 (onN O R b)), .v (.bool (nxtOk O R b 0))], [(1, .own 5 (.ints .u8 (onB O R b)))]⟩ : Post)) :=
 Eq.mpr (by kernel_rfl) (vc_one44 O R b F hr hS h0 h1)
theorem ok_one44 (I : Sx.Interp) (O : OO) (hO : O = oo) (R : OB) (hR : R = bO) : Sx.SpecOK I Try.prog 39 (pspec [.ro .u8] false (g_one44 O R)) := by
 refine spec_pAI (spU1_ok I O hO R hR) (by kernel_rfl) (fun ds => match ds with | [.ints b] => [] | _ => []) (fun ds => match ds with | [.ints b] => [(2, 5, .ints .u8 [])] | _ => []) Try.func39 (by kernel_rfl) (by kernel_rfl) rfl Try.ntmps39 (by decide) ?_ ?_
 ·intro ds p bs F h
  unfold g_one44 at h
  split at h
  ·rename_i b
   simp only [Option.some.injEq, Prod.mk.injEq] at h
   obtain ⟨_, _, rfl⟩ := h
   kernel_rfl
  ·cases h
 ·intro ds bs F hl h
  unfold g_one44 at h
  split at h
  ·rename_i b
   simp only [Option.some.injEq, Prod.mk.injEq, Bool.and_eq_true] at h
   obtain ⟨⟨h0, h1⟩, _, rfl⟩ := h
   exact wpc_one44 O R b (fo_oo O hO) hR (by subst hO; exact sb_oo) (by first | exact h0 | (simp only [Bool.and_eq_true]; exact h0)) (by first | exact h1 | (simp only [Bool.and_eq_true]; exact h1))
  ·cases h
def spU2 (O : OO) (R : OB) (f : FuncId) : Option Sx.Spec := match f with
 | 39 => some (pspec [.ro .u8] false (g_one44 O R))
 | 19 => some (pspec [.ros] false (g_all44 O R))
 | f => spU1 O R f
theorem spU2_ok (I : Sx.Interp) (O : OO) (hO : O = oo) (R : OB) (hR : R = bO) : ∀ f s, spU2 O R f = some s → Sx.SpecOK I Try.prog f s := by
 intro f s h
 unfold spU2 at h
 split at h
 · cases h; exact ok_one44 I O hO R hR
 · cases h; exact ok_all44 I O hO R hR
 ·exact spU1_ok I O hO R hR _ s h
def g_well44 (O : OO) (R : OB) (ds : List Dt) : Option (Bool × List Bool × (List Bool → Post)) := match ds with
 | [.ints b] => some ((Nat.ble b.length 1000000) && (byB b), [], fun _ => ⟨[.row 1, .v (.int .i64 (lgEnd O R b : Nat))], [(1, .ownp 22 2), (2, .pool (lgRows O R b))]⟩)
 | _ => none
set_option maxHeartbeats 4000000 in
theorem vc_well44 (O : OO) (R : OB) (b : List Int) (F : FO O) (hr : R = bO) (hS : SB O) (h0 : (Nat.ble b.length 1000000) = true) (h1 : (byB b) = true) :
 (∃ (x : Nat), (lgN O R b x ≤ b.length ∧ (lgX O R b x).length ≤ lgN O R b x ∧ x ≤ lgN O R b x) ∧ (Value.int .i64 0 = Value.int .i64 (iOf (lgN O R b x)) ∧ Value.int .i64 0 = Value.int
  .i64 (iOf x) ∧ True) ∧ EqII [] (lgX O R b x) ∧ EqI b b ∧ True) ∧ ∀ (x : Nat), lgN O R b x ≤ b.length ∧ (lgX O R b x).length ≤ lgN O R b x ∧ x ≤ lgN O R b x → If (iLe (iOf x) (iOf
  (Cont.ints .u8 b).n)) (If (iLe 0 (iOf (lgN O R b x)) && iLe (iOf (lgN O R b x)) (iOf (Cont.ints .u8 b).n) && iLe (iOf (Cont.ints .u8 b).n) (iOf (Cont.ints .u8 b).n)) (If ((List.take
  (nSub (iOf b.length).toNat (iOf (lgN O R b x)).toNat) (List.drop (iOf (lgN O R b x)).toNat b)).length.ble 1000000 && byB (List.take (nSub (iOf b.length).toNat (iOf (lgN O R b
  x)).toNat) (List.drop (iOf (lgN O R b x)).toNat b))) (If (!nxtOk O R (List.take (nSub (iOf b.length).toNat (iOf (lgN O R b x)).toNat) (List.drop (iOf (lgN O R b x)).toNat b)) 0)
  (Value.int .i64 (iOf (lgN O R b x)) = Value.int .i64 (iOf (lgEnd O R b)) ∧ True ∧ EqII (lgX O R b x) (lgRows O R b) ∧ True) (If ((nMul (nAdd (lgX O R b x).length 1) 24).ble
  140737488355328 && (nAdd (lgX O R b x).length 1).ble 9223372036854775807) (∃ (x' : Nat), (lgN O R b x' ≤ b.length ∧ (lgX O R b x').length ≤ lgN O R b x' ∧ x' ≤ lgN O R b x') ∧ (nSub
  b.length (lgN O R b x')).succ ≤ nSub b.length (lgN O R b x) ∧ (Value.int .i64 (IntKind.i64.wrap (iAdd (iOf (lgN O R b x)) (onN O R (List.take (nSub (iOf b.length).toNat (iOf (lgN O
  R b x)).toNat) (List.drop (iOf (lgN O R b x)).toNat b))))) = Value.int .i64 (iOf (lgN O R b x')) ∧ Value.int .i64 (IntKind.i64.wrap (iAdd (iOf x) 1)) = Value.int .i64 (iOf x') ∧
  True) ∧ EqII (app (lgX O R b x) [onB O R (List.take (nSub (iOf b.length).toNat (iOf (lgN O R b x)).toNat) (List.drop (iOf (lgN O R b x)).toNat b))]) (lgX O R b x') ∧ EqI b b ∧ True)
  False)) False) False) (Value.int .i64 (iOf (lgN O R b x)) = Value.int .i64 (iOf (lgEnd O R b)) ∧ True ∧ EqII (lgX O R b x) (lgRows O R b) ∧ True) := by
 have h0' := Nat.le_of_ble_eq_true h0
 have hn : ∀ k : Nat, (iOf (lgN O R b k)).toNat = lgN O R b k := fun k => by simp only [Sx.app, Sx.nAdd, Sx.nSub, Sx.nMul, Sx.nPow, Sx.nDiv, Sx.nMod, Sx.iAdd, Sx.iSub, Sx.iMul, Sx.iNeg, Sx.iPow, Sx.iOf, Int.toNat_natCast]
 simp only [hn, show (Cont.ints IntKind.u8 b).n = b.length from rfl]
 refine ⟨⟨0, ⟨Nat.zero_le _, Nat.le_refl _, Nat.le_refl _⟩, ⟨rfl, rfl, trivial⟩, rfl, (by first | rfl | trivial), trivial⟩, fun x hx => ?_⟩
 obtain ⟨x1, x2, x3⟩ := hx
 have e0 : List.take (nSub (iOf b.length).toNat (lgN O R b x)) (List.drop (lgN O R b x) b) = b.drop (lgN O R b x) := by
  simp only [Sx.app, Sx.nAdd, Sx.nSub, Sx.nMul, Sx.nPow, Sx.nDiv, Sx.nMod, Sx.iAdd, Sx.iSub, Sx.iMul, Sx.iNeg, Sx.iPow, Sx.iOf, Int.toNat_natCast]; exact List.take_of_length_le (by rw [List.length_drop]; omega)
 rw [e0]
 have hd := nxt_drop (O := O) hr h1 x1
 refine Sx.if_true (by simp only [Bool.and_eq_true, Bool.or_eq_true, Sx.iLt_t, Sx.iLt_f, Sx.iLe_t, Sx.iLe_f, Sx.iEq_t, Sx.iEq_f, Sx.iBeq_t, Sx.iBeq_f, Sx.iBne_t, Sx.iBne_f, Nat.ble_eq, Nat.beq_eq, Sx.Cont.n, Sx.app, Sx.nAdd, Sx.nSub, Sx.nMul, Sx.nPow, Sx.nDiv, Sx.nMod, Sx.iAdd, Sx.iSub, Sx.iMul, Sx.iNeg, Sx.iPow, Sx.iOf]; omega) (Sx.if_true (by simp only [Bool.and_eq_true, Bool.or_eq_true, Sx.iLt_t, Sx.iLt_f, Sx.iLe_t, Sx.iLe_f, Sx.iEq_t, Sx.iEq_f, Sx.iBeq_t, Sx.iBeq_f, Sx.iBne_t, Sx.iBne_f, Nat.ble_eq, Nat.beq_eq, Sx.Cont.n, Sx.app, Sx.nAdd, Sx.nSub, Sx.nMul, Sx.nPow, Sx.nDiv, Sx.nMod, Sx.iAdd, Sx.iSub, Sx.iMul, Sx.iNeg, Sx.iPow, Sx.iOf]; omega) (Sx.if_true (by rw [byB_drop h1, Bool.and_true]; simp only [Bool.and_eq_true, Bool.or_eq_true, Sx.iLt_t, Sx.iLt_f, Sx.iLe_t, Sx.iLe_f, Sx.iEq_t, Sx.iEq_f, Sx.iBeq_t, Sx.iBeq_f, Sx.iBne_t, Sx.iBne_f, Nat.ble_eq, Nat.beq_eq, Sx.Cont.n, List.length_drop]; omega) ?_))
 rw [hd.1]
 cases c : nxtOk O R b (lgN O R b x)
 ·have st := lgS_stop (m := b.length + 1) c (by omega)
  have e1 : lgRows O R b = lgX O R b x := congrArg (fun p => p.1) st
  have e2 : lgEnd O R b = lgN O R b x := congrArg (fun p => p.2) st
  refine Sx.if_true rfl ⟨by rw [e2], trivial, by rw [e1], trivial⟩
 ·have hB := hd.2 c
  have o1 : onN O R (b.drop (lgN O R b x)) = ((lgRow O R (nxtB R b (lgN O R b x))).length : Int) := by unfold onN; rw [hd.1, c, hB]; rfl
  have o2 : onB O R (b.drop (lgN O R b x)) = nxtB R b (lgN O R b x) := by unfold onB; rw [hd.1, c, hB]; rfl
  have hp : prfE (b.drop (lgN O R b x)) (lgRow O R (nxtB R b (lgN O R b x))) = true := by
   unfold nxtOk at c
   cases t : nxtT R b (lgN O R b x)
   ·rw [t] at c; exact c
   ·rw [t] at c; cases c
  have hf : (lgRow O R (nxtB R b (lgN O R b x))).length ≤ b.length - lgN O R b x := by
   unfold prfE at hp
   rw [List.length_drop] at hp
   cases t : iLe ((lgRow O R (nxtB R b (lgN O R b x))).length : Int) ((b.length - lgN O R b x : Nat) : Int)
   ·rw [t] at hp; cases hp
   ·simp only [iLe_t] at t; omega
  have hl := lg_pos (O := O) hr (nxtB R b (lgN O R b x))
  have st : lgS O R b (x + 1) = (lgX O R b x ++ [nxtB R b (lgN O R b x)], lgN O R b x + (lgRow O R (nxtB R b (lgN O R b x))).length) := by
   show (bif nxtOk O R b (lgN O R b x) then _ else _) = _
   rw [c]; rfl
  have e1 : lgX O R b (x + 1) = lgX O R b x ++ [nxtB R b (lgN O R b x)] := congrArg (fun p => p.1) st
  have e2 : lgN O R b (x + 1) = lgN O R b x + (lgRow O R (nxtB R b (lgN O R b x))).length := congrArg (fun p => p.2) st
  have w1 : IntKind.i64.wrap (iAdd (iOf x) 1) = iOf (x + 1) := by simp only [Sx.app, Sx.nAdd, Sx.nSub, Sx.nMul, Sx.nPow, Sx.nDiv, Sx.nMod, Sx.iAdd, Sx.iSub, Sx.iMul, Sx.iNeg, Sx.iPow, Sx.iOf]; rw [IntKind.wrap_i64]; omega
  have w2 : IntKind.i64.wrap (iAdd (iOf (lgN O R b x)) (onN O R (b.drop (lgN O R b x)))) = iOf (lgN O R b (x + 1)) := by rw [o1, e2]; simp only [Sx.app, Sx.nAdd, Sx.nSub, Sx.nMul, Sx.nPow, Sx.nDiv, Sx.nMod, Sx.iAdd, Sx.iSub, Sx.iMul, Sx.iNeg, Sx.iPow, Sx.iOf]; rw [IntKind.wrap_i64]; omega
  rw [o2, w1, w2]
  refine Sx.if_false rfl (Sx.if_true (by simp only [Bool.and_eq_true, Bool.or_eq_true, Sx.iLt_t, Sx.iLt_f, Sx.iLe_t, Sx.iLe_f, Sx.iEq_t, Sx.iEq_f, Sx.iBeq_t, Sx.iBeq_f, Sx.iBne_t, Sx.iBne_f, Nat.ble_eq, Nat.beq_eq, Sx.Cont.n, Sx.app, Sx.nAdd, Sx.nSub, Sx.nMul, Sx.nPow, Sx.nDiv, Sx.nMod, Sx.iAdd, Sx.iSub, Sx.iMul, Sx.iNeg, Sx.iPow, Sx.iOf]; omega) ?_)
  exact ⟨x + 1, ⟨by omega, by rw [e1, List.length_append]; simp only [List.length_cons, List.length_nil]; omega, by omega⟩, by simp only [Sx.app, Sx.nAdd, Sx.nSub, Sx.nMul, Sx.nPow, Sx.nDiv, Sx.nMod, Sx.iAdd, Sx.iSub, Sx.iMul, Sx.iNeg, Sx.iPow, Sx.iOf]; omega, ⟨rfl, rfl, trivial⟩, e1.symm, (by first | rfl | trivial), trivial⟩
theorem wpc_well44 (O : OO) (R : OB) (b : List Int) (F : FO O) (hr : R = bO) (hS : SB O) (h0 : (Nat.ble b.length 1000000) = true) (h1 : (byB b) = true) : wpcI Try.prog (spU2 O R) Try.f11.ntmps [⟨Nat, [0], [(4, 22, .ints .u8 []), (1000000004, 22, .ints .u8 [])], fun B k => [(4, .row B), (5, .v (.int .i64 (lgN O R b k : Nat))), (6, .v (.int .i64 (k : Nat)))], fun B k => [(B, .ownp 22 (B + 1)), (B + 1, .pool (lgX O R b k))], fun k => lgN O R b k ≤ b.length ∧ (lgX O R b k).length ≤ lgN O R b k ∧ k ≤ lgN O R b k, fun k => b.length - lgN O R b k, 0⟩] (bodyOf Try.f11) 0 64 (envP (mks [.ro .u8] [.ints b] 0).1 0) (mks [.ro .u8] [.ints b] 0).2 (retP Try.prog Try.f11.results.toList 1 (⟨[.row 1, .v (.int .i64 (lgEnd O R b : Nat))], [(1, .ownp 22 2), (2, .pool (lgRows O R b))]⟩ : Post)) :=
 Eq.mpr (by kernel_rfl) (vc_well44 O R b F hr hS h0 h1)
theorem ok_well44 (I : Sx.Interp) (O : OO) (hO : O = oo) (R : OB) (hR : R = bO) : Sx.SpecOK I Try.prog 11 (pspec [.ro .u8] true (g_well44 O R)) := by
 refine spec_pI (spU2_ok I O hO R hR) (by kernel_rfl) (fun ds => match ds with | [.ints b] => [⟨Nat, [0], [(4, 22, .ints .u8 []), (1000000004, 22, .ints .u8 [])], fun B k => [(4, .row B), (5, .v (.int .i64 (lgN O R b k : Nat))), (6, .v (.int .i64 (k : Nat)))], fun B k => [(B, .ownp 22 (B + 1)), (B + 1, .pool (lgX O R b k))], fun k => lgN O R b k ≤ b.length ∧ (lgX O R b k).length ≤ lgN O R b k ∧ k ≤ lgN O R b k, fun k => b.length - lgN O R b k, 0⟩] | _ => []) Try.func11 (by kernel_rfl) (by kernel_rfl) rfl Try.ntmps11 (by decide) ?_ ?_
 ·intro ds p bs F h
  unfold g_well44 at h
  split at h
  ·rename_i b
   simp only [Option.some.injEq, Prod.mk.injEq] at h
   obtain ⟨_, _, rfl⟩ := h
   kernel_rfl
  ·cases h
 ·intro ds bs F hl h
  unfold g_well44 at h
  split at h
  ·rename_i b
   simp only [Option.some.injEq, Prod.mk.injEq, Bool.and_eq_true] at h
   obtain ⟨⟨h0, h1⟩, _, rfl⟩ := h
   exact wpc_well44 O R b (fo_oo O hO) hR (by subst hO; exact sb_oo) (by first | exact h0 | (simp only [Bool.and_eq_true]; exact h0)) (by first | exact h1 | (simp only [Bool.and_eq_true]; exact h1))
  ·cases h
def spU3 (O : OO) (R : OB) (f : FuncId) : Option Sx.Spec := match f with
 | 11 => some (pspec [.ro .u8] true (g_well44 O R))
 | f => spU2 O R f
theorem spU3_ok (I : Sx.Interp) (O : OO) (hO : O = oo) (R : OB) (hR : R = bO) : ∀ f s, spU3 O R f = some s → Sx.SpecOK I Try.prog f s := by
 intro f s h
 unfold spU3 at h
 split at h
 · cases h; exact ok_well44 I O hO R hR
 ·exact spU2_ok I O hO R hR _ s h
end Go.Proofs.Ytaohpdhhbnempaa
