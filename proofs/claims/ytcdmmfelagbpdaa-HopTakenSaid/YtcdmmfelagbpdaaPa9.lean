/- A lock of one branch of one key, opened: the walks, by the symbolic machine (printed by genpa9.py; VCs by VcTool). -/
import Derived.Test.YtcdmmfelagbpdaaPa3
namespace Go.Proofs.Ytcdmmfelagbpdaa
open Go.RowKit Go.Lib Ckp Cfd Cpd Sx
set_option linter.unusedVariables false
set_option linter.unusedSimpArgs false
set_option maxRecDepth 1000000
def badP (O : OO) (p : Int) : Bool := !(O.pright p)
def idxP (p : Int → Bool) (l : List Int) : Int := match l.findIdx? p with
 | some i => (i : Int)
 | none => -1
def hgtO (n : Int) : Bool := bif iLe 0 n then iLe n 1048576 else false
def lrO (O : OO) (p s : Int) : Bool := bif O.pright p then (bif iBne s 0 then O.pright s else true) else false
def openO (O : OO) (Z : OZ) (p s x r q : Int) (m : Array Value) : Int := bif !(lrO O p s) then 1 else bif (bif iBne s 0 then iBne (O.pbase x) s else false) then 23 else bif Z.chk p m 1 r q then 0 else 7

theorem idx_here {p : Int → Bool} {l : List Int} {x : Nat} (hx : x < l.length) (hb : ∀ k, k < x → p (l.getD k 0) = false) (h : p (l.getD x 0) = true) : idxP p l = (x : Int) := by
 have e : l.findIdx? p = some x := by
  rw [List.findIdx?_eq_some_iff_getElem]
  refine ⟨hx, ?_, fun j hj => ?_⟩
  ·rw [List.getD_eq_getElem?_getD, List.getElem?_eq_getElem hx] at h; exact h
  ·have := hb j hj
   rw [List.getD_eq_getElem?_getD, List.getElem?_eq_getElem (by omega)] at this
   simpa using this
 unfold idxP
 rw [e]
theorem idx_none {p : Int → Bool} {l : List Int} (hb : ∀ k, k < l.length → p (l.getD k 0) = false) : idxP p l = -1 := by
 have e : l.findIdx? p = none := by
  rw [List.findIdx?_eq_none_iff]
  intro x hx
  obtain ⟨k, hk, rfl⟩ := List.getElem_of_mem hx
  have := hb k hk
  rw [List.getD_eq_getElem?_getD, List.getElem?_eq_getElem hk] at this
  exact this
 unfold idxP
 rw [e]
theorem idx_allP (p : Int → Bool) (l : List Int) : (!(iLe 0 (idxP p l))) = l.all fun n => !(p n) := by
 unfold idxP
 cases h : l.findIdx? p with
 | none =>
  rw [List.findIdx?_eq_none_iff] at h
  symm
  show _ = true
  rw [List.all_eq_true]
  intro x hx
  rw [h x hx]; rfl
 | some i =>
  rw [List.findIdx?_eq_some_iff_getElem] at h
  obtain ⟨hi', h1, _⟩ := h
  have e : iLe 0 (i : Int) = true := by simp only [Bool.and_eq_true, Bool.or_eq_true, Sx.iLt_t, Sx.iLt_f, Sx.iLe_t, Sx.iLe_f, Sx.iEq_t, Sx.iEq_f, Sx.iBeq_t, Sx.iBeq_f, Sx.iBne_t, Sx.iBne_f, Nat.ble_eq, Nat.beq_eq, Sx.Cont.n]; omega
  simp only [e, Bool.not_true]
  symm
  rw [Bool.eq_false_iff]
  intro hc
  have := List.all_eq_true.1 hc _ (List.getElem_mem hi')
  rw [h1] at this
  cases this

def g_lhgt (O : OO) (Y : OY) (l : List Value) : Option (Bool × Value) := match l with
 | [.int .i64 n] => some (true, .bool (hgtO n))
 | _ => none
set_option maxHeartbeats 4000000 in
theorem vc_lhgt (O : OO) (Y : OY) (n : Int) (out : Value) (F : FO O) (hy : Y = yO O)  (ho : .bool (hgtO n) = out) :
 If (iLe 0 n) (Value.bool (iLe n 1048576) = out) (Value.bool false = out) := by
 subst ho
 unfold hgtO
 exact Sx.if_both (fun h => by rw [h]; rfl) (fun h => by rw [h]; rfl)
theorem wpc_lhgt (O : OO) (Y : OY) (n : Int) (out : Value) (F : FO O) (hy : Y = yO O)  (ho : .bool (hgtO n) = out) : wpcI Try.prog (spP2 O Y) Try.f95.ntmps [] (bodyOf Try.f95) 0 0 (argEnv [.int .i64 n] 0) [] (retK Try.prog Try.f95.results.toList out) :=
 Eq.mpr (by kernel_rfl) (vc_lhgt O Y n out F hy  ho)
theorem ok_lhgt (I : Sx.Interp) (O : OO) (hO : O = oo) (Y : OY) (hY : Y = yO O) : Sx.SpecOK I Try.prog 95 (Sx.vspec (g_lhgt O Y)) := by
 refine spec_walk (n := 1) (spP2_ok I O hO Y hY) (by kernel_rfl) [] Try.func95 (by kernel_rfl) (by kernel_rfl) rfl Try.ntmps95 (by decide) ?_ ?_
 ·intro l p v hg; unfold g_lhgt at hg; split at hg <;> first | rfl | cases hg
 ·intro l v hg
  unfold g_lhgt at hg
  split at hg
  ·rename_i n
   simp only [Option.some.injEq, Prod.mk.injEq, Bool.and_eq_true] at hg
   obtain ⟨_, rfl⟩ := hg
   exact wpc_lhgt O Y n  _ (fo_oo O hO) hY   rfl
  ·cases hg
def g_lbad (O : OO) (Y : OY) (l : List Value) : Option (Bool × Value) := match l with
 | [.int .u64 p] => some ((inU p 18446744073709551616), .bool (badP O p))
 | _ => none
set_option maxHeartbeats 4000000 in
theorem vc_lbad (O : OO) (Y : OY) (p : Int) (out : Value) (F : FO O) (hy : Y = yO O) (h0 : inU p 18446744073709551616 = true) (ho : .bool (badP O p) = out) :
 If (inU p 18446744073709551616) ((Value.bool !O.pright p) = out) False := by
 subst ho
 exact Sx.if_true h0 rfl
theorem wpc_lbad (O : OO) (Y : OY) (p : Int) (out : Value) (F : FO O) (hy : Y = yO O) (h0 : inU p 18446744073709551616 = true) (ho : .bool (badP O p) = out) : wpcI Try.prog (spP2 O Y) Try.f94.ntmps [] (bodyOf Try.f94) 0 0 (argEnv [.int .u64 p] 0) [] (retK Try.prog Try.f94.results.toList out) :=
 Eq.mpr (by kernel_rfl) (vc_lbad O Y p out F hy h0 ho)
theorem ok_lbad (I : Sx.Interp) (O : OO) (hO : O = oo) (Y : OY) (hY : Y = yO O) : Sx.SpecOK I Try.prog 94 (Sx.vspec (g_lbad O Y)) := by
 refine spec_walk (n := 1) (spP2_ok I O hO Y hY) (by kernel_rfl) [] Try.func94 (by kernel_rfl) (by kernel_rfl) rfl Try.ntmps94 (by decide) ?_ ?_
 ·intro l p v hg; unfold g_lbad at hg; split at hg <;> first | rfl | cases hg
 ·intro l v hg
  unfold g_lbad at hg
  split at hg
  ·rename_i p
   simp only [Option.some.injEq, Prod.mk.injEq, Bool.and_eq_true] at hg
   obtain ⟨q0, rfl⟩ := hg
   exact wpc_lbad O Y p  _ (fo_oo O hO) hY q0  rfl
  ·cases hg
def spL0 (O : OO) (Y : OY) (f : FuncId) : Option Sx.Spec := match f with
 | 95 => some (Sx.vspec (g_lhgt O Y))
 | 94 => some (Sx.vspec (g_lbad O Y))
 | f => spP2 O Y f
theorem spL0_ok (I : Sx.Interp) (O : OO) (hO : O = oo) (Y : OY) (hY : Y = yO O) : ∀ f s, spL0 O Y f = some s → Sx.SpecOK I Try.prog f s := by
 intro f s h
 unfold spL0 at h
 split at h
 · cases h; exact ok_lhgt I O hO Y hY
 · cases h; exact ok_lbad I O hO Y hY
 ·exact spP2_ok I O hO Y hY _ s h
def g_lidx (O : OO) (Y : OY) (ds : List Dt) : Option (Bool × List Bool × (List Bool → Post)) := match ds with
 | [.ints l, .node []] => some ((Nat.ble l.length 1000) && (inUs 18446744073709551616 l), [], fun _ => ⟨[.v (.int .i64 (idxP (badP O) l))], []⟩)
 | _ => none
set_option maxHeartbeats 4000000 in
theorem vc_lidx (O : OO) (Y : OY) (l : List Int) (F : FO O) (hy : Y = yO O) (h1 : Nat.ble l.length 1000 = true) (h0 : inUs 18446744073709551616 l = true) :
 (∃ (x : Nat), (x ≤ l.length ∧ ∀ (k : Nat), k.succ ≤ x → badP O (l.getD k 0) = false) ∧ (Value.int .i64 0 = Value.int .i64 (iOf x) ∧ SV.fn (Fn.func 94) [] =
  SV.fn (Fn.func 94) [] ∧ Value.int .i64 (iOf l.length) = Value.int .i64 (iOf l.length) ∧ True) ∧ EqI l l ∧ True) ∧ ∀ (x : Nat), (x ≤ l.length ∧ ∀ (k : Nat),
  k.succ ≤ x → badP O (l.getD k 0) = false) → If (iLt (iOf x) (iOf (Cont.ints .u64 l).n)) (If (iLe 0 (iOf x) && (iOf x).toNat.blt l.length) (If (true && Nat.beq 1 1 && (iOf
  x).toNat.blt l.length) (If (inU (l.getD (iOf x).toNat 0) 18446744073709551616) (If (badP O (l.getD (iOf x).toNat 0)) (Value.int .i64 (iOf x) = Value.int .i64 (idxP (badP O) l) ∧
  True ∧ True) (∃ (x' : Nat), (x' ≤ l.length ∧ ∀ (k : Nat), k.succ ≤ x' → badP O (l.getD k 0) = false) ∧ (nSub l.length x').succ ≤ nSub l.length x ∧ (Value.int .i64 (IntKind.i64.wrap
  (iAdd (iOf x) 1)) = Value.int .i64 (iOf x') ∧ SV.fn (Fn.func 94) [] = SV.fn (Fn.func 94) [] ∧ Value.int .i64 (iOf l.length) = Value.int
  .i64 (iOf l.length) ∧ True) ∧ EqI l l ∧ True)) False) False) False) (Value.int .i64 (iNeg 1) = Value.int .i64 (idxP (badP O) l) ∧ True ∧ True) := by
 simp only [Sx.app, Sx.nAdd, Sx.nSub, Sx.nMul, Sx.nPow, Sx.nDiv, Sx.nMod, Sx.iAdd, Sx.iSub, Sx.iMul, Sx.iNeg, Sx.iPow, Sx.iOf]
 have hm := Nat.le_of_ble_eq_true h1
 refine ⟨⟨0, ⟨Nat.zero_le _, fun k hk => absurd hk (Nat.not_succ_le_zero _)⟩, ⟨rfl, (by first | rfl | trivial)⟩, (by first | rfl | trivial)⟩, fun x hx => Sx.if_both (fun h => ?_) (fun h => ?_)⟩
 ·simp only [Bool.and_eq_true, Bool.or_eq_true, Sx.iLt_t, Sx.iLt_f, Sx.iLe_t, Sx.iLe_f, Sx.iEq_t, Sx.iEq_f, Sx.iBeq_t, Sx.iBeq_f, Sx.iBne_t, Sx.iBne_f, Nat.ble_eq, Nat.beq_eq, Sx.Cont.n] at h
  have hlt : x < l.length := by omega
  have hbl : x.blt l.length = true := by rw [Nat.blt_eq]; exact hlt
  refine Sx.if_true (by simp only [Bool.and_eq_true, Bool.or_eq_true, Sx.iLt_t, Sx.iLt_f, Sx.iLe_t, Sx.iLe_f, Sx.iEq_t, Sx.iEq_f, Sx.iBeq_t, Sx.iBeq_f, Sx.iBne_t, Sx.iBne_f, Nat.ble_eq, Nat.beq_eq, Sx.Cont.n, hbl, and_true, Int.toNat_natCast]; omega) (Sx.if_true (by simp only [hbl, Int.toNat_natCast]; rfl) (Sx.if_true (by rw [Int.toNat_natCast]; exact inUs_at h0 hlt) (Sx.if_both (fun hc => ?_) (fun hc => ?_))))
  ·simp only [Int.toNat_natCast] at hc
   exact ⟨by rw [idx_here hlt (fun k hk => hx.2 k hk) hc], (by first | rfl | trivial)⟩
  ·simp only [Int.toNat_natCast] at hc
   exact ⟨x + 1, ⟨hlt, fun k hk => by
    rcases Nat.lt_or_ge k x with h' | h'
    ·exact hx.2 k h'
    ·have : k = x := by omega
     rw [this]; exact hc⟩, by omega, ⟨by rw [wrap_succ (by omega)], (by first | rfl | trivial)⟩, (by first | rfl | trivial)⟩
 ·simp only [Bool.and_eq_true, Bool.or_eq_true, Sx.iLt_t, Sx.iLt_f, Sx.iLe_t, Sx.iLe_f, Sx.iEq_t, Sx.iEq_f, Sx.iBeq_t, Sx.iBeq_f, Sx.iBne_t, Sx.iBne_f, Nat.ble_eq, Nat.beq_eq, Sx.Cont.n] at h
  have hx2 : x = l.length := by omega
  subst hx2
  exact ⟨by rw [idx_none (fun k hk => hx.2 k hk)], (by first | rfl | trivial)⟩
theorem wpc_lidx (O : OO) (Y : OY) (l : List Int) (F : FO O) (hy : Y = yO O) (h1 : Nat.ble l.length 1000 = true) (h0 : inUs 18446744073709551616 l = true) : wpcI Try.prog (spL0 O Y) Try.f97.ntmps [⟨Nat, [0, 1, 7], [], fun B j => [(8, .v (.int .i64 (j : Int)))], fun B j => [], fun j => j ≤ l.length ∧ ∀ k, k < j → badP O (l.getD k 0) = false, fun j => l.length - j, 0⟩] (bodyOf Try.f97) 0 64 (envP (mks [.ro .u64, .fn 94 []] [.ints l, .node []] 0).1 0) (mks [.ro .u64, .fn 94 []] [.ints l, .node []] 0).2 (retP Try.prog Try.f97.results.toList 1 (⟨[.v (.int .i64 (idxP (badP O) l))], []⟩ : Post)) :=
 Eq.mpr (by kernel_rfl) (vc_lidx O Y l F hy h1 h0)
theorem ok_lidx (I : Sx.Interp) (O : OO) (hO : O = oo) (Y : OY) (hY : Y = yO O) : Sx.SpecOK I Try.prog 97 (pspec [.ro .u64, .fn 94 []] false (g_lidx O Y)) := by
 refine spec_patI (spL0_ok I O hO Y hY) (by kernel_rfl) (fun ds => match ds with | [.ints l, .node []] => [⟨Nat, [0, 1, 7], [], fun B j => [(8, .v (.int .i64 (j : Int)))], fun B j => [], fun j => j ≤ l.length ∧ ∀ k, k < j → badP O (l.getD k 0) = false, fun j => l.length - j, 0⟩] | _ => []) Try.func97 (by kernel_rfl) (by kernel_rfl) rfl Try.ntmps97 (by decide) ?_ ?_
 ·intro ds p bs F h
  unfold g_lidx at h
  split at h
  ·simp only [Option.some.injEq, Prod.mk.injEq] at h
   obtain ⟨_, _, rfl⟩ := h
   kernel_rfl
  ·cases h
 ·intro ds bs F hl h
  unfold g_lidx at h
  split at h
  ·rename_i l
   simp only [Option.some.injEq, Prod.mk.injEq, Bool.and_eq_true] at h
   obtain ⟨⟨h1, h0⟩, _, rfl⟩ := h
   exact wpc_lidx O Y l (fo_oo O hO) hY h1 h0
  ·cases h
def spL1 (O : OO) (Y : OY) (f : FuncId) : Option Sx.Spec := match f with
 | 97 => some (pspec [.ro .u64, .fn 94 []] false (g_lidx O Y))
 | f => spL0 O Y f
theorem spL1_ok (I : Sx.Interp) (O : OO) (hO : O = oo) (Y : OY) (hY : Y = yO O) : ∀ f s, spL1 O Y f = some s → Sx.SpecOK I Try.prog f s := by
 intro f s h
 unfold spL1 at h
 split at h
 · cases h; exact ok_lidx I O hO Y hY
 ·exact spL0_ok I O hO Y hY _ s h
def g_lhas (O : OO) (Y : OY) (ds : List Dt) : Option (Bool × List Bool × (List Bool → Post)) := match ds with
 | [.ints l, .node []] => some ((Nat.ble l.length 1000) && (inUs 18446744073709551616 l), [], fun _ => ⟨[.v (.bool (iLe 0 (idxP (badP O) l)))], []⟩)
 | _ => none
set_option maxHeartbeats 4000000 in
theorem vc_lhas (O : OO) (Y : OY) (l : List Int) (F : FO O) (hy : Y = yO O) (h1 : Nat.ble l.length 1000 = true) (h0 : inUs 18446744073709551616 l = true) :
 If (l.length.ble 1000 && inUs 18446744073709551616 l) (Value.bool (iLe 0 (idxP (badP O) l)) = Value.bool (iLe 0 (idxP (badP O) l)) ∧ True ∧ True) False := by
 exact Sx.if_true (by rw [h1, h0]; rfl) ⟨rfl, trivial, trivial⟩
theorem wpc_lhas (O : OO) (Y : OY) (l : List Int) (F : FO O) (hy : Y = yO O) (h1 : Nat.ble l.length 1000 = true) (h0 : inUs 18446744073709551616 l = true) : wpcI Try.prog (spL1 O Y) Try.f76.ntmps [] (bodyOf Try.f76) 0 64 (envP (mks [.ro .u64, .fn 94 []] [.ints l, .node []] 0).1 0) (mks [.ro .u64, .fn 94 []] [.ints l, .node []] 0).2 (retP Try.prog Try.f76.results.toList 1 (⟨[.v (.bool (iLe 0 (idxP (badP O) l)))], []⟩ : Post)) :=
 Eq.mpr (by kernel_rfl) (vc_lhas O Y l F hy h1 h0)
theorem ok_lhas (I : Sx.Interp) (O : OO) (hO : O = oo) (Y : OY) (hY : Y = yO O) : Sx.SpecOK I Try.prog 76 (pspec [.ro .u64, .fn 94 []] false (g_lhas O Y)) := by
 refine spec_patI (spL1_ok I O hO Y hY) (by kernel_rfl) (fun ds => match ds with | [.ints l, .node []] => [] | _ => []) Try.func76 (by kernel_rfl) (by kernel_rfl) rfl Try.ntmps76 (by decide) ?_ ?_
 ·intro ds p bs F h
  unfold g_lhas at h
  split at h
  ·simp only [Option.some.injEq, Prod.mk.injEq] at h
   obtain ⟨_, _, rfl⟩ := h
   kernel_rfl
  ·cases h
 ·intro ds bs F hl h
  unfold g_lhas at h
  split at h
  ·rename_i l
   simp only [Option.some.injEq, Prod.mk.injEq, Bool.and_eq_true] at h
   obtain ⟨⟨h1, h0⟩, _, rfl⟩ := h
   exact wpc_lhas O Y l (fo_oo O hO) hY h1 h0
  ·cases h
def spL2 (O : OO) (Y : OY) (f : FuncId) : Option Sx.Spec := match f with
 | 76 => some (pspec [.ro .u64, .fn 94 []] false (g_lhas O Y))
 | f => spL1 O Y f
theorem spL2_ok (I : Sx.Interp) (O : OO) (hO : O = oo) (Y : OY) (hY : Y = yO O) : ∀ f s, spL2 O Y f = some s → Sx.SpecOK I Try.prog f s := by
 intro f s h
 unfold spL2 at h
 split at h
 · cases h; exact ok_lhas I O hO Y hY
 ·exact spL1_ok I O hO Y hY _ s h
def g_lright (O : OO) (Y : OY) (ds : List Dt) : Option (Bool × List Bool × (List Bool → Post)) := match ds with
 | [.node [.node [.ints [p], .v (.int .i64 0), .v (.int .i64 0), .v (.int .u64 s)]]] => some ((inU p 18446744073709551616) && (inU s 18446744073709551616), [], fun _ => ⟨[.v (.bool (lrO O p s))], []⟩)
 | _ => none
set_option maxHeartbeats 4000000 in
theorem vc_lright (O : OO) (Y : OY) (p s : Int) (F : FO O) (hy : Y = yO O) (h0 : inU p 18446744073709551616 = true) (h1 : inU s 18446744073709551616 = true) :
 If ([p].length.ble 1000 && inUs 18446744073709551616 [p]) (If (iLe 0 (idxP (badP O) [p])) (Value.bool false = Value.bool (lrO O p s) ∧ True ∧ True) (If (iBne s 0) (If (inU s
  18446744073709551616) (If (badP O s) (Value.bool false = Value.bool (lrO O p s) ∧ True ∧ True) (Value.bool (iLe (iOf 1) 4) = Value.bool (lrO O p s) ∧ True ∧ True)) False)
  (Value.bool (iLe (iOf 1) 4) = Value.bool (lrO O p s) ∧ True ∧ True))) False := by
 refine Sx.if_true (by simp only [inUs, List.all_cons, List.all_nil, h0]; rfl) ?_
 have e : iLe 0 (idxP (badP O) [p]) = badP O p := by
  unfold idxP
  cases hb : badP O p <;> simp [List.findIdx?_cons, hb] <;> rfl
 rw [e]
 unfold lrO badP
 cases O.pright p with
 | false => exact ⟨rfl, trivial, trivial⟩
 | true =>
  cases iBne s 0 with
  | false => exact ⟨rfl, trivial, trivial⟩
  | true =>
   show If (inU s 18446744073709551616) _ _
   refine Sx.if_true h1 ?_
   cases O.pright s with
   | false => exact ⟨rfl, trivial, trivial⟩
   | true => exact ⟨rfl, trivial, trivial⟩
theorem wpc_lright (O : OO) (Y : OY) (p s : Int) (F : FO O) (hy : Y = yO O) (h0 : inU p 18446744073709551616 = true) (h1 : inU s 18446744073709551616 = true) : wpcI Try.prog (spL2 O Y) Try.f73.ntmps [Ann.walk 3] (bodyOf Try.f73) 0 64 (envP (mks [.agg [.lit 79 1 [.ro .u64, .v, .v, .v]]] [.node [.node [.ints [p], .v (.int .i64 0), .v (.int .i64 0), .v (.int .u64 s)]]] 0).1 0) (mks [.agg [.lit 79 1 [.ro .u64, .v, .v, .v]]] [.node [.node [.ints [p], .v (.int .i64 0), .v (.int .i64 0), .v (.int .u64 s)]]] 0).2 (retP Try.prog Try.f73.results.toList 2 (⟨[.v (.bool (lrO O p s))], []⟩ : Post)) :=
 Eq.mpr (by kernel_rfl) (vc_lright O Y p s F hy h0 h1)
theorem ok_lright (I : Sx.Interp) (O : OO) (hO : O = oo) (Y : OY) (hY : Y = yO O) : Sx.SpecOK I Try.prog 73 (pspec [.agg [.lit 79 1 [.ro .u64, .v, .v, .v]]] false (g_lright O Y)) := by
 refine spec_patI (spL2_ok I O hO Y hY) (by kernel_rfl) (fun ds => match ds with | [.node [.node [.ints [p], .v (.int .i64 0), .v (.int .i64 0), .v (.int .u64 s)]]] => [Ann.walk 3] | _ => []) Try.func73 (by kernel_rfl) (by kernel_rfl) rfl Try.ntmps73 (by decide) ?_ ?_
 ·intro ds p bs F h
  unfold g_lright at h
  split at h
  ·simp only [Option.some.injEq, Prod.mk.injEq] at h
   obtain ⟨_, _, rfl⟩ := h
   kernel_rfl
  ·cases h
 ·intro ds bs F hl h
  unfold g_lright at h
  split at h
  ·rename_i p s
   simp only [Option.some.injEq, Prod.mk.injEq, Bool.and_eq_true] at h
   obtain ⟨⟨h0, h1⟩, _, rfl⟩ := h
   exact wpc_lright O Y p s (fo_oo O hO) hY h0 h1
  ·cases h
def spL3 (O : OO) (Y : OY) (f : FuncId) : Option Sx.Spec := match f with
 | 73 => some (pspec [.agg [.lit 79 1 [.ro .u64, .v, .v, .v]]] false (g_lright O Y))
 | f => spL2 O Y f
theorem spL3_ok (I : Sx.Interp) (O : OO) (hO : O = oo) (Y : OY) (hY : Y = yO O) : ∀ f s, spL3 O Y f = some s → Sx.SpecOK I Try.prog f s := by
 intro f s h
 unfold spL3 at h
 split at h
 · cases h; exact ok_lright I O hO Y hY
 ·exact spL2_ok I O hO Y hY _ s h
def spL4 (O : OO) (Z : OZ) (Y : OY) (f : FuncId) : Option Sx.Spec := match spL3 O Y f with
 | some s => some s
 | none => spP3 O Z Y f
theorem spL4_ok (I : Sx.Interp) (O : OO) (hO : O = oo) (Z : OZ) (hZ : Z = zO O) (Y : OY) (hY : Y = yO O) : ∀ f s, spL4 O Z Y f = some s → Sx.SpecOK I Try.prog f s := by
 intro f s h
 unfold spL4 at h
 split at h
 ·rename_i s' hs; cases h; exact spL3_ok I O hO Y hY _ _ hs
 ·exact spP3_ok I O hO Z hZ Y hY _ s h
def g_lopen (O : OO) (Z : OZ) (Y : OY) (ds : List Dt) : Option (Bool × List Bool × (List Bool → Post)) := match ds with
 | [.node [.node [.ints [p], .v (.int .i64 0), .v (.int .i64 0), .v (.int .u64 s)]], .node [.v (.int .i64 0), .structs [[r, q]], .v (.int .u64 x)], .v (.agg m), .v (.int .i64 0), .v (.int .i64 0)] => some ((inU p 18446744073709551616) && (inU s 18446744073709551616) && (inU r 18446744073709551616) && (inU q 18446744073709551616) && (inU x 18446744073709551616) && (O.isH m), [], fun _ => ⟨[.v (.int .i64 (openO O Z p s x r q m))], []⟩)
 | _ => none
set_option maxHeartbeats 4000000 in
theorem vc_lopen (O : OO) (Z : OZ) (Y : OY) (p s r q x : Int) (n : Nat → Int) (F : FO O) (hy : Y = yO O) (h0 : inU p 18446744073709551616 = true) (h1 : inU s 18446744073709551616 = true) (h2 : inU r 18446744073709551616 = true) (h3 : inU q 18446744073709551616 = true) (h4 : inU x 18446744073709551616 = true) (h5 : O.isH (AV n) = true) :
 If (inU p 18446744073709551616 && inU s 18446744073709551616) (If (!lrO O p s) (Value.int .i64 1 = Value.int .i64 (openO O Z p s x r q (Array.mk (List.map (Value.int .u8) (tabI n
  32)))) ∧ True ∧ True) (If (iBne s 0) (If (inU x 18446744073709551616) (If (iBne (O.pbase x) s) (Value.int .i64 23 = Value.int .i64 (openO O Z p s x r q (Array.mk (List.map
  (Value.int .u8) (tabI n 32)))) ∧ True ∧ True) (If (inU ([p].getD 0 0) 18446744073709551616 && inU (([[r, q]].getD 0 []).getD 0 0) 18446744073709551616 && inU (([[r, q]].getD 0
  []).getD 1 0) 18446744073709551616 && O.isH (Array.mk (List.map (Value.int .u8) (tabI n 32)))) (If (!Z.chk ([p].getD 0 0) (Array.mk (List.map (Value.int .u8) (tabI n 32))) 1 (([[r,
  q]].getD 0 []).getD 0 0) (([[r, q]].getD 0 []).getD 1 0)) (Value.int .i64 7 = Value.int .i64 (openO O Z p s x r q (Array.mk (List.map (Value.int .u8) (tabI n 32)))) ∧ True ∧ True)
  (Value.int .i64 0 = Value.int .i64 (openO O Z p s x r q (Array.mk (List.map (Value.int .u8) (tabI n 32)))) ∧ True ∧ True)) False)) False) (If (inU ([p].getD 0 0)
  18446744073709551616 && inU (([[r, q]].getD 0 []).getD 0 0) 18446744073709551616 && inU (([[r, q]].getD 0 []).getD 1 0) 18446744073709551616 && O.isH (Array.mk (List.map (Value.int
  .u8) (tabI n 32)))) (If (!Z.chk ([p].getD 0 0) (Array.mk (List.map (Value.int .u8) (tabI n 32))) 1 (([[r, q]].getD 0 []).getD 0 0) (([[r, q]].getD 0 []).getD 1 0)) (Value.int .i64 7
  = Value.int .i64 (openO O Z p s x r q (Array.mk (List.map (Value.int .u8) (tabI n 32)))) ∧ True ∧ True) (Value.int .i64 0 = Value.int .i64 (openO O Z p s x r q (Array.mk (List.map
  (Value.int .u8) (tabI n 32)))) ∧ True ∧ True)) False))) False := by
 have hz := h5
 have e1 : (inU ([p].getD 0 0) 18446744073709551616 && inU (([[r, q]].getD 0 []).getD 0 0) 18446744073709551616 && inU (([[r, q]].getD 0 []).getD 1 0) 18446744073709551616 && O.isH (Array.mk (List.map (Value.int IntKind.u8) (tabI n 32)))) = true := by
  show (inU p 18446744073709551616 && inU r 18446744073709551616 && inU q 18446744073709551616 && O.isH (AV n)) = true
  rw [h0, h2, h3, h5]; rfl
 have e2 : Z.chk ([p].getD 0 0) (Array.mk (List.map (Value.int IntKind.u8) (tabI n 32))) 1 (([[r, q]].getD 0 []).getD 0 0) (([[r, q]].getD 0 []).getD 1 0) = Z.chk p (AV n) 1 r q := rfl
 have e3 : (Array.mk (List.map (Value.int IntKind.u8) (tabI n 32)) : Array Value) = AV n := rfl
 refine Sx.if_true (by rw [h0, h1]; rfl) ?_
 rw [e1, e2, e3]
 unfold openO
 cases lrO O p s with
 | false => exact ⟨rfl, trivial, trivial⟩
 | true =>
  cases iBne s 0 with
  | false =>
   cases Z.chk p (AV n) 1 r q with
   | false => exact ⟨rfl, trivial, trivial⟩
   | true => exact ⟨rfl, trivial, trivial⟩
  | true =>
   refine Sx.if_false rfl (Sx.if_true rfl (Sx.if_true h4 ?_))
   cases iBne (O.pbase x) s with
   | true => exact ⟨rfl, trivial, trivial⟩
   | false =>
    cases Z.chk p (AV n) 1 r q with
    | false => exact ⟨rfl, trivial, trivial⟩
    | true => exact ⟨rfl, trivial, trivial⟩
theorem wpc_lopen (O : OO) (Z : OZ) (Y : OY) (p s r q x : Int) (n : Nat → Int) (F : FO O) (hy : Y = yO O) (h0 : inU p 18446744073709551616 = true) (h1 : inU s 18446744073709551616 = true) (h2 : inU r 18446744073709551616 = true) (h3 : inU q 18446744073709551616 = true) (h4 : inU x 18446744073709551616 = true) (h5 : O.isH (AV n) = true) : wpcI Try.prog (spL4 O Z Y) Try.f44.ntmps [Ann.walk 3] (bodyOf Try.f44) 0 64 (envP (mks [.agg [.lit 79 1 [.ro .u64, .v, .v, .v]], .agg [.v, .roS [.u64, .u64], .v], .v, .v, .v] [.node [.node [.ints [p], .v (.int .i64 0), .v (.int .i64 0), .v (.int .u64 s)]], .node [.v (.int .i64 0), .structs [[r, q]], .v (.int .u64 x)], .v (.agg (AV n)), .v (.int .i64 0), .v (.int .i64 0)] 0).1 0) (mks [.agg [.lit 79 1 [.ro .u64, .v, .v, .v]], .agg [.v, .roS [.u64, .u64], .v], .v, .v, .v] [.node [.node [.ints [p], .v (.int .i64 0), .v (.int .i64 0), .v (.int .u64 s)]], .node [.v (.int .i64 0), .structs [[r, q]], .v (.int .u64 x)], .v (.agg (AV n)), .v (.int .i64 0), .v (.int .i64 0)] 0).2 (retP Try.prog Try.f44.results.toList 3 (⟨[.v (.int .i64 (openO O Z p s x r q (AV n)))], []⟩ : Post)) :=
 Eq.mpr (by kernel_rfl) (vc_lopen O Z Y p s r q x n F hy h0 h1 h2 h3 h4 h5)
theorem ok_lopen (I : Sx.Interp) (O : OO) (hO : O = oo) (Z : OZ) (hZ : Z = zO O) (Y : OY) (hY : Y = yO O) : Sx.SpecOK I Try.prog 44 (pspec [.agg [.lit 79 1 [.ro .u64, .v, .v, .v]], .agg [.v, .roS [.u64, .u64], .v], .v, .v, .v] false (g_lopen O Z Y)) := by
 refine spec_patI (spL4_ok I O hO Z hZ Y hY) (by kernel_rfl) (fun ds => match ds with | [.node [.node [.ints [p], .v (.int .i64 0), .v (.int .i64 0), .v (.int .u64 s)]], .node [.v (.int .i64 0), .structs [[r, q]], .v (.int .u64 x)], .v (.agg m), .v (.int .i64 0), .v (.int .i64 0)] => [Ann.walk 3] | _ => []) Try.func44 (by kernel_rfl) (by kernel_rfl) rfl Try.ntmps44 (by decide) ?_ ?_
 ·intro ds p bs F h
  unfold g_lopen at h
  split at h
  ·simp only [Option.some.injEq, Prod.mk.injEq] at h
   obtain ⟨_, _, rfl⟩ := h
   kernel_rfl
  ·cases h
 ·intro ds bs F hl h
  unfold g_lopen at h
  split at h
  ·rename_i p s r q x m
   simp only [Option.some.injEq, Prod.mk.injEq, Bool.and_eq_true] at h
   obtain ⟨⟨⟨⟨⟨⟨h0, h1⟩, h2⟩, h3⟩, h4⟩, h5⟩, _, rfl⟩ := h
   obtain ⟨n, rfl⟩ := isH_AV (by subst hO; exact h5 : isHa m = true)
   exact wpc_lopen O Z Y p s r q x n (fo_oo O hO) hY h0 h1 h2 h3 h4 h5
  ·cases h
def spL5 (O : OO) (Z : OZ) (Y : OY) (f : FuncId) : Option Sx.Spec := match f with
 | 44 => some (pspec [.agg [.lit 79 1 [.ro .u64, .v, .v, .v]], .agg [.v, .roS [.u64, .u64], .v], .v, .v, .v] false (g_lopen O Z Y))
 | f => spL4 O Z Y f
theorem spL5_ok (I : Sx.Interp) (O : OO) (hO : O = oo) (Z : OZ) (hZ : Z = zO O) (Y : OY) (hY : Y = yO O) : ∀ f s, spL5 O Z Y f = some s → Sx.SpecOK I Try.prog f s := by
 intro f s h
 unfold spL5 at h
 split at h
 ·cases h; exact ok_lopen I O hO Z hZ Y hY
 ·exact spL4_ok I O hO Z hZ Y hY _ s h
end Go.Proofs.Ytcdmmfelagbpdaa
