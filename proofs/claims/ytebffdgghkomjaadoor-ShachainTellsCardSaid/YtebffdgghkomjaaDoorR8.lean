/- The other reading of code (corsnedref08), by the symbolic machine (printed by genR8.py; VCs by VcTool). -/
import Derived.Test.YtebffdgghkomjaaDoorRn
namespace Go.Proofs.YtebffdgghkomjaaDoor
open Go.RowKit Go.Lib Ckp Cfd Cpd Sx
set_option linter.unusedVariables false
set_option linter.unusedSimpArgs false
set_option maxRecDepth 1000000

theorem Int.pow_le_pow_right_of_le {j m : Nat} (h : j ≤ m) : (2 : Int) ^ (7 * j) ≤ 2 ^ (7 * m) := by
 exact_mod_cast Nat.pow_le_pow_right (show 0 < 2 by decide) (show 7 * j ≤ 7 * m by omega)
theorem rowG_more : ∀ (f : Nat) (n : Int), n < 128 ^ (f + 1) → rowG (f + 1) n = rowG (f + 2) n
 | f, n, h => by
  by_cases c : n < 128
  ·rw [rowG_small f c, rowG_small (f + 1) c]
  ·rw [rowG_big f (by omega), rowG_big (f + 1) (by omega)]
   cases f with
   | zero => simp at h; omega
   | succ f =>
    rw [rowG_more f (n / 128) (by
     rw [Int.pow_succ] at h
     omega)]
def g_row8 (O : OO) (R : OB) (M : Int) (ds : List Dt) : Option (Bool × List Bool × (List Bool → Post)) := match ds with
 | [.v (.int .i64 n)] => some (iLe 0 n && iLt n M, [], fun _ => ⟨[.row 0], [(0, .own 5 (.ints .u8 (R.row n)))]⟩)
 | _ => none
def spT0 (O : OO) (R : OB) (M M' : Int) (f : FuncId) : Option Sx.Spec := match f with
 | 63 => some (pspec [.v] false (g_row8 O R M))
 | f => none
theorem spT0_ok (I : Sx.Interp) (O : OO) (hO : O = oo) (R : OB) (hR : R = bO) (M M' : Int) (hM : ∀ n : Int, 0 ≤ n → n < M' → n < 128 ∨ n / 128 < M) (hM' : M' ≤ 9223372036854775808) (ih : Sx.SpecOK I Tryd.prog 63 (pspec [.v] false (g_row8 O R M))) : ∀ f s, spT0 O R M M' f = some s → Sx.SpecOK I Tryd.prog f s := by
 intro f s h
 unfold spT0 at h
 split at h
 · cases h; exact ih
 ·cases h
def g_row8s (O : OO) (R : OB) (M M' : Int) (ds : List Dt) : Option (Bool × List Bool × (List Bool → Post)) := match ds with
 | [.v (.int .i64 n)] => some ((iLe 0 n) && (iLt n M'), [], fun _ => ⟨[.row 0], [(0, .own 5 (.ints .u8 (R.row n)))]⟩)
 | _ => none
set_option maxHeartbeats 4000000 in
theorem vc_row8s (O : OO) (R : OB) (M M' : Int) (n : Int) (F : FO O) (hr : R = bO) (hM : ∀ n : Int, 0 ≤ n → n < M' → n < 128 ∨ n / 128 < M) (hM' : M' ≤ 9223372036854775808) (h0 : (iLe 0 n) = true) (h1 : (iLt n M') = true) :
 If (iLt n 128) (True ∧ EqI [IntKind.u8.wrap n] (R.row n) ∧ True) (If (iLe 0 (IntKind.i64.wrap (n.tdiv 128)) && iLt (IntKind.i64.wrap (n.tdiv 128)) M) (If ((nMul (nAdd 1 (R.row
  (IntKind.i64.wrap (n.tdiv 128))).length) 1).ble 140737488355328 && (nAdd 1 (R.row (IntKind.i64.wrap (n.tdiv 128))).length).ble 9223372036854775807) (True ∧ EqI (app [IntKind.u8.wrap
  (iAdd (IntKind.u8.wrap (n.tmod 128)) 128)] (R.row (IntKind.i64.wrap (n.tdiv 128)))) (R.row n) ∧ True) False) False) := by
 simp only [Bool.and_eq_true, Bool.or_eq_true, Sx.iLt_t, Sx.iLt_f, Sx.iLe_t, Sx.iLe_f, Sx.iEq_t, Sx.iEq_f, Sx.iBeq_t, Sx.iBeq_f, Sx.iBne_t, Sx.iBne_f, Nat.ble_eq, Nat.beq_eq, Sx.Cont.n] at h0 h1
 subst hr
 have hrw : ∀ m : Int, bO.row m = rowG 10 m := fun _ => rfl
 refine Sx.if_both (fun c => ?_) (fun c => ?_)
 ·simp only [Bool.and_eq_true, Bool.or_eq_true, Sx.iLt_t, Sx.iLt_f, Sx.iLe_t, Sx.iLe_f, Sx.iEq_t, Sx.iEq_f, Sx.iBeq_t, Sx.iBeq_f, Sx.iBne_t, Sx.iBne_f, Nat.ble_eq, Nat.beq_eq, Sx.Cont.n] at c
  refine ⟨trivial, ?_, trivial⟩
  have w : IntKind.u8.wrap n = n := by rw [IntKind.wrap_u8]; omega
  show [IntKind.u8.wrap n] = bO.row n
  rw [w, hrw, rowG_small 9 c]
 ·simp only [Bool.and_eq_true, Bool.or_eq_true, Sx.iLt_t, Sx.iLt_f, Sx.iLe_t, Sx.iLe_f, Sx.iEq_t, Sx.iEq_f, Sx.iBeq_t, Sx.iBeq_f, Sx.iBne_t, Sx.iBne_f, Nat.ble_eq, Nat.beq_eq, Sx.Cont.n] at c
  have hq : n.tdiv 128 = n / 128 := Int.tdiv_eq_ediv_of_nonneg h0
  have hm : n.tmod 128 = n % 128 := Int.tmod_eq_emod_of_nonneg h0
  have w1 : IntKind.i64.wrap (n.tdiv 128) = n / 128 := by rw [hq, IntKind.wrap_i64]; omega
  have w2 : IntKind.u8.wrap (iAdd (IntKind.u8.wrap (n.tmod 128)) 128) = n % 128 + 128 := by simp only [Sx.app, Sx.nAdd, Sx.nSub, Sx.nMul, Sx.nPow, Sx.nDiv, Sx.nMod, Sx.iAdd, Sx.iSub, Sx.iMul, Sx.iNeg, Sx.iPow, Sx.iOf]; rw [hm, IntKind.wrap_u8, IntKind.wrap_u8]; omega
  have hM1 : n / 128 < M := by
   rcases hM n h0 h1 with h | h
   ·omega
   ·exact h
  have hl := row_len (R := bO) rfl (n / 128)
  rw [w1, w2]
  refine Sx.if_true (by simp only [Bool.and_eq_true, Bool.or_eq_true, Sx.iLt_t, Sx.iLt_f, Sx.iLe_t, Sx.iLe_f, Sx.iEq_t, Sx.iEq_f, Sx.iBeq_t, Sx.iBeq_f, Sx.iBne_t, Sx.iBne_f, Nat.ble_eq, Nat.beq_eq, Sx.Cont.n]; omega) (Sx.if_true (by simp only [Bool.and_eq_true, Bool.or_eq_true, Sx.iLt_t, Sx.iLt_f, Sx.iLe_t, Sx.iLe_f, Sx.iEq_t, Sx.iEq_f, Sx.iBeq_t, Sx.iBeq_f, Sx.iBne_t, Sx.iBne_f, Nat.ble_eq, Nat.beq_eq, Sx.Cont.n, Sx.app, Sx.nAdd, Sx.nSub, Sx.nMul, Sx.nPow, Sx.nDiv, Sx.nMod, Sx.iAdd, Sx.iSub, Sx.iMul, Sx.iNeg, Sx.iPow, Sx.iOf]; omega) ⟨trivial, ?_, trivial⟩)
  show (n % 128 + 128) :: bO.row (n / 128) = bO.row n
  rw [hrw, hrw, rowG_big 9 (n := n) (by omega), rowG_more 8 (n / 128) (show n / 128 < 9223372036854775808 by omega)]
theorem wpc_row8s (O : OO) (R : OB) (M M' : Int) (n : Int) (F : FO O) (hr : R = bO) (hM : ∀ n : Int, 0 ≤ n → n < M' → n < 128 ∨ n / 128 < M) (hM' : M' ≤ 9223372036854775808) (h0 : (iLe 0 n) = true) (h1 : (iLt n M') = true) : wpcI Tryd.prog (spT0 O R M M') Tryd.f63.ntmps [] (bodyOf Tryd.f63) 0 64 (envP (mks [.v] [.v (.int .i64 n)] 0).1 0) (mks [.v] [.v (.int .i64 n)] 0).2 (retP Tryd.prog Tryd.f63.results.toList 0 (⟨[.row 0], [(0, .own 5 (.ints .u8 (R.row n)))]⟩ : Post)) :=
 Eq.mpr (by kernel_rfl) (vc_row8s O R M M' n F hr hM hM' h0 h1)
theorem ok_row8s (I : Sx.Interp) (O : OO) (hO : O = oo) (R : OB) (hR : R = bO) (M M' : Int) (hM : ∀ n : Int, 0 ≤ n → n < M' → n < 128 ∨ n / 128 < M) (hM' : M' ≤ 9223372036854775808) (ih : Sx.SpecOK I Tryd.prog 63 (pspec [.v] false (g_row8 O R M))) : Sx.SpecOK I Tryd.prog 63 (pspec [.v] false (g_row8s O R M M')) := by
 refine spec_pI (spT0_ok I O hO R hR M M' hM hM' ih) (by kernel_rfl) (fun ds => match ds with | [.v (.int .i64 n)] => [] | _ => []) Tryd.func63 (by kernel_rfl) (by kernel_rfl) rfl Tryd.ntmps63 (by decide) ?_ ?_
 ·intro ds p bs F h
  unfold g_row8s at h
  split at h
  ·rename_i n
   simp only [Option.some.injEq, Prod.mk.injEq] at h
   obtain ⟨_, _, rfl⟩ := h
   kernel_rfl
  ·cases h
 ·intro ds bs F hl h
  unfold g_row8s at h
  split at h
  ·rename_i n
   simp only [Option.some.injEq, Prod.mk.injEq, Bool.and_eq_true] at h
   obtain ⟨⟨h0, h1⟩, _, rfl⟩ := h
   exact wpc_row8s O R M M' n (fo_oo O hO) hR hM hM' (by first | exact h0 | (simp only [Bool.and_eq_true]; exact h0)) (by first | exact h1 | (simp only [Bool.and_eq_true]; exact h1))
  ·cases h
def g_row8b (O : OO) (R : OB) (ds : List Dt) : Option (Bool × List Bool × (List Bool → Post)) := match ds with
 | [.v (.int .i64 n)] => some ((iLe 0 n) && (iLt n 128), [], fun _ => ⟨[.row 0], [(0, .own 5 (.ints .u8 (R.row n)))]⟩)
 | _ => none
set_option maxHeartbeats 4000000 in
theorem vc_row8b (O : OO) (R : OB) (n : Int) (F : FO O) (hr : R = bO) (h0 : (iLe 0 n) = true) (h1 : (iLt n 128) = true) :
 If (iLt n 128) (True ∧ EqI [IntKind.u8.wrap n] (R.row n) ∧ True) False := by
 simp only [Bool.and_eq_true, Bool.or_eq_true, Sx.iLt_t, Sx.iLt_f, Sx.iLe_t, Sx.iLe_f, Sx.iEq_t, Sx.iEq_f, Sx.iBeq_t, Sx.iBeq_f, Sx.iBne_t, Sx.iBne_f, Nat.ble_eq, Nat.beq_eq, Sx.Cont.n] at h0 h1
 subst hr
 have w : IntKind.u8.wrap n = n := by rw [IntKind.wrap_u8]; omega
 refine Sx.if_true (by simp only [Bool.and_eq_true, Bool.or_eq_true, Sx.iLt_t, Sx.iLt_f, Sx.iLe_t, Sx.iLe_f, Sx.iEq_t, Sx.iEq_f, Sx.iBeq_t, Sx.iBeq_f, Sx.iBne_t, Sx.iBne_f, Nat.ble_eq, Nat.beq_eq, Sx.Cont.n]; exact h1) ⟨trivial, ?_, trivial⟩
 show [IntKind.u8.wrap n] = rowG 10 n
 rw [w, rowG_small 9 h1]
theorem wpc_row8b (O : OO) (R : OB) (n : Int) (F : FO O) (hr : R = bO) (h0 : (iLe 0 n) = true) (h1 : (iLt n 128) = true) : wpcI Tryd.prog (spQ6 O R) Tryd.f63.ntmps [] (bodyOf Tryd.f63) 0 64 (envP (mks [.v] [.v (.int .i64 n)] 0).1 0) (mks [.v] [.v (.int .i64 n)] 0).2 (retP Tryd.prog Tryd.f63.results.toList 0 (⟨[.row 0], [(0, .own 5 (.ints .u8 (R.row n)))]⟩ : Post)) :=
 Eq.mpr (by kernel_rfl) (vc_row8b O R n F hr h0 h1)
theorem ok_row8b (I : Sx.Interp) (O : OO) (hO : O = oo) (R : OB) (hR : R = bO) : Sx.SpecOK I Tryd.prog 63 (pspec [.v] false (g_row8b O R)) := by
 refine spec_pI (spQ6_ok I O hO R hR) (by kernel_rfl) (fun ds => match ds with | [.v (.int .i64 n)] => [] | _ => []) Tryd.func63 (by kernel_rfl) (by kernel_rfl) rfl Tryd.ntmps63 (by decide) ?_ ?_
 ·intro ds p bs F h
  unfold g_row8b at h
  split at h
  ·rename_i n
   simp only [Option.some.injEq, Prod.mk.injEq] at h
   obtain ⟨_, _, rfl⟩ := h
   kernel_rfl
  ·cases h
 ·intro ds bs F hl h
  unfold g_row8b at h
  split at h
  ·rename_i n
   simp only [Option.some.injEq, Prod.mk.injEq, Bool.and_eq_true] at h
   obtain ⟨⟨h0, h1⟩, _, rfl⟩ := h
   exact wpc_row8b O R n (fo_oo O hO) hR (by first | exact h0 | (simp only [Bool.and_eq_true]; exact h0)) (by first | exact h1 | (simp only [Bool.and_eq_true]; exact h1))
  ·cases h
theorem g_row8_eq (O : OO) (R : OB) (M M' : Int) : g_row8s O R M M' = g_row8 O R M' := by
 funext ds
 unfold g_row8s g_row8
 split <;> rfl
theorem row8_up (I : Sx.Interp) (O : OO) (hO : O = oo) (R : OB) (hR : R = bO) {M M' : Int} (hM : ∀ n : Int, 0 ≤ n → n < M' → n < 128 ∨ n / 128 < M) (hM' : M' ≤ 9223372036854775808) (ih : Sx.SpecOK I Tryd.prog 63 (pspec [.v] false (g_row8 O R M))) : Sx.SpecOK I Tryd.prog 63 (pspec [.v] false (g_row8 O R M')) := by
 have k := ok_row8s I O hO R hR M M' hM hM' ih
 rwa [g_row8_eq] at k
theorem row8_0 (I : Sx.Interp) (O : OO) (hO : O = oo) (R : OB) (hR : R = bO) : Sx.SpecOK I Tryd.prog 63 (pspec [.v] false (g_row8 O R 128)) := by
 have k := ok_row8b I O hO R hR
 have e : g_row8b O R = g_row8 O R 128 := by
  funext ds
  unfold g_row8b g_row8
  split <;> rfl
 rwa [e] at k
theorem ok_row8 (I : Sx.Interp) (O : OO) (hO : O = oo) (R : OB) (hR : R = bO) : Sx.SpecOK I Tryd.prog 63 (pspec [.v] false (g_row8 O R 9223372036854775808)) := by
 have up := fun (M M' : Int) (h : M' = M * 128) (h0 : 0 ≤ M) (hM' : M' ≤ 9223372036854775808) ih => row8_up I O hO R hR (M := M) (M' := M') (fun n n0 n1 => .inr (by omega)) hM' ih
 exact up 72057594037927936 _ (by decide) (by decide) (by decide) (up 562949953421312 _ (by decide) (by decide) (by decide) (up 4398046511104 _ (by decide) (by decide) (by decide) (up 34359738368 _ (by decide) (by decide) (by decide) (up 268435456 _ (by decide) (by decide) (by decide) (up 2097152 _ (by decide) (by decide) (by decide) (up 16384 _ (by decide) (by decide) (by decide) (up 128 _ (by decide) (by decide) (by decide) (row8_0 I O hO R hR))))))))
def spT1 (O : OO) (R : OB) (f : FuncId) : Option Sx.Spec := match f with
 | 63 => some (pspec [.v] false (g_row8 O R 9223372036854775808))
 | f => spQ6 O R f
theorem spT1_ok (I : Sx.Interp) (O : OO) (hO : O = oo) (R : OB) (hR : R = bO) : ∀ f s, spT1 O R f = some s → Sx.SpecOK I Tryd.prog f s := by
 intro f s h
 unfold spT1 at h
 split at h
 · cases h; exact ok_row8 I O hO R hR
 ·exact spQ6_ok I O hO R hR _ s h
def g_open8 (O : OO) (R : OB) (ds : List Dt) : Option (Bool × List Bool × (List Bool → Post)) := match ds with
 | [.ints b] => some ((Nat.ble b.length 1000000), [], fun _ => ⟨[.ptr 1 0], [(1, .blk 86 [.row 2, .v (.bool false)]), (2, .own 5 (.ints .u8 b))]⟩)
 | _ => none
set_option maxHeartbeats 4000000 in
theorem vc_open8 (O : OO) (R : OB) (b : List Int) (F : FO O) (hr : R = bO) (h0 : (Nat.ble b.length 1000000) = true) :
 If ((nMul (nAdd 0 b.length) 1).ble 140737488355328 && (nAdd 0 b.length).ble 9223372036854775807) (True ∧ Value.bool false = Value.bool false ∧ EqI (app [] b) b ∧ True) False := by
 have h0' := Nat.le_of_ble_eq_true h0
 exact Sx.if_true (by simp only [Bool.and_eq_true, Bool.or_eq_true, Sx.iLt_t, Sx.iLt_f, Sx.iLe_t, Sx.iLe_f, Sx.iEq_t, Sx.iEq_f, Sx.iBeq_t, Sx.iBeq_f, Sx.iBne_t, Sx.iBne_f, Nat.ble_eq, Nat.beq_eq, Sx.Cont.n, Sx.app, Sx.nAdd, Sx.nSub, Sx.nMul, Sx.nPow, Sx.nDiv, Sx.nMod, Sx.iAdd, Sx.iSub, Sx.iMul, Sx.iNeg, Sx.iPow, Sx.iOf]; omega) ⟨trivial, rfl, rfl, trivial⟩
theorem wpc_open8 (O : OO) (R : OB) (b : List Int) (F : FO O) (hr : R = bO) (h0 : (Nat.ble b.length 1000000) = true) : wpcI Tryd.prog (spT1 O R) Tryd.f40.ntmps [] (bodyOf Tryd.f40) 0 64 (envP (mks [.ro .u8] [.ints b] 0).1 0) (mks [.ro .u8] [.ints b] 0).2 (retP Tryd.prog Tryd.f40.results.toList 1 (⟨[.ptr 1 0], [(1, .blk 86 [.row 2, .v (.bool false)]), (2, .own 5 (.ints .u8 b))]⟩ : Post)) :=
 Eq.mpr (by kernel_rfl) (vc_open8 O R b F hr h0)
theorem ok_open8 (I : Sx.Interp) (O : OO) (hO : O = oo) (R : OB) (hR : R = bO) : Sx.SpecOK I Tryd.prog 40 (pspec [.ro .u8] false (g_open8 O R)) := by
 refine spec_pI (spT1_ok I O hO R hR) (by kernel_rfl) (fun ds => match ds with | [.ints b] => [] | _ => []) Tryd.func40 (by kernel_rfl) (by kernel_rfl) rfl Tryd.ntmps40 (by decide) ?_ ?_
 ·intro ds p bs F h
  unfold g_open8 at h
  split at h
  ·rename_i b
   simp only [Option.some.injEq, Prod.mk.injEq] at h
   obtain ⟨_, _, rfl⟩ := h
   kernel_rfl
  ·cases h
 ·intro ds bs F hl h
  unfold g_open8 at h
  split at h
  ·rename_i b
   simp only [Option.some.injEq, Prod.mk.injEq, Bool.and_eq_true] at h
   obtain ⟨h0, _, rfl⟩ := h
   exact wpc_open8 O R b (fo_oo O hO) hR (by first | exact h0 | (simp only [Bool.and_eq_true]; exact h0))
  ·cases h
def g_fail8 (O : OO) (R : OB) (ds : List Dt) : Option (Bool × List Bool × (List Bool → Post)) := match ds with
 | [.node [.ints l, .v (.bool no)]] => some (true, [], fun _ => ⟨[], [(0, .blk 86 [.row 2, .v (.bool true)]), (2, .own 5 (.ints .u8 []))]⟩)
 | _ => none
set_option maxHeartbeats 4000000 in
theorem vc_fail8 (O : OO) (R : OB) (l : List Int) (no : Bool) (F : FO O) (hr : R = bO) :
 True ∧ Value.bool true = Value.bool true ∧ EqI [] [] ∧ True := by
 exact ⟨trivial, rfl, rfl, trivial⟩
theorem wpc_fail8 (O : OO) (R : OB) (l : List Int) (no : Bool) (F : FO O) (hr : R = bO) : wpcI Tryd.prog (spT1 O R) Tryd.f59.ntmps [] (bodyOf Tryd.f59) 0 64 (envP (mks [.obj 86 [.ro .u8, .v]] [.node [.ints l, .v (.bool no)]] 0).1 0) (mks [.obj 86 [.ro .u8, .v]] [.node [.ints l, .v (.bool no)]] 0).2 (retPA [(100000, 5, .ints .u8 [])] Tryd.prog Tryd.f59.results.toList 2 (⟨[], [(0, .blk 86 [.row 2, .v (.bool true)]), (2, .own 5 (.ints .u8 []))]⟩ : Post)) :=
 Eq.mpr (by kernel_rfl) (vc_fail8 O R l no F hr)
theorem ok_fail8 (I : Sx.Interp) (O : OO) (hO : O = oo) (R : OB) (hR : R = bO) : Sx.SpecOK I Tryd.prog 59 (pspec [.obj 86 [.ro .u8, .v]] true (g_fail8 O R)) := by
 refine spec_pAI (spT1_ok I O hO R hR) (by kernel_rfl) (fun ds => match ds with | [.node [.ints l, .v (.bool no)]] => [] | _ => []) (fun ds => match ds with | [.node [.ints l, .v (.bool no)]] => [(100000, 5, .ints .u8 [])] | _ => []) Tryd.func59 (by kernel_rfl) (by kernel_rfl) rfl Tryd.ntmps59 (by decide) ?_ ?_
 ·intro ds p bs F h
  unfold g_fail8 at h
  split at h
  ·rename_i l no
   simp only [Option.some.injEq, Prod.mk.injEq] at h
   obtain ⟨_, _, rfl⟩ := h
   kernel_rfl
  ·cases h
 ·intro ds bs F hl h
  unfold g_fail8 at h
  split at h
  ·rename_i l no
   simp only [Option.some.injEq, Prod.mk.injEq, Bool.and_eq_true] at h
   obtain ⟨_, _, rfl⟩ := h
   exact wpc_fail8 O R l no (fo_oo O hO) hR 
  ·cases h
def spT2 (O : OO) (R : OB) (f : FuncId) : Option Sx.Spec := match f with
 | 59 => some (pspec [.obj 86 [.ro .u8, .v]] true (g_fail8 O R))
 | 40 => some (pspec [.ro .u8] false (g_open8 O R))
 | f => spT1 O R f
theorem spT2_ok (I : Sx.Interp) (O : OO) (hO : O = oo) (R : OB) (hR : R = bO) : ∀ f s, spT2 O R f = some s → Sx.SpecOK I Tryd.prog f s := by
 intro f s h
 unfold spT2 at h
 split at h
 · cases h; exact ok_fail8 I O hO R hR
 · cases h; exact ok_open8 I O hO R hR
 ·exact spT1_ok I O hO R hR _ s h
def g_put8 (O : OO) (R : OB) (ds : List Dt) : Option (Bool × List Bool × (List Bool → Post)) := match ds with
 | [.ints b, .v (.int .i64 n)] => some ((Nat.ble b.length 1000000) && (iLe n 9223372036854775807), [], fun _ => ⟨[.row 1], [(1, .own 5 (.ints .u8 (bif iLt n 0 then b else b ++ R.row n)))]⟩)
 | _ => none
set_option maxHeartbeats 4000000 in
theorem vc_put8 (O : OO) (R : OB) (b : List Int) (n : Int) (F : FO O) (hr : R = bO) (h0 : (Nat.ble b.length 1000000) = true) (h1 : (iLe n 9223372036854775807) = true) :
 If ((nMul (nAdd 0 b.length) 1).ble 140737488355328 && (nAdd 0 b.length).ble 9223372036854775807) (If (iLe 0 n) (If (iLe 0 n && iLt n 9223372036854775808) (If ((nMul (nAdd (app []
  b).length (R.row n).length) 1).ble 140737488355328 && (nAdd (app [] b).length (R.row n).length).ble 9223372036854775807) (True ∧ EqI (app (app [] b) (R.row n)) (bif iLt n 0 then b
  else app b (R.row n)) ∧ True) False) False) (True ∧ EqI (app [] b) (bif iLt n 0 then b else app b (R.row n)) ∧ True)) False := by
 have h0' := Nat.le_of_ble_eq_true h0
 have hl := row_len hr n
 simp only [Bool.and_eq_true, Bool.or_eq_true, Sx.iLt_t, Sx.iLt_f, Sx.iLe_t, Sx.iLe_f, Sx.iEq_t, Sx.iEq_f, Sx.iBeq_t, Sx.iBeq_f, Sx.iBne_t, Sx.iBne_f, Nat.ble_eq, Nat.beq_eq, Sx.Cont.n] at h1
 refine Sx.if_true (by simp only [Bool.and_eq_true, Bool.or_eq_true, Sx.iLt_t, Sx.iLt_f, Sx.iLe_t, Sx.iLe_f, Sx.iEq_t, Sx.iEq_f, Sx.iBeq_t, Sx.iBeq_f, Sx.iBne_t, Sx.iBne_f, Nat.ble_eq, Nat.beq_eq, Sx.Cont.n, Sx.app, Sx.nAdd, Sx.nSub, Sx.nMul, Sx.nPow, Sx.nDiv, Sx.nMod, Sx.iAdd, Sx.iSub, Sx.iMul, Sx.iNeg, Sx.iPow, Sx.iOf]; omega) (Sx.if_both (fun h => ?_) (fun h => ?_))
 ·simp only [Bool.and_eq_true, Bool.or_eq_true, Sx.iLt_t, Sx.iLt_f, Sx.iLe_t, Sx.iLe_f, Sx.iEq_t, Sx.iEq_f, Sx.iBeq_t, Sx.iBeq_f, Sx.iBne_t, Sx.iBne_f, Nat.ble_eq, Nat.beq_eq, Sx.Cont.n] at h
  rw [show iLt n 0 = false by simp only [Bool.and_eq_true, Bool.or_eq_true, Sx.iLt_t, Sx.iLt_f, Sx.iLe_t, Sx.iLe_f, Sx.iEq_t, Sx.iEq_f, Sx.iBeq_t, Sx.iBeq_f, Sx.iBne_t, Sx.iBne_f, Nat.ble_eq, Nat.beq_eq, Sx.Cont.n]; omega]
  exact Sx.if_true (by simp only [Bool.and_eq_true, Bool.or_eq_true, Sx.iLt_t, Sx.iLt_f, Sx.iLe_t, Sx.iLe_f, Sx.iEq_t, Sx.iEq_f, Sx.iBeq_t, Sx.iBeq_f, Sx.iBne_t, Sx.iBne_f, Nat.ble_eq, Nat.beq_eq, Sx.Cont.n]; omega) (Sx.if_true (by simp only [Bool.and_eq_true, Bool.or_eq_true, Sx.iLt_t, Sx.iLt_f, Sx.iLe_t, Sx.iLe_f, Sx.iEq_t, Sx.iEq_f, Sx.iBeq_t, Sx.iBeq_f, Sx.iBne_t, Sx.iBne_f, Nat.ble_eq, Nat.beq_eq, Sx.Cont.n, Sx.app, Sx.nAdd, Sx.nSub, Sx.nMul, Sx.nPow, Sx.nDiv, Sx.nMod, Sx.iAdd, Sx.iSub, Sx.iMul, Sx.iNeg, Sx.iPow, Sx.iOf, List.nil_append]; omega) ⟨trivial, rfl, trivial⟩)
 ·simp only [Bool.and_eq_true, Bool.or_eq_true, Sx.iLt_t, Sx.iLt_f, Sx.iLe_t, Sx.iLe_f, Sx.iEq_t, Sx.iEq_f, Sx.iBeq_t, Sx.iBeq_f, Sx.iBne_t, Sx.iBne_f, Nat.ble_eq, Nat.beq_eq, Sx.Cont.n] at h
  rw [show iLt n 0 = true by simp only [Bool.and_eq_true, Bool.or_eq_true, Sx.iLt_t, Sx.iLt_f, Sx.iLe_t, Sx.iLe_f, Sx.iEq_t, Sx.iEq_f, Sx.iBeq_t, Sx.iBeq_f, Sx.iBne_t, Sx.iBne_f, Nat.ble_eq, Nat.beq_eq, Sx.Cont.n]; omega]
  exact ⟨trivial, rfl, trivial⟩
theorem wpc_put8 (O : OO) (R : OB) (b : List Int) (n : Int) (F : FO O) (hr : R = bO) (h0 : (Nat.ble b.length 1000000) = true) (h1 : (iLe n 9223372036854775807) = true) : wpcI Tryd.prog (spT2 O R) Tryd.f48.ntmps [] (bodyOf Tryd.f48) 0 64 (envP (mks [.ro .u8, .v] [.ints b, .v (.int .i64 n)] 0).1 0) (mks [.ro .u8, .v] [.ints b, .v (.int .i64 n)] 0).2 (retP Tryd.prog Tryd.f48.results.toList 1 (⟨[.row 1], [(1, .own 5 (.ints .u8 (bif iLt n 0 then b else b ++ R.row n)))]⟩ : Post)) :=
 Eq.mpr (by kernel_rfl) (vc_put8 O R b n F hr h0 h1)
theorem ok_put8 (I : Sx.Interp) (O : OO) (hO : O = oo) (R : OB) (hR : R = bO) : Sx.SpecOK I Tryd.prog 48 (pspec [.ro .u8, .v] false (g_put8 O R)) := by
 refine spec_pI (spT2_ok I O hO R hR) (by kernel_rfl) (fun ds => match ds with | [.ints b, .v (.int .i64 n)] => [] | _ => []) Tryd.func48 (by kernel_rfl) (by kernel_rfl) rfl Tryd.ntmps48 (by decide) ?_ ?_
 ·intro ds p bs F h
  unfold g_put8 at h
  split at h
  ·rename_i b n
   simp only [Option.some.injEq, Prod.mk.injEq] at h
   obtain ⟨_, _, rfl⟩ := h
   kernel_rfl
  ·cases h
 ·intro ds bs F hl h
  unfold g_put8 at h
  split at h
  ·rename_i b n
   simp only [Option.some.injEq, Prod.mk.injEq, Bool.and_eq_true] at h
   obtain ⟨⟨h0, h1⟩, _, rfl⟩ := h
   exact wpc_put8 O R b n (fo_oo O hO) hR (by first | exact h0 | (simp only [Bool.and_eq_true]; exact h0)) (by first | exact h1 | (simp only [Bool.and_eq_true]; exact h1))
  ·cases h
def g_num8 (O : OO) (R : OB) (ds : List Dt) : Option (Bool × List Bool × (List Bool → Post)) := match ds with
 | [.node [.ints l, .v (.bool no)]] => some ((Nat.ble l.length 1000000) && (byB l), [], fun _ => ⟨[.v (.int .i64 (R.nV l))], [(0, .blk 86 [.row 2, .v (.bool (bif R.nOk l then no else true))]), (2, .ro (.ints .u8 (R.nR l)))]⟩)
 | _ => none
set_option maxHeartbeats 4000000 in
theorem vc_num8 (O : OO) (R : OB) (l : List Int) (no : Bool) (F : FO O) (hr : R = bO) (h0 : (Nat.ble l.length 1000000) = true) (h1 : (byB l) = true) :
 (∃ (x : Nat × Int × Int), (x.1 ≤ 9 ∧ numG l (nSub 10 x.1) x.1 x.2.1 = numG l 10 0 0 ∧ (iSub x.2.1 0).NonNeg ∧ (iSub (iPow 2 (nMul 7 x.1)) (iAdd x.2.1 1)).NonNeg ∧ (x.1 ≤ 8 → x.2.2 =
  iPow 2 (nMul 7 x.1))) ∧ (Value.int .i64 0 = Value.int .i64 x.2.1 ∧ Value.int .i64 1 = Value.int .i64 x.2.2 ∧ Value.int .i64 0 = Value.int .i64 (iOf x.1) ∧ True) ∧ Value.bool no =
  Value.bool no ∧ EqI l l ∧ True) ∧ ∀ (x : Nat × Int × Int), x.1 ≤ 9 ∧ numG l (nSub 10 x.1) x.1 x.2.1 = numG l 10 0 0 ∧ (iSub x.2.1 0).NonNeg ∧ (iSub (iPow 2 (nMul 7 x.1)) (iAdd x.2.1
  1)).NonNeg ∧ (x.1 ≤ 8 → x.2.2 = iPow 2 (nMul 7 x.1)) → If (iLt (iOf x.fst) (iOf (Cont.ints .u8 l).n)) (If (iLt (iOf x.fst) 9) (If (iLe 0 (iOf x.fst) && (iOf x.1).toNat.blt l.length)
  (If (true && Nat.beq 1 1 && (iOf x.1).toNat.blt l.length) (If (iBeq (IntKind.i64.wrap (l.getD (iOf x.1).toNat 0)) 0) (If (iLt 0 (iOf x.fst)) (Value.int .i64 0 = Value.int .i64 (R.nV
  l) ∧ True ∧ Value.bool true = Value.bool (bif R.nOk l then no else true) ∧ EqI [] (R.nR l) ∧ True) (If (iLt (IntKind.i64.wrap (l.getD (iOf x.fst).toNat 0)) 128) (If (iLe 0
  (IntKind.i64.wrap (iAdd (iOf x.fst) 1)) && iLe (IntKind.i64.wrap (iAdd (iOf x.fst) 1)) (iOf (Cont.ints .u8 l).n) && iLe (iOf (Cont.ints .u8 l).n) (iOf (Cont.ints .u8 l).n))
  (Value.int .i64 (IntKind.i64.wrap (iAdd x.2.1 (IntKind.i64.wrap (iMul ((IntKind.i64.wrap (l.getD (iOf x.1).toNat 0)).tmod 128) x.2.2)))) = Value.int .i64 (R.nV l) ∧ True ∧
  Value.bool no = Value.bool (bif R.nOk l then no else true) ∧ EqI (List.take (nSub (iOf l.length).toNat (IntKind.i64.wrap (iAdd (iOf x.1) 1)).toNat) (List.drop (IntKind.i64.wrap
  (iAdd (iOf x.1) 1)).toNat l)) (R.nR l) ∧ True) False) (∃ (x' : Nat × Int × Int), (x'.1 ≤ 9 ∧ numG l (nSub 10 x'.1) x'.1 x'.2.1 = numG l 10 0 0 ∧ (iSub x'.2.1 0).NonNeg ∧ (iSub (iPow
  2 (nMul 7 x'.1)) (iAdd x'.2.1 1)).NonNeg ∧ (x'.1 ≤ 8 → x'.2.2 = iPow 2 (nMul 7 x'.1))) ∧ (nSub 10 x'.1).succ ≤ nSub 10 x.1 ∧ (Value.int .i64 (IntKind.i64.wrap (iAdd x.2.1
  (IntKind.i64.wrap (iMul ((IntKind.i64.wrap (l.getD (iOf x.1).toNat 0)).tmod 128) x.2.2)))) = Value.int .i64 x'.2.1 ∧ Value.int .i64 (IntKind.i64.wrap (iMul 128 x.2.2)) = Value.int
  .i64 x'.2.2 ∧ Value.int .i64 (IntKind.i64.wrap (iAdd (iOf x.1) 1)) = Value.int .i64 (iOf x'.1) ∧ True) ∧ Value.bool no = Value.bool no ∧ EqI l l ∧ True))) (If (iLt (IntKind.i64.wrap
  (l.getD (iOf x.fst).toNat 0)) 128) (If (iLe 0 (IntKind.i64.wrap (iAdd (iOf x.fst) 1)) && iLe (IntKind.i64.wrap (iAdd (iOf x.fst) 1)) (iOf (Cont.ints .u8 l).n) && iLe (iOf (Cont.ints
  .u8 l).n) (iOf (Cont.ints .u8 l).n)) (Value.int .i64 (IntKind.i64.wrap (iAdd x.2.1 (IntKind.i64.wrap (iMul ((IntKind.i64.wrap (l.getD (iOf x.1).toNat 0)).tmod 128) x.2.2)))) =
  Value.int .i64 (R.nV l) ∧ True ∧ Value.bool no = Value.bool (bif R.nOk l then no else true) ∧ EqI (List.take (nSub (iOf l.length).toNat (IntKind.i64.wrap (iAdd (iOf x.1) 1)).toNat)
  (List.drop (IntKind.i64.wrap (iAdd (iOf x.1) 1)).toNat l)) (R.nR l) ∧ True) False) (∃ (x' : Nat × Int × Int), (x'.1 ≤ 9 ∧ numG l (nSub 10 x'.1) x'.1 x'.2.1 = numG l 10 0 0 ∧ (iSub
  x'.2.1 0).NonNeg ∧ (iSub (iPow 2 (nMul 7 x'.1)) (iAdd x'.2.1 1)).NonNeg ∧ (x'.1 ≤ 8 → x'.2.2 = iPow 2 (nMul 7 x'.1))) ∧ (nSub 10 x'.1).succ ≤ nSub 10 x.1 ∧ (Value.int .i64
  (IntKind.i64.wrap (iAdd x.2.1 (IntKind.i64.wrap (iMul ((IntKind.i64.wrap (l.getD (iOf x.1).toNat 0)).tmod 128) x.2.2)))) = Value.int .i64 x'.2.1 ∧ Value.int .i64 (IntKind.i64.wrap
  (iMul 128 x.2.2)) = Value.int .i64 x'.2.2 ∧ Value.int .i64 (IntKind.i64.wrap (iAdd (iOf x.1) 1)) = Value.int .i64 (iOf x'.1) ∧ True) ∧ Value.bool no = Value.bool no ∧ EqI l l ∧
  True))) False) False) (Value.int .i64 0 = Value.int .i64 (R.nV l) ∧ True ∧ Value.bool true = Value.bool (bif R.nOk l then no else true) ∧ EqI [] (R.nR l) ∧ True)) (Value.int .i64 0
  = Value.int .i64 (R.nV l) ∧ True ∧ Value.bool true = Value.bool (bif R.nOk l then no else true) ∧ EqI [] (R.nR l) ∧ True) := by
 subst hr
 have h0' := Nat.le_of_ble_eq_true h0
 have hV : bO.nV l = (numG l 10 0 0).2.1 := rfl
 have hK : bO.nOk l = (numG l 10 0 0).1 := rfl
 have hRR : bO.nR l = bif (numG l 10 0 0).1 then l.drop (numG l 10 0 0).2.2 else [] := rfl
 refine ⟨⟨(0, 0, 1), ⟨by decide, rfl, (show (0 : Int) ≤ 0 by decide), (show (0 : Int) < 2 ^ (7 * 0) by decide), fun _ => rfl⟩, ⟨rfl, rfl, rfl, trivial⟩, (by first | rfl | trivial), (by first | rfl | trivial), trivial⟩, ?_⟩
 rintro ⟨j, v, p⟩ ⟨c1, c2, c3, c4, c5⟩
 replace c1 : j ≤ 9 := c1
 replace c2 : numG l (10 - j) j v = numG l 10 0 0 := c2
 replace c3 : 0 ≤ v := c3
 replace c4 : v < 2 ^ (7 * j) := c4
 replace c5 : j ≤ 8 → p = 2 ^ (7 * j) := c5
 have ej : (iOf j).toNat = j := Int.toNat_natCast j
 have step : numG l (10 - j) j v = bif wrF l j then (false, 0, 0) else bif iLt (dgt l j) 128 then (true, orD v (dgt l j) j, j + 1) else numG l (10 - (j + 1)) (j + 1) (orD v (dgt l j) j) := by
  rw [show 10 - j = (10 - (j + 1)) + 1 by omega]; rfl
 have bad : wrF l j = true → numG l 10 0 0 = (false, 0, 0) := fun h => by rw [← c2, step, h]; rfl
 dsimp only
 refine Sx.if_both (fun d => ?_) (fun d => ?_)
 ·simp only [Bool.and_eq_true, Bool.or_eq_true, Sx.iLt_t, Sx.iLt_f, Sx.iLe_t, Sx.iLe_f, Sx.iEq_t, Sx.iEq_f, Sx.iBeq_t, Sx.iBeq_f, Sx.iBne_t, Sx.iBne_f, Nat.ble_eq, Nat.beq_eq, Sx.Cont.n, Sx.app, Sx.nAdd, Sx.nSub, Sx.nMul, Sx.nPow, Sx.nDiv, Sx.nMod, Sx.iAdd, Sx.iSub, Sx.iMul, Sx.iNeg, Sx.iPow, Sx.iOf] at d
  refine Sx.if_both (fun d2 => ?_) (fun d2 => ?_)
  ·simp only [Bool.and_eq_true, Bool.or_eq_true, Sx.iLt_t, Sx.iLt_f, Sx.iLe_t, Sx.iLe_f, Sx.iEq_t, Sx.iEq_f, Sx.iBeq_t, Sx.iBeq_f, Sx.iBne_t, Sx.iBne_f, Nat.ble_eq, Nat.beq_eq, Sx.Cont.n, Sx.app, Sx.nAdd, Sx.nSub, Sx.nMul, Sx.nPow, Sx.nDiv, Sx.nMod, Sx.iAdd, Sx.iSub, Sx.iMul, Sx.iNeg, Sx.iPow, Sx.iOf] at d2
   have hj8 : j ≤ 8 := by omega
   have hjl : j < l.length := by omega
   have hd : 0 ≤ dgt l j ∧ dgt l j < 256 := by
    unfold dgt
    rw [List.getD_eq_getElem?_getD, List.getElem?_eq_getElem hjl]
    exact byB_iff.1 h1 _ (List.getElem_mem hjl)
   have wd : IntKind.i64.wrap (l.getD j 0) = dgt l j := by
    show IntKind.i64.wrap (dgt l j) = dgt l j
    rw [IntKind.wrap_i64]; omega
   have wj0 : IntKind.i64.wrap (iAdd (iOf j) 1) = iOf (j + 1) := by simp only [Sx.app, Sx.nAdd, Sx.nSub, Sx.nMul, Sx.nPow, Sx.nDiv, Sx.nMod, Sx.iAdd, Sx.iSub, Sx.iMul, Sx.iNeg, Sx.iPow, Sx.iOf]; rw [IntKind.wrap_i64]; omega
   have wj : (IntKind.i64.wrap (iAdd (iOf j) 1)).toNat = j + 1 := by rw [wj0]; exact Int.toNat_natCast _
   have hmod : (dgt l j).tmod 128 = dgt l j % 128 := Int.tmod_eq_emod_of_nonneg hd.1
   have hp1 : (2 : Int) ^ (7 * j) ≤ 2 ^ (7 * 8) := Int.pow_le_pow_right_of_le hj8
   have hp2 : dgt l j % 128 * 2 ^ (7 * j) ≤ 127 * 2 ^ (7 * j) := Int.mul_le_mul_of_nonneg_right (by omega) (Int.pow_nonneg (by decide))
   have hp3 : 0 ≤ dgt l j % 128 * 2 ^ (7 * j) := Int.mul_nonneg (by omega) (Int.pow_nonneg (by decide))
   have hvn : IntKind.i64.wrap (iAdd v (IntKind.i64.wrap (iMul ((dgt l j).tmod 128) p))) = orD v (dgt l j) j := by
    rw [orD_eq hj8 c3 c4 hd, c5 hj8, hmod]
    simp only [Sx.app, Sx.nAdd, Sx.nSub, Sx.nMul, Sx.nPow, Sx.nDiv, Sx.nMod, Sx.iAdd, Sx.iSub, Sx.iMul, Sx.iNeg, Sx.iPow, Sx.iOf]
    rw [IntKind.wrap_i64, IntKind.wrap_i64]
    omega
   have hblt : j.blt l.length = true := by rw [Nat.blt_eq]; exact hjl
   rw [ej, wd, hblt]
   refine Sx.if_true (by simp only [Bool.and_eq_true, Bool.or_eq_true, Sx.iLt_t, Sx.iLt_f, Sx.iLe_t, Sx.iLe_f, Sx.iEq_t, Sx.iEq_f, Sx.iBeq_t, Sx.iBeq_f, Sx.iBne_t, Sx.iBne_f, Nat.ble_eq, Nat.beq_eq, Sx.Cont.n, Sx.app, Sx.nAdd, Sx.nSub, Sx.nMul, Sx.nPow, Sx.nDiv, Sx.nMod, Sx.iAdd, Sx.iSub, Sx.iMul, Sx.iNeg, Sx.iPow, Sx.iOf]; exact ⟨by omega, trivial⟩) (Sx.if_true rfl (Sx.if_both (fun z => ?_) (fun z => ?_)))
   ·simp only [iBeq_t] at z
    refine Sx.if_both (fun z2 => ?_) (fun z2 => ?_)
    ·simp only [Bool.and_eq_true, Bool.or_eq_true, Sx.iLt_t, Sx.iLt_f, Sx.iLe_t, Sx.iLe_f, Sx.iEq_t, Sx.iEq_f, Sx.iBeq_t, Sx.iBeq_f, Sx.iBne_t, Sx.iBne_f, Nat.ble_eq, Nat.beq_eq, Sx.Cont.n, Sx.app, Sx.nAdd, Sx.nSub, Sx.nMul, Sx.nPow, Sx.nDiv, Sx.nMod, Sx.iAdd, Sx.iSub, Sx.iMul, Sx.iNeg, Sx.iPow, Sx.iOf] at z2
     have E := bad (by
      cases q : wrF l j
      ·exact absurd z ((wr_f.1 q).2.2 (by omega))
      ·rfl)
     exact ⟨congrArg _ (by rw [hV, E]), trivial, congrArg _ (by rw [hK, E]; rfl), (by rw [hRR, E]; rfl), trivial⟩
    ·simp only [Bool.and_eq_true, Bool.or_eq_true, Sx.iLt_t, Sx.iLt_f, Sx.iLe_t, Sx.iLe_f, Sx.iEq_t, Sx.iEq_f, Sx.iBeq_t, Sx.iBeq_f, Sx.iBne_t, Sx.iBne_f, Nat.ble_eq, Nat.beq_eq, Sx.Cont.n, Sx.app, Sx.nAdd, Sx.nSub, Sx.nMul, Sx.nPow, Sx.nDiv, Sx.nMod, Sx.iAdd, Sx.iSub, Sx.iMul, Sx.iNeg, Sx.iPow, Sx.iOf] at z2
     have hw : wrF l j = false := wr_f.2 ⟨hjl, hj8, fun h => by omega⟩
     refine Sx.if_both (fun t => ?_) (fun t => ?_)
     ·have w5 : List.take (nSub (iOf l.length).toNat (j + 1)) (List.drop (j + 1) l) = l.drop (j + 1) := by simp only [Sx.app, Sx.nAdd, Sx.nSub, Sx.nMul, Sx.nPow, Sx.nDiv, Sx.nMod, Sx.iAdd, Sx.iSub, Sx.iMul, Sx.iNeg, Sx.iPow, Sx.iOf, Int.toNat_natCast]; exact List.take_of_length_le (by rw [List.length_drop]; omega)
      have E : numG l 10 0 0 = (true, orD v (dgt l j) j, j + 1) := by rw [← c2, step, hw, show iLt (dgt l j) 128 = true from t]; rfl
      rw [wj0, hvn, show (iOf (j + 1)).toNat = j + 1 from Int.toNat_natCast _, w5]
      refine Sx.if_true (by simp only [Bool.and_eq_true, Bool.or_eq_true, Sx.iLt_t, Sx.iLt_f, Sx.iLe_t, Sx.iLe_f, Sx.iEq_t, Sx.iEq_f, Sx.iBeq_t, Sx.iBeq_f, Sx.iBne_t, Sx.iBne_f, Nat.ble_eq, Nat.beq_eq, Sx.Cont.n, Sx.app, Sx.nAdd, Sx.nSub, Sx.nMul, Sx.nPow, Sx.nDiv, Sx.nMod, Sx.iAdd, Sx.iSub, Sx.iMul, Sx.iNeg, Sx.iPow, Sx.iOf]; omega) ⟨congrArg _ (by rw [hV, E]), trivial, congrArg _ (by rw [hK, E]; rfl), (by rw [hRR, E]; rfl), trivial⟩
     ·have E : numG l (10 - (j + 1)) (j + 1) (orD v (dgt l j) j) = numG l 10 0 0 := by rw [← c2, step, hw, show iLt (dgt l j) 128 = false from t]; rfl
      have hp8 := p7 j
      have ho := orD_eq hj8 c3 c4 hd
      refine ⟨(j + 1, orD v (dgt l j) j, IntKind.i64.wrap (iMul 128 p)), ⟨by omega, E, ?_, ?_, fun h => ?_⟩, by simp only [Sx.app, Sx.nAdd, Sx.nSub, Sx.nMul, Sx.nPow, Sx.nDiv, Sx.nMod, Sx.iAdd, Sx.iSub, Sx.iMul, Sx.iNeg, Sx.iPow, Sx.iOf]; omega, ⟨congrArg _ hvn, rfl, congrArg _ wj0, trivial⟩, (by first | rfl | trivial), (by first | rfl | trivial), trivial⟩
      ·show 0 ≤ orD v (dgt l j) j
       rw [ho]
       have : 0 ≤ dgt l j % 128 * 2 ^ (7 * j) := Int.mul_nonneg (by omega) (Int.pow_nonneg (by decide))
       omega
      ·show orD v (dgt l j) j < 2 ^ (7 * (j + 1))
       rw [ho, hp8]
       have : dgt l j % 128 * 2 ^ (7 * j) ≤ 127 * 2 ^ (7 * j) := Int.mul_le_mul_of_nonneg_right (by omega) (Int.pow_nonneg (by decide))
       omega
      ·show IntKind.i64.wrap (iMul 128 p) = 2 ^ (7 * (j + 1))
       have h : j + 1 ≤ 8 := h
       rw [c5 hj8, hp8]
       simp only [Sx.app, Sx.nAdd, Sx.nSub, Sx.nMul, Sx.nPow, Sx.nDiv, Sx.nMod, Sx.iAdd, Sx.iSub, Sx.iMul, Sx.iNeg, Sx.iPow, Sx.iOf]
       have : (2 : Int) ^ (7 * j) ≤ 2 ^ (7 * 7) := Int.pow_le_pow_right_of_le (show j ≤ 7 by omega)
       rw [IntKind.wrap_i64]
       have : 0 < (2 : Int) ^ (7 * j) := Int.pow_pos (by decide)
       omega
   ·simp only [iBeq_f] at z
    have hw : wrF l j = false := wr_f.2 ⟨hjl, hj8, fun _ => z⟩
    refine Sx.if_both (fun t => ?_) (fun t => ?_)
    ·have w5 : List.take (nSub (iOf l.length).toNat (j + 1)) (List.drop (j + 1) l) = l.drop (j + 1) := by simp only [Sx.app, Sx.nAdd, Sx.nSub, Sx.nMul, Sx.nPow, Sx.nDiv, Sx.nMod, Sx.iAdd, Sx.iSub, Sx.iMul, Sx.iNeg, Sx.iPow, Sx.iOf, Int.toNat_natCast]; exact List.take_of_length_le (by rw [List.length_drop]; omega)
     have E : numG l 10 0 0 = (true, orD v (dgt l j) j, j + 1) := by rw [← c2, step, hw, show iLt (dgt l j) 128 = true from t]; rfl
     rw [wj0, hvn, show (iOf (j + 1)).toNat = j + 1 from Int.toNat_natCast _, w5]
     refine Sx.if_true (by simp only [Bool.and_eq_true, Bool.or_eq_true, Sx.iLt_t, Sx.iLt_f, Sx.iLe_t, Sx.iLe_f, Sx.iEq_t, Sx.iEq_f, Sx.iBeq_t, Sx.iBeq_f, Sx.iBne_t, Sx.iBne_f, Nat.ble_eq, Nat.beq_eq, Sx.Cont.n, Sx.app, Sx.nAdd, Sx.nSub, Sx.nMul, Sx.nPow, Sx.nDiv, Sx.nMod, Sx.iAdd, Sx.iSub, Sx.iMul, Sx.iNeg, Sx.iPow, Sx.iOf]; omega) ⟨congrArg _ (by rw [hV, E]), trivial, congrArg _ (by rw [hK, E]; rfl), (by rw [hRR, E]; rfl), trivial⟩
    ·have E : numG l (10 - (j + 1)) (j + 1) (orD v (dgt l j) j) = numG l 10 0 0 := by rw [← c2, step, hw, show iLt (dgt l j) 128 = false from t]; rfl
     have hp8 := p7 j
     have ho := orD_eq hj8 c3 c4 hd
     refine ⟨(j + 1, orD v (dgt l j) j, IntKind.i64.wrap (iMul 128 p)), ⟨by omega, E, ?_, ?_, fun h => ?_⟩, by simp only [Sx.app, Sx.nAdd, Sx.nSub, Sx.nMul, Sx.nPow, Sx.nDiv, Sx.nMod, Sx.iAdd, Sx.iSub, Sx.iMul, Sx.iNeg, Sx.iPow, Sx.iOf]; omega, ⟨congrArg _ hvn, rfl, congrArg _ wj0, trivial⟩, (by first | rfl | trivial), (by first | rfl | trivial), trivial⟩
     ·show 0 ≤ orD v (dgt l j) j
      rw [ho]
      have : 0 ≤ dgt l j % 128 * 2 ^ (7 * j) := Int.mul_nonneg (by omega) (Int.pow_nonneg (by decide))
      omega
     ·show orD v (dgt l j) j < 2 ^ (7 * (j + 1))
      rw [ho, hp8]
      have : dgt l j % 128 * 2 ^ (7 * j) ≤ 127 * 2 ^ (7 * j) := Int.mul_le_mul_of_nonneg_right (by omega) (Int.pow_nonneg (by decide))
      omega
     ·show IntKind.i64.wrap (iMul 128 p) = 2 ^ (7 * (j + 1))
      have h : j + 1 ≤ 8 := h
      rw [c5 hj8, hp8]
      simp only [Sx.app, Sx.nAdd, Sx.nSub, Sx.nMul, Sx.nPow, Sx.nDiv, Sx.nMod, Sx.iAdd, Sx.iSub, Sx.iMul, Sx.iNeg, Sx.iPow, Sx.iOf]
      have : (2 : Int) ^ (7 * j) ≤ 2 ^ (7 * 7) := Int.pow_le_pow_right_of_le (show j ≤ 7 by omega)
      rw [IntKind.wrap_i64]
      have : 0 < (2 : Int) ^ (7 * j) := Int.pow_pos (by decide)
      omega
  ·simp only [Bool.and_eq_true, Bool.or_eq_true, Sx.iLt_t, Sx.iLt_f, Sx.iLe_t, Sx.iLe_f, Sx.iEq_t, Sx.iEq_f, Sx.iBeq_t, Sx.iBeq_f, Sx.iBne_t, Sx.iBne_f, Nat.ble_eq, Nat.beq_eq, Sx.Cont.n, Sx.app, Sx.nAdd, Sx.nSub, Sx.nMul, Sx.nPow, Sx.nDiv, Sx.nMod, Sx.iAdd, Sx.iSub, Sx.iMul, Sx.iNeg, Sx.iPow, Sx.iOf] at d2
   have E := bad (by
    cases q : wrF l j
    ·have := (wr_f.1 q).2.1; omega
    ·rfl)
   exact ⟨congrArg _ (by rw [hV, E]), trivial, congrArg _ (by rw [hK, E]; rfl), (by rw [hRR, E]; rfl), trivial⟩
 ·simp only [Bool.and_eq_true, Bool.or_eq_true, Sx.iLt_t, Sx.iLt_f, Sx.iLe_t, Sx.iLe_f, Sx.iEq_t, Sx.iEq_f, Sx.iBeq_t, Sx.iBeq_f, Sx.iBne_t, Sx.iBne_f, Nat.ble_eq, Nat.beq_eq, Sx.Cont.n, Sx.app, Sx.nAdd, Sx.nSub, Sx.nMul, Sx.nPow, Sx.nDiv, Sx.nMod, Sx.iAdd, Sx.iSub, Sx.iMul, Sx.iNeg, Sx.iPow, Sx.iOf] at d
  have E := bad (by
   cases q : wrF l j
   ·have := (wr_f.1 q).1; omega
   ·rfl)
  exact ⟨congrArg _ (by rw [hV, E]), trivial, congrArg _ (by rw [hK, E]; rfl), (by rw [hRR, E]; rfl), trivial⟩
theorem wpc_num8 (O : OO) (R : OB) (l : List Int) (no : Bool) (F : FO O) (hr : R = bO) (h0 : (Nat.ble l.length 1000000) = true) (h1 : (byB l) = true) : wpcI Tryd.prog (spT2 O R) Tryd.f41.ntmps [⟨Nat × Int × Int, [0, 1], [], fun B x => [(3, .v (.int .i64 x.2.1)), (4, .v (.int .i64 x.2.2)), (5, .v (.int .i64 (x.1 : Nat)))], fun B x => [], fun x => x.1 ≤ 9 ∧ numG l (10 - x.1) x.1 x.2.1 = numG l 10 0 0 ∧ 0 ≤ x.2.1 ∧ x.2.1 < 2 ^ (7 * x.1) ∧ (x.1 ≤ 8 → x.2.2 = 2 ^ (7 * x.1)), fun x => 10 - x.1, 0⟩] (bodyOf Tryd.f41) 0 64 (envP (mks [.obj 86 [.ro .u8, .v]] [.node [.ints l, .v (.bool no)]] 0).1 0) (mks [.obj 86 [.ro .u8, .v]] [.node [.ints l, .v (.bool no)]] 0).2 (retPA [(100000, 5, .ints .u8 [])] Tryd.prog Tryd.f41.results.toList 2 (⟨[.v (.int .i64 (R.nV l))], [(0, .blk 86 [.row 2, .v (.bool (bif R.nOk l then no else true))]), (2, .ro (.ints .u8 (R.nR l)))]⟩ : Post)) :=
 Eq.mpr (by kernel_rfl) (vc_num8 O R l no F hr h0 h1)
theorem ok_num8 (I : Sx.Interp) (O : OO) (hO : O = oo) (R : OB) (hR : R = bO) : Sx.SpecOK I Tryd.prog 41 (pspec [.obj 86 [.ro .u8, .v]] true (g_num8 O R)) := by
 refine spec_pAI (spT2_ok I O hO R hR) (by kernel_rfl) (fun ds => match ds with | [.node [.ints l, .v (.bool no)]] => [⟨Nat × Int × Int, [0, 1], [], fun B x => [(3, .v (.int .i64 x.2.1)), (4, .v (.int .i64 x.2.2)), (5, .v (.int .i64 (x.1 : Nat)))], fun B x => [], fun x => x.1 ≤ 9 ∧ numG l (10 - x.1) x.1 x.2.1 = numG l 10 0 0 ∧ 0 ≤ x.2.1 ∧ x.2.1 < 2 ^ (7 * x.1) ∧ (x.1 ≤ 8 → x.2.2 = 2 ^ (7 * x.1)), fun x => 10 - x.1, 0⟩] | _ => []) (fun ds => match ds with | [.node [.ints l, .v (.bool no)]] => [(100000, 5, .ints .u8 [])] | _ => []) Tryd.func41 (by kernel_rfl) (by kernel_rfl) rfl Tryd.ntmps41 (by decide) ?_ ?_
 ·intro ds p bs F h
  unfold g_num8 at h
  split at h
  ·rename_i l no
   simp only [Option.some.injEq, Prod.mk.injEq] at h
   obtain ⟨_, _, rfl⟩ := h
   kernel_rfl
  ·cases h
 ·intro ds bs F hl h
  unfold g_num8 at h
  split at h
  ·rename_i l no
   simp only [Option.some.injEq, Prod.mk.injEq, Bool.and_eq_true] at h
   obtain ⟨⟨h0, h1⟩, _, rfl⟩ := h
   exact wpc_num8 O R l no (fo_oo O hO) hR (by first | exact h0 | (simp only [Bool.and_eq_true]; exact h0)) (by first | exact h1 | (simp only [Bool.and_eq_true]; exact h1))
  ·cases h
def g_ok8 (O : OO) (R : OB) (ds : List Dt) : Option (Bool × List Bool × (List Bool → Post)) := match ds with
 | [.node [.ints l, .v (.bool no)]] => some (true, [], fun _ => ⟨[.v (.bool (!no))], []⟩)
 | _ => none
set_option maxHeartbeats 4000000 in
theorem vc_ok8 (O : OO) (R : OB) (l : List Int) (no : Bool) (F : FO O) (hr : R = bO) :
 (Value.bool !no) = Value.bool !no ∧ True ∧ True := by
 exact ⟨rfl, trivial, trivial⟩
theorem wpc_ok8 (O : OO) (R : OB) (l : List Int) (no : Bool) (F : FO O) (hr : R = bO) : wpcI Tryd.prog (spT2 O R) Tryd.f42.ntmps [] (bodyOf Tryd.f42) 0 64 (envP (mks [.robj 86 [.ro .u8, .v]] [.node [.ints l, .v (.bool no)]] 0).1 0) (mks [.robj 86 [.ro .u8, .v]] [.node [.ints l, .v (.bool no)]] 0).2 (retP Tryd.prog Tryd.f42.results.toList 2 (⟨[.v (.bool (!no))], []⟩ : Post)) :=
 Eq.mpr (by kernel_rfl) (vc_ok8 O R l no F hr)
theorem ok_ok8 (I : Sx.Interp) (O : OO) (hO : O = oo) (R : OB) (hR : R = bO) : Sx.SpecOK I Tryd.prog 42 (pspec [.robj 86 [.ro .u8, .v]] false (g_ok8 O R)) := by
 refine spec_pI (spT2_ok I O hO R hR) (by kernel_rfl) (fun ds => match ds with | [.node [.ints l, .v (.bool no)]] => [] | _ => []) Tryd.func42 (by kernel_rfl) (by kernel_rfl) rfl Tryd.ntmps42 (by decide) ?_ ?_
 ·intro ds p bs F h
  unfold g_ok8 at h
  split at h
  ·rename_i l no
   simp only [Option.some.injEq, Prod.mk.injEq] at h
   obtain ⟨_, _, rfl⟩ := h
   kernel_rfl
  ·cases h
 ·intro ds bs F hl h
  unfold g_ok8 at h
  split at h
  ·rename_i l no
   simp only [Option.some.injEq, Prod.mk.injEq, Bool.and_eq_true] at h
   obtain ⟨_, _, rfl⟩ := h
   exact wpc_ok8 O R l no (fo_oo O hO) hR 
  ·cases h
def g_left8 (O : OO) (R : OB) (ds : List Dt) : Option (Bool × List Bool × (List Bool → Post)) := match ds with
 | [.node [.ints l, .v (.bool no)]] => some (true, [], fun _ => ⟨[.v (.int .i64 (l.length : Int))], []⟩)
 | _ => none
set_option maxHeartbeats 4000000 in
theorem vc_left8 (O : OO) (R : OB) (l : List Int) (no : Bool) (F : FO O) (hr : R = bO) :
 Value.int .i64 (iOf l.length) = Value.int .i64 (iOf l.length) ∧ True ∧ True := by
 exact ⟨rfl, trivial, trivial⟩
theorem wpc_left8 (O : OO) (R : OB) (l : List Int) (no : Bool) (F : FO O) (hr : R = bO) : wpcI Tryd.prog (spT2 O R) Tryd.f45.ntmps [] (bodyOf Tryd.f45) 0 64 (envP (mks [.robj 86 [.ro .u8, .v]] [.node [.ints l, .v (.bool no)]] 0).1 0) (mks [.robj 86 [.ro .u8, .v]] [.node [.ints l, .v (.bool no)]] 0).2 (retP Tryd.prog Tryd.f45.results.toList 2 (⟨[.v (.int .i64 (l.length : Int))], []⟩ : Post)) :=
 Eq.mpr (by kernel_rfl) (vc_left8 O R l no F hr)
theorem ok_left8 (I : Sx.Interp) (O : OO) (hO : O = oo) (R : OB) (hR : R = bO) : Sx.SpecOK I Tryd.prog 45 (pspec [.robj 86 [.ro .u8, .v]] false (g_left8 O R)) := by
 refine spec_pI (spT2_ok I O hO R hR) (by kernel_rfl) (fun ds => match ds with | [.node [.ints l, .v (.bool no)]] => [] | _ => []) Tryd.func45 (by kernel_rfl) (by kernel_rfl) rfl Tryd.ntmps45 (by decide) ?_ ?_
 ·intro ds p bs F h
  unfold g_left8 at h
  split at h
  ·rename_i l no
   simp only [Option.some.injEq, Prod.mk.injEq] at h
   obtain ⟨_, _, rfl⟩ := h
   kernel_rfl
  ·cases h
 ·intro ds bs F hl h
  unfold g_left8 at h
  split at h
  ·rename_i l no
   simp only [Option.some.injEq, Prod.mk.injEq, Bool.and_eq_true] at h
   obtain ⟨_, _, rfl⟩ := h
   exact wpc_left8 O R l no (fo_oo O hO) hR 
  ·cases h
def spT3 (O : OO) (R : OB) (f : FuncId) : Option Sx.Spec := match f with
 | 48 => some (pspec [.ro .u8, .v] false (g_put8 O R))
 | 41 => some (pspec [.obj 86 [.ro .u8, .v]] true (g_num8 O R))
 | 42 => some (pspec [.robj 86 [.ro .u8, .v]] false (g_ok8 O R))
 | 45 => some (pspec [.robj 86 [.ro .u8, .v]] false (g_left8 O R))
 | f => spT2 O R f
theorem spT3_ok (I : Sx.Interp) (O : OO) (hO : O = oo) (R : OB) (hR : R = bO) : ∀ f s, spT3 O R f = some s → Sx.SpecOK I Tryd.prog f s := by
 intro f s h
 unfold spT3 at h
 split at h
 · cases h; exact ok_put8 I O hO R hR
 · cases h; exact ok_num8 I O hO R hR
 · cases h; exact ok_ok8 I O hO R hR
 · cases h; exact ok_left8 I O hO R hR
 ·exact spT2_ok I O hO R hR _ s h
end Go.Proofs.YtebffdgghkomjaaDoor
