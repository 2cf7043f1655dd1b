/- Bytes: numbers and bytes laid, and read: code, by the symbolic machine (printed by genRd.py; VCs by VcTool). -/
import Derived.Test.YtaohpdhhbnempaaCm
namespace Go.Proofs.Ytaohpdhhbnempaa
open Go.RowKit Go.Lib Ckp Cfd Cpd Sx
open IntKind (i64 u64 u8 i32 u32)
set_option linter.unusedVariables false
set_option linter.unusedSimpArgs false
set_option maxRecDepth 1000000
set_option maxHeartbeats 4000000
def rowG : Nat → Int → List Int
 | 0, _ => []
 | f + 1, n => bif iLe 128 n then (n.tmod 128 + 128) :: rowG f (n.tdiv 128) else [n]
def rowI (n : Int) : List Int := rowG 10 n
def dgt (l : List Int) (i : Nat) : Int := l.getD i 0
def wrF (l : List Int) (i : Nat) : Bool := bif (bif Nat.ble l.length i then true else Nat.blt 8 i) then true else bif Nat.blt 0 i then iBeq (dgt l i) 0 else false
def orD (n d : Int) (i : Nat) : Int := i64.wrap (((BitVec.ofInt 64 n ||| BitVec.ofInt 64 (i64.wrap (d.tmod 128 * 2 ^ (min (7 * i) 64)))).toNat : Nat) : Int)
def numG (l : List Int) : Nat → Nat → Int → Bool × Int × Nat
 | 0, _, _ => (false, 0, 0)
 | f + 1, i, n => bif wrF l i then (false, 0, 0) else bif iLt (dgt l i) 128 then (true, orD n (dgt l i) i, i + 1) else numG l f (i + 1) (orD n (dgt l i) i)
structure OB where
 row : Int → List Int
 nOk : List Int → Bool
 nV : List Int → Int
 nR : List Int → List Int
 u64 : List Int → Int
def u64F (l : List Int) : Int := l.foldl (fun n b => u64.wrap (((BitVec.ofInt 64 (u64.wrap (n * 2 ^ 8)) ||| BitVec.ofInt 64 b).toNat : Nat) : Int)) 0
def bO : OB := ⟨rowI, fun l => (numG l 10 0 0).1, fun l => (numG l 10 0 0).2.1, fun l => bif (numG l 10 0 0).1 then l.drop (numG l 10 0 0).2.2 else [], u64F⟩
def hashF (l : List Int) (i : Nat) : Int := bif Nat.blt i l.length then l.getD i 0 else 0
def hshB (l : List Int) (no : Bool) : Bool := bif no then true else iLt (l.length : Int) 32
def hshN (l : List Int) (no : Bool) : Bool := bif hshB l no then true else no
def hshR (l : List Int) (no : Bool) : List Int := bif hshB l no then [] else l.drop 32
def hsh (l : List Int) (no : Bool) : Nat → Int := hashF (bif hshB l no then [] else l.take 32)
theorem rowG_len : ∀ (f : Nat) (n : Int), (rowG f n).length ≤ f
 | 0, n => Nat.le_refl _
 | f + 1, n => by
  unfold rowG
  cases iLe 128 n
  ·simp
  ·have := rowG_len f (n.tdiv 128)
   simp only [cond_true, List.length_cons]; omega
theorem row_len {R : OB} (hr : R = bO) (n : Int) : (R.row n).length ≤ 10 := by subst hr; exact rowG_len 10 n
def isLit (n : Nat) (args : List SV) : Bool := match args with
 | [.sl _ _ m _] => Nat.beq m n
 | _ => false

def spQ0 (O : OO) (R : OB) (f : FuncId) : Option Sx.Spec := match f with
 | 65 => some (gspec [.ro .u8] g_clone)
 | f => none
theorem spQ0_ok (I : Sx.Interp) (O : OO) (hO : O = oo) (R : OB) (hR : R = bO) : ∀ f s, spQ0 O R f = some s → Sx.SpecOK I Try.prog f s := by
 intro f s h
 unfold spQ0 at h
 split at h
 · cases h; exact ok_clone I
 ·cases h
def g_grow (O : OO) (R : OB) (ds : List Dt) : zG := match ds with
 | [.v (.slice none 0 0), .v (.int .i64 n)] => some ((iLe 0 n && iLe n 1099511627776), [], fun _ => ⟨[.row 0], [(0, .own 5 (.ints .u8 []))]⟩)
 | _ => none
theorem vc_grow (O : OO) (R : OB) (n : Int) (F : FO O) (hr : R = bO) (h0 : (iLe 0 n && iLe n 1099511627776) = true) :
 let T1 := i64.wrap (iSub n (i64.wrap (iSub (iOf 0) (iOf 0)))); If (iLt n 0) False (If (iLt 0 T1) (If (iLt 0 T1 && iLe T1 9223372036854775807 && (nMul T1.toNat 1).ble
  140737488355328) (True ∧ EqI (List.take 0 (List.drop 0 (List.replicate (α := Int) T1.toNat 0))) [] ∧ True) False) (True ∧ EqI [] [] ∧ True)) := by
 conv => zeta
 simp only [Bz, Sx.Cont.n] at h0
 have w : i64.wrap (iSub n (i64.wrap (iSub (iOf 0) (iOf 0)))) = n := by simp only [zUn]; rw [show i64.wrap (((0 : Nat) : Int) - ((0 : Nat) : Int)) = 0 by decide, IntKind.wrap_i64]; omega
 rw [w]
 refine Sx.if_false (by simp only [Bz, Sx.Cont.n]; omega) (Sx.if_both (fun h => ?_) (fun h => ⟨trivial, rfl, trivial⟩))
 simp only [Bz, Sx.Cont.n] at h
 exact ziT (by simp only [zUn, Bz, Sx.Cont.n, decide_eq_true_eq, Nat.mul_one]; omega) ⟨trivial, by simp [EqI], trivial⟩
theorem ok_grow (I : Sx.Interp) (O : OO) (hO : O = oo) (R : OB) (hR : R = bO) : Sx.SpecOK I Try.prog 76 (pspec [.v, .v] false (g_grow O R)) := by
 refine spec_pAI (spQ0_ok I O hO R hR) (by kernel_rfl) (fun _ => []) (fun ds => match ds with | [.v (.slice none 0 0), .v (.int .i64 n)] => [(4, 5, .ints .u8 [])] | _ => []) Try.func76 (by kernel_rfl) (by kernel_rfl) rfl Try.ntmps76 (by decide) ?_ ?_
 ·intro ds p bs F h
  unfold g_grow at h
  split at h
  ·rename_i n
   simp only [zsI, zpI] at h
   obtain ⟨_, _, rfl⟩ := h
   kernel_rfl
  ·cases h
 ·intro ds bs F hl h
  unfold g_grow at h
  split at h
  ·rename_i n
   simp only [zsI, zpI, zaT] at h
   obtain ⟨h0, _, rfl⟩ := h
   exact Eq.mpr (by kernel_rfl) (vc_grow O R n (fo_oo O hO) hR (by first | exact h0 | (simp only [zaT]; exact h0)))
  ·cases h
def spQ1 (O : OO) (R : OB) (f : FuncId) : Option Sx.Spec := match f with
 | 76 => some (pspec [.v, .v] false (g_grow O R))
 | f => spQ0 O R f
theorem spQ1_ok (I : Sx.Interp) (O : OO) (hO : O = oo) (R : OB) (hR : R = bO) : ∀ f s, spQ1 O R f = some s → Sx.SpecOK I Try.prog f s := by
 intro f s h
 unfold spQ1 at h
 split at h
 · cases h; exact ok_grow I O hO R hR
 ·exact spQ0_ok I O hO R hR _ s h
def g_con2 (O : OO) (R : OB) (ds : List Dt) : zG := match ds with
 | [.node [.ints a, .ints b]] => some ((Nat.ble a.length 1073741824) && (Nat.ble b.length 1073741824), [], fun _ => ⟨[.row 3], [(3, .own 5 (.ints .u8 (a ++ b)))]⟩)
 | _ => none
theorem vc_con2 (O : OO) (R : OB) (a b : List Int) (F : FO O) (hr : R = bO) (h0 : (Nat.ble a.length 1073741824) = true) (h1 : (Nat.ble b.length 1073741824) = true) :
 let T1 := i64.wrap (iAdd (i64.wrap (iAdd 0 (iOf (Cont.ints .u8 a).n))) (iOf (Cont.ints .u8 b).n)); If (iLt (i64.wrap (iAdd 0 (iOf (Cont.ints .u8 a).n))) 0)
  False (If (iLt T1 0) False (If (iLe 0 T1 && iLe T1 1099511627776) (If ((nMul (nAdd 0 a.length) 1).ble 140737488355328 && (nAdd 0 a.length).ble 9223372036854775807) (If ((nMul (nAdd
  (app [] a).length b.length) 1).ble 140737488355328 && (nAdd (app [] a).length b.length).ble 9223372036854775807) (True ∧ EqI (app (app [] a) b) (app a b) ∧ True) False) False)
  False)) := by
 conv => zeta
 have h0' := zbL h0
 have h1' := zbL h1
 simp only [zUn, Sx.Cont.n]
 have w1 : i64.wrap (0 + (a.length : Int)) = (a.length : Int) := by rw [IntKind.wrap_i64]; omega
 have w2 : i64.wrap ((a.length : Int) + (b.length : Int)) = ((a.length + b.length : Nat) : Int) := by rw [IntKind.wrap_i64]; omega
 rw [w1, w2]
 refine Sx.if_false (by simp only [Bz, Sx.Cont.n]; omega) (Sx.if_false (by simp only [Bz, Sx.Cont.n]; omega) (ziT (by simp only [Bz, Sx.Cont.n]; omega) (ziT (by simp only [Bz, Sx.Cont.n]; omega) (ziT (by simp only [Bz, Sx.Cont.n, List.nil_append]; omega) ⟨trivial, by simp [EqI], trivial⟩))))
theorem ok_con2 (I : Sx.Interp) (O : OO) (hO : O = oo) (R : OB) (hR : R = bO) : Sx.SpecOK I Try.prog 42 (pspec [.lit 22 2 [.ro .u8, .ro .u8]] false (g_con2 O R)) := by
 refine spec_pI (spQ1_ok I O hO R hR) (by kernel_rfl) (fun ds => match ds with | [.node [.ints a, .ints b]] => [Ann.walk 3, Ann.walk 3] | _ => []) Try.func42 (by kernel_rfl) (by kernel_rfl) rfl Try.ntmps42 (by decide) ?_ ?_
 ·intro ds p bs F h
  unfold g_con2 at h
  split at h
  ·rename_i a b
   simp only [zsI, zpI] at h
   obtain ⟨_, _, rfl⟩ := h
   kernel_rfl
  ·cases h
 ·intro ds bs F hl h
  unfold g_con2 at h
  split at h
  ·rename_i a b
   simp only [zsI, zpI, zaT] at h
   obtain ⟨⟨h0, h1⟩, _, rfl⟩ := h
   exact Eq.mpr (by kernel_rfl) (vc_con2 O R a b (fo_oo O hO) hR (by first | exact h0 | (simp only [zaT]; exact h0)) (by first | exact h1 | (simp only [zaT]; exact h1)))
  ·cases h
def g_con3 (O : OO) (R : OB) (ds : List Dt) : zG := match ds with
 | [.node [.ints a, .ints b, .ints c]] => some ((Nat.ble a.length 1073741824) && (Nat.ble b.length 1073741824) && (Nat.ble c.length 1073741824), [], fun _ => ⟨[.row 4], [(4, .own 5 (.ints .u8 (a ++ b ++ c)))]⟩)
 | _ => none
theorem vc_con3 (O : OO) (R : OB) (a b c : List Int) (F : FO O) (hr : R = bO) (h0 : (Nat.ble a.length 1073741824) = true) (h1 : (Nat.ble b.length 1073741824) = true) (h2 : (Nat.ble c.length 1073741824) = true) :
 let T1 := i64.wrap (iAdd (i64.wrap (iAdd (i64.wrap (iAdd 0 (iOf (Cont.ints .u8 a).n))) (iOf (Cont.ints .u8 b).n))) (iOf (Cont.ints .u8 c).n)); let T2 := i64.wrap (iAdd 0 (iOf (Cont.ints .u8 a).n));
  If (iLt T2 0) False (If (iLt (i64.wrap (iAdd T2 (iOf (Cont.ints .u8 b).n))) 0) False (If (iLt T1 0) False (If (iLe 0 T1 && iLe T1 1099511627776) (If ((nMul (nAdd 0 a.length)
  1).ble 140737488355328 && (nAdd 0 a.length).ble 9223372036854775807) (If ((nMul (nAdd (app [] a).length b.length) 1).ble 140737488355328 && (nAdd (app [] a).length b.length).ble
  9223372036854775807) (If ((nMul (nAdd (app (app [] a) b).length c.length) 1).ble 140737488355328 && (nAdd (app (app [] a) b).length c.length).ble 9223372036854775807) (True ∧ EqI
  (app (app (app [] a) b) c) (app (app a b) c) ∧ True) False) False) False) False))) := by
 conv => zeta
 have h0' := zbL h0
 have h1' := zbL h1
 have h2' := zbL h2
 simp only [zUn, Sx.Cont.n]
 have w1 : i64.wrap (0 + (a.length : Int)) = (a.length : Int) := by rw [IntKind.wrap_i64]; omega
 have w2 : i64.wrap ((a.length : Int) + (b.length : Int)) = ((a.length + b.length : Nat) : Int) := by rw [IntKind.wrap_i64]; omega
 have w3 : i64.wrap (((a.length + b.length : Nat) : Int) + (c.length : Int)) = ((a.length + b.length + c.length : Nat) : Int) := by rw [IntKind.wrap_i64]; omega
 rw [w1, w2, w3]
 refine Sx.if_false (by simp only [Bz, Sx.Cont.n]; omega) (Sx.if_false (by simp only [Bz, Sx.Cont.n]; omega) (Sx.if_false (by simp only [Bz, Sx.Cont.n]; omega) (ziT (by simp only [Bz, Sx.Cont.n]; omega) (ziT (by simp only [Bz, Sx.Cont.n]; omega) (ziT (by simp only [Bz, Sx.Cont.n, List.nil_append]; omega) (ziT (by simp only [Bz, Sx.Cont.n, List.nil_append, zlA]; omega) ⟨trivial, by simp [EqI], trivial⟩))))))
theorem ok_con3 (I : Sx.Interp) (O : OO) (hO : O = oo) (R : OB) (hR : R = bO) : Sx.SpecOK I Try.prog 42 (pspec [.lit 22 3 [.ro .u8, .ro .u8, .ro .u8]] false (g_con3 O R)) := by
 refine spec_pI (spQ1_ok I O hO R hR) (by kernel_rfl) (fun ds => match ds with | [.node [.ints a, .ints b, .ints c]] => [Ann.walk 4, Ann.walk 4] | _ => []) Try.func42 (by kernel_rfl) (by kernel_rfl) rfl Try.ntmps42 (by decide) ?_ ?_
 ·intro ds p bs F h
  unfold g_con3 at h
  split at h
  ·rename_i a b c
   simp only [zsI, zpI] at h
   obtain ⟨_, _, rfl⟩ := h
   kernel_rfl
  ·cases h
 ·intro ds bs F hl h
  unfold g_con3 at h
  split at h
  ·rename_i a b c
   simp only [zsI, zpI, zaT] at h
   obtain ⟨⟨⟨h0, h1⟩, h2⟩, _, rfl⟩ := h
   exact Eq.mpr (by kernel_rfl) (vc_con3 O R a b c (fo_oo O hO) hR (by first | exact h0 | (simp only [zaT]; exact h0)) (by first | exact h1 | (simp only [zaT]; exact h1)) (by first | exact h2 | (simp only [zaT]; exact h2)))
  ·cases h
def spQ2 (O : OO) (R : OB) (f : FuncId) : Option Sx.Spec := match f with
 | 42 => some (altS (isLit 2) (pspec [.lit 22 2 [.ro .u8, .ro .u8]] false (g_con2 O R)) (pspec [.lit 22 3 [.ro .u8, .ro .u8, .ro .u8]] false (g_con3 O R)))
 | f => spQ1 O R f
theorem spQ2_ok (I : Sx.Interp) (O : OO) (hO : O = oo) (R : OB) (hR : R = bO) : ∀ f s, spQ2 O R f = some s → Sx.SpecOK I Try.prog f s := by
 intro f s h
 unfold spQ2 at h
 split at h
 · cases h; exact altS_ok (ok_con2 I O hO R hR) (ok_con3 I O hO R hR)
 ·exact spQ1_ok I O hO R hR _ s h
def g_laid (O : OO) (R : OB) (ds : List Dt) : zG := match ds with
 | [.ints a, .ints b] => some ((Nat.ble a.length 1073741824) && (Nat.ble b.length 1073741824), [], fun _ => ⟨[.row 2], [(2, .own 5 (.ints .u8 (a ++ b)))]⟩)
 | _ => none
theorem vc_laid (O : OO) (R : OB) (a b : List Int) (F : FO O) (hr : R = bO) (h0 : (Nat.ble a.length 1073741824) = true) (h1 : (Nat.ble b.length 1073741824) = true) :
 If (a.length.ble 1073741824 && b.length.ble 1073741824) (True ∧ EqI (app a b) (app a b) ∧ True) False := by
 exact ziT (by rw [h0, h1]; rfl) ⟨trivial, rfl, trivial⟩
theorem ok_laid (I : Sx.Interp) (O : OO) (hO : O = oo) (R : OB) (hR : R = bO) : Sx.SpecOK I Try.prog 77 (pspec [.ro .u8, .ro .u8] false (g_laid O R)) := by
 refine spec_pI (spQ2_ok I O hO R hR) (by kernel_rfl) (fun _ => []) Try.func77 (by kernel_rfl) (by kernel_rfl) rfl Try.ntmps77 (by decide) ?_ ?_
 ·intro ds p bs F h
  unfold g_laid at h
  split at h
  ·rename_i a b
   simp only [zsI, zpI] at h
   obtain ⟨_, _, rfl⟩ := h
   kernel_rfl
  ·cases h
 ·intro ds bs F hl h
  unfold g_laid at h
  split at h
  ·rename_i a b
   simp only [zsI, zpI, zaT] at h
   obtain ⟨⟨h0, h1⟩, _, rfl⟩ := h
   exact Eq.mpr (by kernel_rfl) (vc_laid O R a b (fo_oo O hO) hR (by first | exact h0 | (simp only [zaT]; exact h0)) (by first | exact h1 | (simp only [zaT]; exact h1)))
  ·cases h
def g_row (O : OO) (R : OB) (ds : List Dt) : zG := match ds with
 | [.v (.int .i64 n)] => some ((iLe 0 n && iLe n 9223372036854775807), [], fun _ => ⟨[.row 0], [(0, .own 5 (.ints .u8 (R.row n)))]⟩)
 | _ => none
theorem vc_row (O : OO) (R : OB) (n : Int) (F : FO O) (hr : R = bO) (h0 : (iLe 0 n && iLe n 9223372036854775807) = true) :
 (∃ (x : Nat × Int × List Int), (x.1 ≤ 9 ∧ (iSub x.2.1 0).NonNeg ∧ (iSub (iPow 128 (nSub 10 x.1)) (iAdd x.2.1 1)).NonNeg ∧ (iSub 9223372036854775807 x.2.1).NonNeg ∧ x.2.2.length = x.1 ∧ EqI (app x.2.2 (rowG (nSub 10 x.1) x.2.1)) (R.row n)) ∧ (yI n = yI x.2.1 ∧ True) ∧ EqI [] x.2.2 ∧ True) ∧ ∀ (x : Nat × Int × List Int), x.1 ≤ 9 ∧ (iSub x.2.1 0).NonNeg ∧ (iSub (iPow 128 (nSub 10 x.1)) (iAdd x.2.1 1)).NonNeg ∧ (iSub 9223372036854775807 x.2.1).NonNeg ∧ x.2.2.length = x.1 ∧ EqI (app x.2.2 (rowG (nSub 10 x.1) x.2.1)) (R.row n) → If (iLe 128 x.snd.fst) (If ((nMul (nAdd x.2.2.length 1) 1).ble 140737488355328 && (nAdd x.2.2.length 1).ble 9223372036854775807) (∃ (x' : Nat × Int × List Int), (x'.1 ≤ 9 ∧ (iSub x'.2.1 0).NonNeg ∧ (iSub (iPow 128 (nSub 10 x'.1)) (iAdd x'.2.1 1)).NonNeg ∧ (iSub 9223372036854775807 x'.2.1).NonNeg ∧ x'.2.2.length = x'.1 ∧ EqI (app x'.2.2 (rowG (nSub 10 x'.1) x'.2.1)) (R.row n)) ∧ x'.2.1.toNat.succ ≤ x.2.1.toNat ∧ (yI (i64.wrap (x.2.1.tdiv 128)) = yI x'.2.1 ∧ True) ∧ EqI (app x.2.2 [u8.wrap (i64.wrap (iAdd (x.2.1.tmod 128) 128))]) x'.2.2 ∧ True) False) (If ((nMul (nAdd x.2.2.length 1) 1).ble 140737488355328 && (nAdd x.2.2.length 1).ble 9223372036854775807) (True ∧ EqI (app x.2.2 [u8.wrap x.2.1]) (R.row n) ∧ True) False) := by
 subst hr
 simp only [Bz, Sx.Cont.n] at h0
 have hrow : ∀ n, bO.row n = rowG 10 n := fun _ => rfl
 refine ⟨⟨(0, n, []), ⟨Nat.zero_le _, by simp only [zUn]; show (0 : Int) ≤ n; omega, ?_, ?_, rfl, ?_⟩, ⟨rfl, trivial⟩, rfl, trivial⟩, fun x ⟨c1, c2, c3, c4, c5, c6⟩ => ?_⟩
 ·show n < 128 ^ (10 - 0); omega
 ·show n ≤ 9223372036854775807; omega
 ·rw [hrow]; rfl
 obtain ⟨j, m, o⟩ := x
 replace c1 : j ≤ 9 := c1
 replace c2 : (0 : Int) ≤ m := c2
 replace c3 : m < 128 ^ (10 - j) := c3
 replace c4 : m ≤ 9223372036854775807 := c4
 replace c5 : o.length = j := c5
 replace c6 : o ++ rowG (10 - j) m = bO.row n := c6
 show If (iLe 128 m) _ _
 have step : rowG (10 - j) m = bif iLe 128 m then (m.tmod 128 + 128) :: rowG (10 - (j + 1)) (m.tdiv 128) else [m] := by
  rw [show 10 - j = (10 - (j + 1)) + 1 by omega]; rfl
 have hm : m.tmod 128 = m % 128 := Int.tmod_eq_emod_of_nonneg c2
 have hd : m.tdiv 128 = m / 128 := Int.tdiv_eq_ediv_of_nonneg c2
 refine Sx.if_both (fun h => ?_) (fun h => ?_)
 ·rw [h] at step
  simp only [Bz, Sx.Cont.n] at h
  have hj : j ≤ 8 := by
   rcases Nat.lt_or_ge j 9 with h9 | h9
   ·omega
   ·exfalso
    have : j = 9 := by omega
    subst this
    simp at c3; omega
  have w1 : u8.wrap (i64.wrap (iAdd (m.tmod 128) 128)) = m.tmod 128 + 128 := by
   simp only [zUn]; rw [hm, IntKind.wrap_i64, IntKind.wrap_u8]; omega
  have w2 : i64.wrap (m.tdiv 128) = m / 128 := by rw [hd, IntKind.wrap_i64]; omega
  simp only [w1, w2]
  refine ziT (by simp only [zUn, zaT, Nat.ble_eq, List.length_cons, List.length_nil]; omega) ⟨(j + 1, m / 128, o ++ [m.tmod 128 + 128]), ⟨by show j + 1 ≤ 9; omega, by show (0 : Int) ≤ m / 128; omega, ?_, by show m / 128 ≤ 9223372036854775807; omega, ?_, ?_⟩, ?_, ⟨rfl, trivial⟩, rfl, trivial⟩
  ·show m / 128 < 128 ^ (10 - (j + 1))
   have e : (128 : Int) ^ (10 - j) = 128 ^ (10 - (j + 1)) * 128 := by rw [show 10 - j = (10 - (j + 1)) + 1 by omega]; exact Int.pow_succ _ _
   rw [e] at c3
   exact Int.ediv_lt_of_lt_mul (by decide) c3
  ·show (o ++ [m.tmod 128 + 128]).length = j + 1
   simp [c5]
  ·show (o ++ [m.tmod 128 + 128]) ++ rowG (10 - (j + 1)) (m / 128) = bO.row n
   rw [← c6, step, hd]; simp
  ·show (m / 128).toNat < m.toNat; omega
 ·rw [h] at step
  simp only [Bz, Sx.Cont.n] at h
  have w1 : u8.wrap m = m := by rw [IntKind.wrap_u8]; omega
  rw [w1]
  refine ziT (by simp only [zUn, zaT, Nat.ble_eq, List.length_cons, List.length_nil]; omega) ⟨trivial, ?_, trivial⟩
  show o ++ [m] = bO.row n
  rw [← c6, step]; rfl
theorem ok_row (I : Sx.Interp) (O : OO) (hO : O = oo) (R : OB) (hR : R = bO) : Sx.SpecOK I Try.prog 78 (pspec [.v] false (g_row O R)) := by
 refine spec_pI (spQ2_ok I O hO R hR) (by kernel_rfl) (fun ds => match ds with | [.v (.int .i64 n)] => [⟨Nat × Int × List Int, [], [(3, 5, .ints .u8 [])], fun B x => [(0, .v (.int .i64 x.2.1)), (3, .row B)], fun B x => [(B, .own 5 (.ints .u8 x.2.2))], fun x => x.1 ≤ 9 ∧ 0 ≤ x.2.1 ∧ x.2.1 < 128 ^ (10 - x.1) ∧ x.2.1 ≤ 9223372036854775807 ∧ x.2.2.length = x.1 ∧ x.2.2 ++ rowG (10 - x.1) x.2.1 = R.row n, fun x => x.2.1.toNat, 0⟩] | _ => []) Try.func78 (by kernel_rfl) (by kernel_rfl) rfl Try.ntmps78 (by decide) ?_ ?_
 ·intro ds p bs F h
  unfold g_row at h
  split at h
  ·rename_i n
   simp only [zsI, zpI] at h
   obtain ⟨_, _, rfl⟩ := h
   kernel_rfl
  ·cases h
 ·intro ds bs F hl h
  unfold g_row at h
  split at h
  ·rename_i n
   simp only [zsI, zpI, zaT] at h
   obtain ⟨h0, _, rfl⟩ := h
   exact Eq.mpr (by kernel_rfl) (vc_row O R n (fo_oo O hO) hR (by first | exact h0 | (simp only [zaT]; exact h0)))
  ·cases h
def spQ3 (O : OO) (R : OB) (f : FuncId) : Option Sx.Spec := match f with
 | 77 => some (pspec [.ro .u8, .ro .u8] false (g_laid O R))
 | 78 => some (pspec [.v] false (g_row O R))
 | f => spQ2 O R f
theorem spQ3_ok (I : Sx.Interp) (O : OO) (hO : O = oo) (R : OB) (hR : R = bO) : ∀ f s, spQ3 O R f = some s → Sx.SpecOK I Try.prog f s := by
 intro f s h
 unfold spQ3 at h
 split at h
 · cases h; exact ok_laid I O hO R hR
 · cases h; exact ok_row I O hO R hR
 ·exact spQ2_ok I O hO R hR _ s h
def g_put (O : OO) (R : OB) (ds : List Dt) : zG := match ds with
 | [.ints b, .v (.int .i64 n)] => some ((Nat.ble b.length 1000000) && (iLe n 9223372036854775807), [], fun _ => ⟨[.row 1], [(1, .own 5 (.ints .u8 (bif iLt n 0 then b else b ++ R.row n)))]⟩)
 | _ => none
theorem vc_put (O : OO) (R : OB) (b : List Int) (n : Int) (F : FO O) (hr : R = bO) (h0 : (Nat.ble b.length 1000000) = true) (h1 : (iLe n 9223372036854775807) = true) :
 If (iLt n 0) (If (b.length.ble 1073741824 && Nat.ble 0 1073741824) (True ∧ EqI (app b []) (bif iLt n 0 then b else app b (R.row n)) ∧ True) False) (If (iLe 0 n && iLe n 9223372036854775807) (If (b.length.ble 1073741824 && (R.row n).length.ble 1073741824) (True ∧ EqI (app b (R.row n)) (bif iLt n 0 then b else app b (R.row n)) ∧ True) False) False) := by
 have h0' := zbL h0
 have hl := row_len hr n
 refine Sx.if_both (fun h => ziT (by simp only [zaT, Nat.ble_eq]; omega) ⟨trivial, by rw [h]; simp [EqI, Sx.app], trivial⟩) (fun h => ?_)
 rw [h]
 simp only [Bz, Sx.Cont.n] at h
 exact ziT (by simp only [Bz, Sx.Cont.n] at h1 ⊢; omega) (ziT (by simp only [zaT, Nat.ble_eq]; omega) ⟨trivial, rfl, trivial⟩)
theorem ok_put (I : Sx.Interp) (O : OO) (hO : O = oo) (R : OB) (hR : R = bO) : Sx.SpecOK I Try.prog 43 (pspec [.ro .u8, .v] false (g_put O R)) := by
 refine spec_pI (spQ3_ok I O hO R hR) (by kernel_rfl) (fun _ => []) Try.func43 (by kernel_rfl) (by kernel_rfl) rfl Try.ntmps43 (by decide) ?_ ?_
 ·intro ds p bs F h
  unfold g_put at h
  split at h
  ·rename_i b n
   simp only [zsI, zpI] at h
   obtain ⟨_, _, rfl⟩ := h
   kernel_rfl
  ·cases h
 ·intro ds bs F hl h
  unfold g_put at h
  split at h
  ·rename_i b n
   simp only [zsI, zpI, zaT] at h
   obtain ⟨⟨h0, h1⟩, _, rfl⟩ := h
   exact Eq.mpr (by kernel_rfl) (vc_put O R b n (fo_oo O hO) hR (by first | exact h0 | (simp only [zaT]; exact h0)) (by first | exact h1 | (simp only [zaT]; exact h1)))
  ·cases h
def g_puth (O : OO) (R : OB) (ds : List Dt) : zG := match ds with
 | [.ints b, .v (.agg a)] => some ((Nat.ble b.length 1000000) && (O.isH a), [], fun _ => ⟨[.row 1], [(1, .own 5 (.ints .u8 (b ++ tabI (fnA a) 32)))]⟩)
 | _ => none
theorem vc_puth (O : OO) (R : OB) (b : List Int) (m : Nat → Int) (F : FO O) (hr : R = bO) (h0 : (Nat.ble b.length 1000000) = true) (h1 : (O.isH (AV m)) = true) :
 If (b.length.ble 1073741824 && Nat.ble 32 1073741824) (True ∧ EqI (app b (tabI (m) 32)) (app b (tabI (fnA (AV m)) 32)) ∧ True) False := by
 have h0' := zbL h0
 exact ziT (by simp only [zaT, Nat.ble_eq, List.length_cons, List.length_nil]; omega) ⟨trivial, (show @Eq (List Int) _ _ from by kernel_rfl), trivial⟩
theorem ok_puth (I : Sx.Interp) (O : OO) (hO : O = oo) (R : OB) (hR : R = bO) : Sx.SpecOK I Try.prog 89 (pspec [.ro .u8, .v] false (g_puth O R)) := by
 refine spec_pI (spQ3_ok I O hO R hR) (by kernel_rfl) (fun _ => []) Try.func89 (by kernel_rfl) (by kernel_rfl) rfl Try.ntmps89 (by decide) ?_ ?_
 ·intro ds p bs F h
  unfold g_puth at h
  split at h
  ·rename_i b a
   simp only [zsI, zpI] at h
   obtain ⟨_, _, rfl⟩ := h
   kernel_rfl
  ·cases h
 ·intro ds bs F hl h
  unfold g_puth at h
  split at h
  ·rename_i b a
   simp only [zsI, zpI, zaT] at h
   obtain ⟨⟨h0, h1⟩, _, rfl⟩ := h
   obtain ⟨m, rfl⟩ := isH_AV (by subst hO; exact h1 : isHa a = true)
   exact Eq.mpr (by kernel_rfl) (vc_puth O R b m (fo_oo O hO) hR (by first | exact h0 | (simp only [zaT]; exact h0)) (by first | exact h1 | (simp only [zaT]; exact h1)))
  ·cases h
def g_open (O : OO) (R : OB) (ds : List Dt) : zG := match ds with
 | [.ints b] => some ((Nat.ble b.length 1000000), [], fun _ => ⟨[.ptr 1 0], [(1, .blk 127 [.row 2, .v (.bool false)]), (2, .own 5 (.ints .u8 b))]⟩)
 | _ => none
theorem vc_open (O : OO) (R : OB) (b : List Int) (F : FO O) (hr : R = bO) (h0 : (Nat.ble b.length 1000000) = true) :
 If (b.length.ble 1099511627776) (True ∧ yB false = yB false ∧ EqI b b ∧ True) False := by
 have h0' := zbL h0
 exact ziT (by simp only [Nat.ble_eq]; omega) ⟨trivial, rfl, rfl, trivial⟩
theorem ok_open (I : Sx.Interp) (O : OO) (hO : O = oo) (R : OB) (hR : R = bO) : Sx.SpecOK I Try.prog 32 (pspec [.ro .u8] false (g_open O R)) := by
 refine spec_pI (spQ3_ok I O hO R hR) (by kernel_rfl) (fun _ => []) Try.func32 (by kernel_rfl) (by kernel_rfl) rfl Try.ntmps32 (by decide) ?_ ?_
 ·intro ds p bs F h
  unfold g_open at h
  split at h
  ·rename_i b
   simp only [zsI, zpI] at h
   obtain ⟨_, _, rfl⟩ := h
   kernel_rfl
  ·cases h
 ·intro ds bs F hl h
  unfold g_open at h
  split at h
  ·rename_i b
   simp only [zsI, zpI, zaT] at h
   obtain ⟨h0, _, rfl⟩ := h
   exact Eq.mpr (by kernel_rfl) (vc_open O R b (fo_oo O hO) hR (by first | exact h0 | (simp only [zaT]; exact h0)))
  ·cases h
def g_rfail (O : OO) (R : OB) (ds : List Dt) : zG := match ds with
 | [.node [.ints l, .v (.bool no)]] => some (true, [], fun _ => ⟨[], [(0, .blk 127 [.row 2, .v (.bool true)]), (2, .own 5 (.ints .u8 []))]⟩)
 | _ => none
theorem vc_rfail (O : OO) (R : OB) (l : List Int) (no : Bool) (F : FO O) (hr : R = bO) :
 True ∧ yB true = yB true ∧ EqI [] [] ∧ True := by
 exact ⟨trivial, rfl, rfl, trivial⟩
theorem ok_rfail (I : Sx.Interp) (O : OO) (hO : O = oo) (R : OB) (hR : R = bO) : Sx.SpecOK I Try.prog 67 (pspec [.obj 127 [.ro .u8, .v]] true (g_rfail O R)) := by
 refine spec_pAI (spQ3_ok I O hO R hR) (by kernel_rfl) (fun _ => []) (fun ds => match ds with | [.node [.ints l, .v (.bool no)]] => [(100000, 5, .ints .u8 [])] | _ => []) Try.func67 (by kernel_rfl) (by kernel_rfl) rfl Try.ntmps67 (by decide) ?_ ?_
 ·intro ds p bs F h
  unfold g_rfail at h
  split at h
  ·rename_i l no
   simp only [zsI, zpI] at h
   obtain ⟨_, _, rfl⟩ := h
   kernel_rfl
  ·cases h
 ·intro ds bs F hl h
  unfold g_rfail at h
  split at h
  ·rename_i l no
   simp only [zsI, zpI, zaT] at h
   obtain ⟨_, _, rfl⟩ := h
   exact Eq.mpr (by kernel_rfl) (vc_rfail O R l no (fo_oo O hO) hR )
  ·cases h
def spQ4 (O : OO) (R : OB) (f : FuncId) : Option Sx.Spec := match f with
 | 67 => some (pspec [.obj 127 [.ro .u8, .v]] true (g_rfail O R))
 | f => spQ3 O R f
theorem spQ4_ok (I : Sx.Interp) (O : OO) (hO : O = oo) (R : OB) (hR : R = bO) : ∀ f s, spQ4 O R f = some s → Sx.SpecOK I Try.prog f s := by
 intro f s h
 unfold spQ4 at h
 split at h
 · cases h; exact ok_rfail I O hO R hR
 ·exact spQ3_ok I O hO R hR _ s h
def g_take (O : OO) (R : OB) (ds : List Dt) : zG := match ds with
 | [.node [.ints l, .v (.bool no)], .v (.int .i64 n)] => some ((Nat.ble l.length 1000000) && (iLe 0 n), [], fun _ => ⟨[.row 2], [(2, .own 5 (.ints .u8 (bif (bif no then true else iLt (l.length : Int) n) then [] else l.take n.toNat))), (0, .blk 127 [.row 3, .v (.bool (bif (bif no then true else iLt (l.length : Int) n) then true else no))]), (3, .ro (.ints .u8 (bif (bif no then true else iLt (l.length : Int) n) then [] else l.drop n.toNat)))]⟩)
 | _ => none
theorem vc_take (O : OO) (R : OB) (l : List Int) (no : Bool) (n : Int) (F : FO O) (hr : R = bO) (h0 : (Nat.ble l.length 1000000) = true) (h1 : (iLe 0 n) = true) :
 let T1 := True ∧ EqI [] (bif bif no then true else iLt (iOf l.length) n then [] else List.take n.toNat l) ∧ yB true = yB (bif bif no then true else iLt (iOf l.length) n then true else no) ∧ EqI [] (bif bif no then true else iLt (iOf l.length) n then [] else List.drop n.toNat l) ∧ True;
  let T2 := List.take (nSub n.toNat 0) (List.drop 0 l); If no T1 (If (iLt (iOf (Cont.ints .u8 l).n) n) T1 (If (iLe 0 0 && iLe 0 n && iLe n (iOf (Cont.ints .u8 l).n)) (If
  (T2.length.ble 1099511627776) (If (iLe 0 n && iLe n (iOf (Cont.ints .u8 l).n) && iLe (iOf (Cont.ints .u8 l).n) (iOf (Cont.ints .u8 l).n)) (True ∧ EqI T2 (bif bif no then true else
  iLt (iOf l.length) n then [] else List.take n.toNat l) ∧ yB no = yB (bif bif no then true else iLt (iOf l.length) n then true else no) ∧ EqI (List.take (nSub (iOf l.length).toNat
  n.toNat) (List.drop n.toNat l)) (bif bif no then true else iLt (iOf l.length) n then [] else List.drop n.toNat l) ∧ True) False) False) False)) := by
 conv => zeta
 have h0' := zbL h0
 simp only [Bz, Sx.Cont.n] at h1
 cases no with
 | true => exact ⟨trivial, rfl, rfl, rfl, trivial⟩
 | false =>
  refine Sx.if_false rfl (Sx.if_both (fun h => ?_) (fun h => ?_))
  ·have h' : iLt (iOf l.length) n = true := h
   rw [h']
   exact ⟨trivial, rfl, rfl, rfl, trivial⟩
  ·have h' : iLt (iOf l.length) n = false := h
   rw [h']
   simp only [zUn, Bz, Sx.Cont.n] at h'
   refine ziT (by simp only [zUn, Bz, Sx.Cont.n]; omega) (ziT (by simp only [zUn, Nat.ble_eq, List.length_take, List.length_drop]; omega) (ziT (by simp only [zUn, Bz, Sx.Cont.n]; omega) ⟨trivial, ?_, rfl, ?_, trivial⟩))
   ·simp [EqI, zUn]
   ·show List.take ((l.length : Int).toNat - n.toNat) (List.drop n.toNat l) = List.drop n.toNat l
    rw [ztN, List.take_of_length_le]
    simp
theorem ok_take (I : Sx.Interp) (O : OO) (hO : O = oo) (R : OB) (hR : R = bO) : Sx.SpecOK I Try.prog 85 (pspec [.obj 127 [.ro .u8, .v], .v] true (g_take O R)) := by
 refine spec_pAI (spQ4_ok I O hO R hR) (by kernel_rfl) (fun _ => []) (fun ds => match ds with | [.node [.ints l, .v (.bool no)], .v (.int .i64 n)] => [(4, 5, .ints .u8 []), (100000, 5, .ints .u8 [])] | _ => []) Try.func85 (by kernel_rfl) (by kernel_rfl) rfl Try.ntmps85 (by decide) ?_ ?_
 ·intro ds p bs F h
  unfold g_take at h
  split at h
  ·rename_i l no n
   simp only [zsI, zpI] at h
   obtain ⟨_, _, rfl⟩ := h
   kernel_rfl
  ·cases h
 ·intro ds bs F hl h
  unfold g_take at h
  split at h
  ·rename_i l no n
   simp only [zsI, zpI, zaT] at h
   obtain ⟨⟨h0, h1⟩, _, rfl⟩ := h
   exact Eq.mpr (by kernel_rfl) (vc_take O R l no n (fo_oo O hO) hR (by first | exact h0 | (simp only [zaT]; exact h0)) (by first | exact h1 | (simp only [zaT]; exact h1)))
  ·cases h
def g_num1 (O : OO) (R : OB) (ds : List Dt) : zG := match ds with
 | [.node [.v (.int .i64 i)], .node [.node [.ints l, .v (.bool no)]]] => some ((Nat.ble l.length 1000000) && (iLe 0 i && iLe i 9), [], fun _ => ⟨[.v (.bool (wrF l i.toNat))], []⟩)
 | _ => none
theorem vc_num1 (O : OO) (R : OB) (i : Int) (l : List Int) (no : Bool) (F : FO O) (hr : R = bO) (h0 : (Nat.ble l.length 1000000) = true) (h1 : (iLe 0 i && iLe i 9) = true) :
 let T1 := yB true = yB (wrF l i.toNat) ∧ True ∧ True; If (iLe (iOf (Cont.ints .u8 l).n) i) T1 (If (iLt 8 i) T1 (If (iLt 0 i) (If (iLe 0 i && i.toNat.blt l.length) (If (true &&
  Nat.beq 1 1 && i.toNat.blt l.length) (yB (iBeq (l.getD i.toNat 0) 0) = yB (wrF l i.toNat) ∧ True ∧ True) False) False) (yB false = yB (wrF l i.toNat) ∧ True ∧ True))) := by
 conv => zeta
 have h0' := zbL h0
 simp only [Bz, Sx.Cont.n] at h1
 have hb1 : Nat.ble l.length i.toNat = iLe (iOf (Cont.ints u8 l).n) i := by
  rw [Bool.eq_iff_iff]; simp only [zUn, Bz, Sx.Cont.n]; omega
 have hb2 : Nat.blt 8 i.toNat = iLt 8 i := by
  rw [Bool.eq_iff_iff]; simp only [Nat.blt_eq, Bz, Sx.Cont.n]; omega
 have hb3 : Nat.blt 0 i.toNat = iLt 0 i := by
  rw [Bool.eq_iff_iff]; simp only [Nat.blt_eq, Bz, Sx.Cont.n]; omega
 have hw : wrF l i.toNat = bif (bif iLe (iOf (Cont.ints u8 l).n) i then true else iLt 8 i) then true else bif iLt 0 i then iBeq (l.getD i.toNat 0) 0 else false := by
  unfold wrF dgt; rw [hb1, hb2, hb3]
 rw [hw]
 refine Sx.if_both (fun h => by rw [h]; exact ⟨rfl, trivial, trivial⟩) (fun h => ?_)
 rw [h]
 refine Sx.if_both (fun h2 => by rw [h2]; exact ⟨rfl, trivial, trivial⟩) (fun h2 => ?_)
 rw [h2]
 refine Sx.if_both (fun h3 => ?_) (fun h3 => by rw [h3]; exact ⟨rfl, trivial, trivial⟩)
 rw [h3]
 simp only [zUn, Bz, Sx.Cont.n] at h
 have hlt : i.toNat.blt l.length = true := by rw [Nat.blt_eq]; omega
 exact ziT (by rw [hlt, Bool.and_true]; simp only [Bz, Sx.Cont.n]; omega) (ziT (by rw [hlt]; rfl) ⟨rfl, trivial, trivial⟩)
theorem ok_num1 (I : Sx.Interp) (O : OO) (hO : O = oo) (R : OB) (hR : R = bO) : Sx.SpecOK I Try.prog 66 (pspec [.robj 3 [.v], .robj 76 [.robj 127 [.ro .u8, .v]]] false (g_num1 O R)) := by
 refine spec_pI (spQ4_ok I O hO R hR) (by kernel_rfl) (fun _ => []) Try.func66 (by kernel_rfl) (by kernel_rfl) rfl Try.ntmps66 (by decide) ?_ ?_
 ·intro ds p bs F h
  unfold g_num1 at h
  split at h
  ·rename_i i l no
   simp only [zsI, zpI] at h
   obtain ⟨_, _, rfl⟩ := h
   kernel_rfl
  ·cases h
 ·intro ds bs F hl h
  unfold g_num1 at h
  split at h
  ·rename_i i l no
   simp only [zsI, zpI, zaT] at h
   obtain ⟨⟨h0, h1⟩, _, rfl⟩ := h
   exact Eq.mpr (by kernel_rfl) (vc_num1 O R i l no (fo_oo O hO) hR (by first | exact h0 | (simp only [zaT]; exact h0)) (by first | exact h1 | (simp only [zaT]; exact h1)))
  ·cases h
def spQ5 (O : OO) (R : OB) (f : FuncId) : Option Sx.Spec := match f with
 | 85 => some (pspec [.obj 127 [.ro .u8, .v], .v] true (g_take O R))
 | 66 => some (pspec [.robj 3 [.v], .robj 76 [.robj 127 [.ro .u8, .v]]] false (g_num1 O R))
 | f => spQ4 O R f
theorem spQ5_ok (I : Sx.Interp) (O : OO) (hO : O = oo) (R : OB) (hR : R = bO) : ∀ f s, spQ5 O R f = some s → Sx.SpecOK I Try.prog f s := by
 intro f s h
 unfold spQ5 at h
 split at h
 · cases h; exact ok_take I O hO R hR
 · cases h; exact ok_num1 I O hO R hR
 ·exact spQ4_ok I O hO R hR _ s h
def g_num (O : OO) (R : OB) (ds : List Dt) : zG := match ds with
 | [.node [.ints l, .v (.bool no)]] => some ((Nat.ble l.length 1000000), [], fun _ => ⟨[.v (.int .i64 (R.nV l))], [(0, .blk 127 [.row 2, .v (.bool (bif R.nOk l then no else true))]), (2, .ro (.ints .u8 (R.nR l)))]⟩)
 | _ => none
theorem vc_num (O : OO) (R : OB) (l : List Int) (no : Bool) (F : FO O) (hr : R = bO) (h0 : (Nat.ble l.length 1000000) = true) :
 (∃ (x : Nat × Int), (x.1 ≤ 9 ∧ numG l (nSub 10 x.1) x.1 x.2 = numG l 10 0 0) ∧ (yI 0 = yI x.2 ∧ SV.fn (Fn.func 66) [SV.ptr 192 0, SV.ptr 64 0] = SV.fn
  (Fn.func 66) [SV.ptr 192 0, SV.ptr 64 0] ∧ True) ∧ yI 0 = yI (iOf x.1) ∧ yB no = yB no ∧ EqI l l ∧ True) ∧ ∀ (x : Nat × Int), let T1 := i64.wrap (iOf (BitVec.ofInt 64 x.2 ||| BitVec.ofInt 64 (i64.wrap (iMul (i64.wrap ((l.getD (iOf x.1).toNat 0).tmod 128)) (iPow 2 (min (i64.wrap (iMul 7 (iOf x.1))).toNat 64))))).toNat);
  let T2 := i64.wrap (iAdd (iOf x.1) 1); x.1 ≤ 9 ∧ numG l (nSub 10 x.1) x.1 x.2 = numG l 10 0 0 → If (l.length.ble 1000000 && (iLe 0 (iOf x.fst) && iLe (iOf x.fst) 9)) (If
  (wrF l (iOf x.1).toNat) (yI 0 = yI (R.nV l) ∧ True ∧ yB true = yB (bif R.nOk l then no else true) ∧ EqI [] (R.nR l) ∧ True) (If (iLe 0 (iOf x.fst) && (iOf x.1).toNat.blt l.length)
  (If (true && Nat.beq 1 1 && (iOf x.1).toNat.blt l.length) (If (iLt (i64.wrap (iMul 7 (iOf x.fst))) 0) False (If (iLt (l.getD (iOf x.fst).toNat 0) 128) (If (iLe 0
  (i64.wrap (iAdd (iOf x.fst) 1)) && iLe (i64.wrap (iAdd (iOf x.fst) 1)) (iOf (Cont.ints .u8 l).n) && iLe (iOf (Cont.ints .u8 l).n) (iOf (Cont.ints .u8 l).n)) (yI T1 =
  yI (R.nV l) ∧ True ∧ yB no = yB (bif R.nOk l then no else true) ∧ EqI (List.take (nSub (iOf l.length).toNat T2.toNat) (List.drop T2.toNat l)) (R.nR l) ∧ True) False) (∃ (x' : Nat ×
  Int), (x'.1 ≤ 9 ∧ numG l (nSub 10 x'.1) x'.1 x'.2 = numG l 10 0 0) ∧ (nSub 10 x'.1).succ ≤ nSub 10 x.1 ∧ (yI T1 = yI x'.2 ∧ SV.fn (Fn.func 66) [SV.ptr
  192 0, SV.ptr 64 0] = SV.fn (Fn.func 66) [SV.ptr 192 0, SV.ptr 64 0] ∧ True) ∧ yI T2 = yI (iOf x'.1) ∧ yB no = yB no ∧ EqI l l ∧ True))) False)
  False)) False := by
 conv => zeta
 subst hr
 have h0' := zbL h0
 rw [show bO.nOk l = (numG l 10 0 0).1 from rfl, show bO.nV l = (numG l 10 0 0).2.1 from rfl, show bO.nR l = bif (numG l 10 0 0).1 then l.drop (numG l 10 0 0).2.2 else [] from rfl]
 obtain ⟨G, hG⟩ : ∃ G, numG l 10 0 0 = G := ⟨_, rfl⟩
 rw [hG]
 refine ⟨⟨(0, 0), ⟨by decide, hG⟩, ⟨rfl, rfl, trivial⟩, rfl, rfl, rfl, trivial⟩, fun x ⟨c1, c2⟩ => ?_⟩
 obtain ⟨j, v⟩ := x
 replace c1 : j ≤ 9 := c1
 replace c2 : numG l (10 - j) j v = G := c2
 have ej : (iOf j).toNat = j := ztN j
 have w7 : i64.wrap (iMul 7 (iOf j)) = ((7 * j : Nat) : Int) := by simp only [zUn]; rw [IntKind.wrap_i64]; omega
 have w1 : i64.wrap (iAdd (iOf j) 1) = ((j + 1 : Nat) : Int) := by simp only [zUn]; rw [IntKind.wrap_i64]; omega
 have step : numG l (10 - j) j v = bif wrF l j then (false, 0, 0) else bif iLt (dgt l j) 128 then (true, orD v (dgt l j) j, j + 1) else numG l (10 - (j + 1)) (j + 1) (orD v (dgt l j) j) := by
  rw [show 10 - j = (10 - (j + 1)) + 1 by omega]; rfl
 have hd : i64.wrap ((l.getD j 0).tmod 128) = (dgt l j).tmod 128 := by
  show i64.wrap ((l.getD j 0).tmod 128) = (l.getD j 0).tmod 128
  have h1 := Int.tmod_lt_of_pos (l.getD j 0) (show (0 : Int) < 128 by decide)
  have h2 := Int.lt_tmod_of_pos (l.getD j 0) (show (0 : Int) < 128 by decide)
  rw [IntKind.wrap_i64]; omega
 have hor : i64.wrap (iOf (BitVec.ofInt 64 v ||| BitVec.ofInt 64 (i64.wrap (iMul (i64.wrap ((l.getD (iOf j).toNat 0).tmod 128)) (iPow 2 (min (i64.wrap (iMul 7 (iOf j))).toNat 64))))).toNat) = orD v (dgt l j) j := by
  rw [ej, w7, hd, ztN]; rfl
 refine ziT (by simp only [zUn, Bz, Sx.Cont.n]; omega) ?_
 show If (wrF l (iOf j).toNat) _ _
 rw [ej]
 refine Sx.if_both (fun h => ?_) (fun h => ?_)
 ·rw [h] at step
  rw [← c2, step]
  exact ⟨rfl, trivial, rfl, rfl, trivial⟩
 ·have hw : j < l.length ∧ j ≤ 8 := by
   unfold wrF at h
   cases h1 : Nat.ble l.length j with
   | true => rw [h1] at h; cases h
   | false =>
    rw [h1] at h
    cases h2 : Nat.blt 8 j with
    | true => rw [h2] at h; cases h
    | false =>
     refine ⟨?_, ?_⟩
     ·rcases Nat.lt_or_ge j l.length with h3 | h3
      ·exact h3
      ·rw [Nat.ble_eq_true_of_le h3] at h1; cases h1
     ·rcases Nat.lt_or_ge 8 j with h3 | h3
      ·rw [show Nat.blt 8 j = true from by rw [Nat.blt_eq]; exact h3] at h2; cases h2
      ·exact h3
  have hlt : j.blt l.length = true := by rw [Nat.blt_eq]; exact hw.1
  rw [h] at step
  refine ziT (by show (iLe 0 (iOf j) && (iOf j).toNat.blt l.length) = true; rw [ej, hlt, Bool.and_true]; simp only [zUn, Bz, Sx.Cont.n]; omega) (ziT (by show (true && Nat.beq 1 1 && (iOf j).toNat.blt l.length) = true; rw [ej, hlt]; rfl) (Sx.if_false (by show iLt (i64.wrap (iMul 7 (iOf j))) 0 = false; rw [w7]; simp only [Bz, Sx.Cont.n]; omega) ?_))
  show If (iLt (l.getD (iOf j).toNat 0) 128) _ _
  rw [ej]
  refine Sx.if_both (fun h5 => ?_) (fun h5 => ?_)
  ·have h5' : iLt (dgt l j) 128 = true := h5
   rw [h5'] at step
   refine ziT ?_ ?_
   ·show (iLe 0 (i64.wrap (iAdd (iOf j) 1)) && iLe (i64.wrap (iAdd (iOf j) 1)) (iOf (Cont.ints u8 l).n) && iLe (iOf (Cont.ints u8 l).n) (iOf (Cont.ints u8 l).n)) = true
    rw [w1]; simp only [zUn, Bz, Sx.Cont.n]; omega
   ·rw [← c2, step]
    refine ⟨congrArg (Value.int i64) hor, trivial, rfl, ?_, trivial⟩
    show List.take (nSub (iOf l.length).toNat (i64.wrap (iAdd (iOf j) 1)).toNat) (List.drop (i64.wrap (iAdd (iOf j) 1)).toNat l) = List.drop (j + 1) l
    rw [w1, ztN, show (iOf l.length).toNat = l.length from ztN _, List.take_of_length_le]
    simp [Sx.nSub]
  ·have h5' : iLt (dgt l j) 128 = false := h5
   rw [h5'] at step
   refine ⟨(j + 1, orD v (dgt l j) j), ⟨by show j + 1 ≤ 9; omega, ?_⟩, ?_, ⟨congrArg (Value.int i64) hor, rfl, trivial⟩, ?_, rfl, rfl, trivial⟩
   ·rw [← c2, step]; rfl
   ·show 10 - (j + 1) < 10 - j; omega
   ·show Value.int i64 (i64.wrap (iAdd (iOf j) 1)) = Value.int i64 (iOf (j + 1))
    rw [w1]; rfl
theorem ok_num (I : Sx.Interp) (O : OO) (hO : O = oo) (R : OB) (hR : R = bO) : Sx.SpecOK I Try.prog 33 (pspec [.obj 127 [.ro .u8, .v]] true (g_num O R)) := by
 refine spec_pAI (spQ5_ok I O hO R hR) (by kernel_rfl) (fun ds => match ds with | [.node [.ints l, .v (.bool no)]] => [⟨Nat × Int, [0, 1, 4, 5], [], fun B x => [(3, .v (.int .i64 x.2))], fun B x => [(192, .blk 3 [.v (.int .i64 (x.1 : Int))])], fun x => x.1 ≤ 9 ∧ numG l (10 - x.1) x.1 x.2 = numG l 10 0 0, fun x => 10 - x.1, 0⟩] | _ => []) (fun ds => match ds with | [.node [.ints l, .v (.bool no)]] => [(100000, 5, .ints .u8 [])] | _ => []) Try.func33 (by kernel_rfl) (by kernel_rfl) rfl Try.ntmps33 (by decide) ?_ ?_
 ·intro ds p bs F h
  unfold g_num at h
  split at h
  ·rename_i l no
   simp only [zsI, zpI] at h
   obtain ⟨_, _, rfl⟩ := h
   kernel_rfl
  ·cases h
 ·intro ds bs F hl h
  unfold g_num at h
  split at h
  ·rename_i l no
   simp only [zsI, zpI, zaT] at h
   obtain ⟨h0, _, rfl⟩ := h
   exact Eq.mpr (by kernel_rfl) (vc_num O R l no (fo_oo O hO) hR (by first | exact h0 | (simp only [zaT]; exact h0)))
  ·cases h
def g_hash (O : OO) (R : OB) (ds : List Dt) : zG := match ds with
 | [.node [.ints l, .v (.bool no)]] => some ((Nat.ble l.length 1000000), [], fun _ => ⟨[.v (.agg (AV (hsh l no)))], [(0, .blk 127 [.row 2, .v (.bool (hshN l no))]), (2, .ro (.ints .u8 (hshR l no)))]⟩)
 | _ => none
theorem vc_hash (O : OO) (R : OB) (l : List Int) (no : Bool) (F : FO O) (hr : R = bO) (h0 : (Nat.ble l.length 1000000) = true) :
 let T1 := bif bif no then true else iLt (iOf l.length) 32 then [] else List.take 32 l; let T2 := bif bif no then true else iLt (iOf l.length) 32 then [] else List.drop 32 l; let T3 := bif bif no then true else iLt (iOf l.length) 32 then true else no;
  If (l.length.ble 1000000 && iLe 0 32) (Value.agg (Array.mk (List.map (Value.int .u8) (Sx.cpGo (List.replicate (α := Int) 32 0) 0 32 T1 32 0))) = Value.agg (AV (hashF T1)) ∧ True ∧
  yB T3 = yB T3 ∧ EqI T2 T2 ∧ True) False := by
 conv => zeta
 exact ziT (by rw [h0]; rfl) ⟨by kernel_rfl, trivial, rfl, rfl, trivial⟩
theorem ok_hash (I : Sx.Interp) (O : OO) (hO : O = oo) (R : OB) (hR : R = bO) : Sx.SpecOK I Try.prog 53 (pspec [.obj 127 [.ro .u8, .v]] true (g_hash O R)) := by
 refine spec_pI (spQ5_ok I O hO R hR) (by kernel_rfl) (fun _ => []) Try.func53 (by kernel_rfl) (by kernel_rfl) rfl Try.ntmps53 (by decide) ?_ ?_
 ·intro ds p bs F h
  unfold g_hash at h
  split at h
  ·rename_i l no
   simp only [zsI, zpI] at h
   obtain ⟨_, _, rfl⟩ := h
   kernel_rfl
  ·cases h
 ·intro ds bs F hl h
  unfold g_hash at h
  split at h
  ·rename_i l no
   simp only [zsI, zpI, zaT] at h
   obtain ⟨h0, _, rfl⟩ := h
   exact Eq.mpr (by kernel_rfl) (vc_hash O R l no (fo_oo O hO) hR (by first | exact h0 | (simp only [zaT]; exact h0)))
  ·cases h
def g_left (O : OO) (R : OB) (ds : List Dt) : zG := match ds with
 | [.node [.ints l, .v (.bool no)]] => some (true, [], fun _ => ⟨[.v (.int .i64 (l.length : Int))], []⟩)
 | _ => none
theorem vc_left (O : OO) (R : OB) (l : List Int) (no : Bool) (F : FO O) (hr : R = bO) :
 yI (iOf l.length) = yI (iOf l.length) ∧ True ∧ True := by
 exact ⟨rfl, trivial, trivial⟩
theorem ok_left (I : Sx.Interp) (O : OO) (hO : O = oo) (R : OB) (hR : R = bO) : Sx.SpecOK I Try.prog 35 (pspec [.robj 127 [.ro .u8, .v]] false (g_left O R)) := by
 refine spec_pI (spQ5_ok I O hO R hR) (by kernel_rfl) (fun _ => []) Try.func35 (by kernel_rfl) (by kernel_rfl) rfl Try.ntmps35 (by decide) ?_ ?_
 ·intro ds p bs F h
  unfold g_left at h
  split at h
  ·rename_i l no
   simp only [zsI, zpI] at h
   obtain ⟨_, _, rfl⟩ := h
   kernel_rfl
  ·cases h
 ·intro ds bs F hl h
  unfold g_left at h
  split at h
  ·rename_i l no
   simp only [zsI, zpI, zaT] at h
   obtain ⟨_, _, rfl⟩ := h
   exact Eq.mpr (by kernel_rfl) (vc_left O R l no (fo_oo O hO) hR )
  ·cases h
def g_rok (O : OO) (R : OB) (ds : List Dt) : zG := match ds with
 | [.node [.ints l, .v (.bool no)]] => some (true, [], fun _ => ⟨[.v (.bool (!no))], []⟩)
 | _ => none
theorem vc_rok (O : OO) (R : OB) (l : List Int) (no : Bool) (F : FO O) (hr : R = bO) :
 (yB !no) = yB !no ∧ True ∧ True := by
 exact ⟨rfl, trivial, trivial⟩
theorem ok_rok (I : Sx.Interp) (O : OO) (hO : O = oo) (R : OB) (hR : R = bO) : Sx.SpecOK I Try.prog 34 (pspec [.robj 127 [.ro .u8, .v]] false (g_rok O R)) := by
 refine spec_pI (spQ5_ok I O hO R hR) (by kernel_rfl) (fun _ => []) Try.func34 (by kernel_rfl) (by kernel_rfl) rfl Try.ntmps34 (by decide) ?_ ?_
 ·intro ds p bs F h
  unfold g_rok at h
  split at h
  ·rename_i l no
   simp only [zsI, zpI] at h
   obtain ⟨_, _, rfl⟩ := h
   kernel_rfl
  ·cases h
 ·intro ds bs F hl h
  unfold g_rok at h
  split at h
  ·rename_i l no
   simp only [zsI, zpI, zaT] at h
   obtain ⟨_, _, rfl⟩ := h
   exact Eq.mpr (by kernel_rfl) (vc_rok O R l no (fo_oo O hO) hR )
  ·cases h
def spQ6 (O : OO) (R : OB) (f : FuncId) : Option Sx.Spec := match f with
 | 43 => some (pspec [.ro .u8, .v] false (g_put O R))
 | 89 => some (pspec [.ro .u8, .v] false (g_puth O R))
 | 32 => some (pspec [.ro .u8] false (g_open O R))
 | 33 => some (pspec [.obj 127 [.ro .u8, .v]] true (g_num O R))
 | 53 => some (pspec [.obj 127 [.ro .u8, .v]] true (g_hash O R))
 | 35 => some (pspec [.robj 127 [.ro .u8, .v]] false (g_left O R))
 | 34 => some (pspec [.robj 127 [.ro .u8, .v]] false (g_rok O R))
 | f => spQ5 O R f
theorem spQ6_ok (I : Sx.Interp) (O : OO) (hO : O = oo) (R : OB) (hR : R = bO) : ∀ f s, spQ6 O R f = some s → Sx.SpecOK I Try.prog f s := by
 intro f s h
 unfold spQ6 at h
 split at h
 · cases h; exact ok_put I O hO R hR
 · cases h; exact ok_puth I O hO R hR
 · cases h; exact ok_open I O hO R hR
 · cases h; exact ok_num I O hO R hR
 · cases h; exact ok_hash I O hO R hR
 · cases h; exact ok_left I O hO R hR
 · cases h; exact ok_rok I O hO R hR
 ·exact spQ5_ok I O hO R hR _ s h
end Go.Proofs.Ytaohpdhhbnempaa
