/- Bytes: numbers and bytes laid, and read: code, by the symbolic machine (printed by genRd.py; VCs by VcTool). -/
import Derived.Test.YtgekiddgdjeaiaaGreatCm
namespace Go.Proofs.YtgekiddgdjeaiaaGreat
open Go.RowKit Go.Lib Ckp Cfd Cpd Sx
open IntKind (i64 u64 u8 i32 u32)
set_option linter.unusedVariables false
set_option linter.unusedSimpArgs false
set_option maxRecDepth 1000000
set_option maxHeartbeats 4000000
def ac8 : Nat → Int → List Int
 | 0, _ => []
 | f + 1, n => bif iLe 128 n then (n.tmod 128 + 128) :: ac8 f (n.tdiv 128) else [n]
def bqk (n : Int) : List Int := ac8 10 n
def dgt (l : List Int) (i : Nat) : Int := l.getD i 0
def wrF (l : List Int) (i : Nat) : Bool := bif (bif Nat.ble l.length i then true else Nat.blt 8 i) then true else bif Nat.blt 0 i then ax (dgt l i) 0 else false
def orD (n d : Int) (i : Nat) : Int := i64.wrap (((BitVec.ofInt 64 n ||| BitVec.ofInt 64 (i64.wrap (d.tmod 128 * 2 ^ (min (7 * i) 64)))).toNat : Nat) : Int)
def o5 (l : List Int) : Nat → Nat → Int → Bool × Int × Nat
 | 0, _, _ => (false, 0, 0)
 | f + 1, i, n => bif wrF l i then (false, 0, 0) else bif iLt (dgt l i) 128 then (true, orD n (dgt l i) i, i + 1) else o5 l f (i + 1) (orD n (dgt l i) i)
structure OB where
 row : Int → List Int
 nOk : List Int → Bool
 nV : List Int → Int
 nR : List Int → List Int
 u64 : List Int → Int
def als (l : List Int) : Int := l.foldl (fun n b => u64.wrap (((BitVec.ofInt 64 (u64.wrap (n * 2 ^ 8)) ||| BitVec.ofInt 64 b).toNat : Nat) : Int)) 0
def bO : OB := ⟨bqk, fun l => (o5 l 10 0 0).1, fun l => (o5 l 10 0 0).2.1, fun l => bif (o5 l 10 0 0).1 then l.drop (o5 l 10 0 0).2.2 else [], als⟩
def bp1 (l : List Int) (i : Nat) : Int := bif Nat.blt i l.length then l.getD i 0 else 0
def bmx (l : List Int) (no : Bool) : Bool := bif no then true else iLt (l.length : Int) 32
def bov (l : List Int) (no : Bool) : Bool := bif bmx l no then true else no
def bpi (l : List Int) (no : Bool) : List Int := bif bmx l no then [] else l.drop 32
def hsh (l : List Int) (no : Bool) : Nat → Int := bp1 (bif bmx l no then [] else l.take 32)
theorem axc : ∀ (f : Nat) (n : Int), (ac8 f n).length ≤ f
 | 0, n => Nat.le_refl _
 | f + 1, n => by
  unfold ac8
  cases iLe 128 n
  ·simp
  ·have := axc f (n.tdiv 128)
   simp only [cond_true, List.length_cons]; omega
theorem aml {R : OB} (hr : R = bO) (n : Int) : (R.row n).length ≤ 10 := by subst hr; exact axc 10 n
def isLit (n : Nat) (args : List SV) : Bool := match args with
 | [.sl _ _ m _] => Nat.beq m n
 | _ => false

def blg (O : OO) (R : OB) (f : FuncId) : Option Sx.Spec := match f with
 | 79 => some (l7 [.ro .u8] ama)
 | f => none
theorem a1u (I : Sx.Interp) (O : OO) (hO : O = oo) (R : OB) (hR : R = bO) : ∀ f s, blg O R f = some s → ag I Tryz.prog f s := by
 intro f s h
 unfold blg at h
 split at h
 · cases h; exact bdc I
 ·cases h
def av1 (O : OO) (R : OB) (ds : List Dt) : zG := match ds with
 | [.v (.slice none 0 0), .v (.int .i64 n)] => some ((iLe 0 n && iLe n 1099511627776), [], fun _ => ⟨[.row 0], [(0, .own 5 (.ints .u8 []))]⟩)
 | _ => none
theorem bil (O : OO) (R : OB) (n : Int) (F : FO O) (hr : R = bO) (h0 : (iLe 0 n && iLe n 1099511627776) = true) :
 let T1 := i64.wrap (di n (i64.wrap (di (iOf 0) (iOf 0)))); If (iLt n 0) False (If (iLt 0 T1) (If (iLt 0 T1 && iLe T1 9223372036854775807 && (jd T1.toNat 1).ble
  140737488355328) (True ∧ EqI (List.take 0 (List.drop 0 (List.replicate (α := Int) T1.toNat 0))) [] ∧ True) False) (True ∧ EqI [] [] ∧ True)) := by
 conv => zeta
 simp only [Bz, Sx.af.n] at h0
 have w : i64.wrap (di n (i64.wrap (di (iOf 0) (iOf 0)))) = n := by simp only [zUn]; rw [show i64.wrap (((0 : Nat) : Int) - ((0 : Nat) : Int)) = 0 by decide, IntKind.wrap_i64]; omega
 rw [w]
 refine Sx.if_false (by simp only [Bz, Sx.af.n]; omega) (ae (fun h => ?_) (fun h => ⟨trivial, rfl, trivial⟩))
 simp only [Bz, Sx.af.n] at h
 exact ziT (by simp only [zUn, Bz, Sx.af.n, decide_eq_true_eq, Nat.mul_one]; omega) ⟨trivial, by simp [EqI], trivial⟩
theorem biu (I : Sx.Interp) (O : OO) (hO : O = oo) (R : OB) (hR : R = bO) : ag I Tryz.prog 119 (au [.v, .v] false (av1 O R)) := by
 refine zn (a1u I O hO R hR) (by kernel_rfl) (fun _ => []) (fun ds => match ds with | [.v (.slice none 0 0), .v (.int .i64 n)] => [(4, 5, .ints .u8 [])] | _ => []) Tryz.func119 (by kernel_rfl) (by kernel_rfl) rfl Tryz.ntmps119 (by decide) ?_ ?_
 ·intro ds p bs F h
  unfold av1 at h
  split at h
  ·rename_i n
   simp only [zsI, zpI] at h
   obtain ⟨_, _, rfl⟩ := h
   kernel_rfl
  ·cases h
 ·intro ds bs F hl h
  unfold av1 at h
  split at h
  ·rename_i n
   simp only [zsI, zpI, zaT] at h
   obtain ⟨h0, _, rfl⟩ := h
   exact Eq.mpr (by kernel_rfl) (bil O R n (dn O hO) hR (by first | exact h0 | (simp only [zaT]; exact h0)))
  ·cases h
def bme (O : OO) (R : OB) (f : FuncId) : Option Sx.Spec := match f with
 | 119 => some (au [.v, .v] false (av1 O R))
 | f => blg O R f
theorem avo (I : Sx.Interp) (O : OO) (hO : O = oo) (R : OB) (hR : R = bO) : ∀ f s, bme O R f = some s → ag I Tryz.prog f s := by
 intro f s h
 unfold bme at h
 split at h
 · cases h; exact biu I O hO R hR
 ·exact a1u I O hO R hR _ s h
def asv (O : OO) (R : OB) (ds : List Dt) : zG := match ds with
 | [.node [.ints a, .ints b]] => some ((Nat.ble a.length 1073741824) && (Nat.ble b.length 1073741824), [], fun _ => ⟨[.row 3], [(3, .own 5 (.ints .u8 (a ++ b)))]⟩)
 | _ => none
theorem bg0 (O : OO) (R : OB) (a b : List Int) (F : FO O) (hr : R = bO) (h0 : (Nat.ble a.length 1073741824) = true) (h1 : (Nat.ble b.length 1073741824) = true) :
 let T1 := i64.wrap (dh (i64.wrap (dh 0 (iOf (af.ints .u8 a).n))) (iOf (af.ints .u8 b).n)); If (iLt (i64.wrap (dh 0 (iOf (af.ints .u8 a).n))) 0)
  False (If (iLt T1 0) False (If (iLe 0 T1 && iLe T1 1099511627776) (If ((jd (ay 0 a.length) 1).ble 140737488355328 && (ay 0 a.length).ble 9223372036854775807) (If ((jd (ay
  (app [] a).length b.length) 1).ble 140737488355328 && (ay (app [] a).length b.length).ble 9223372036854775807) (True ∧ EqI (app (app [] a) b) (app a b) ∧ True) False) False)
  False)) := by
 conv => zeta
 have h0' := zbL h0
 have h1' := zbL h1
 simp only [zUn, Sx.af.n]
 have w1 : i64.wrap (0 + (a.length : Int)) = (a.length : Int) := by rw [IntKind.wrap_i64]; omega
 have w2 : i64.wrap ((a.length : Int) + (b.length : Int)) = ((a.length + b.length : Nat) : Int) := by rw [IntKind.wrap_i64]; omega
 rw [w1, w2]
 refine Sx.if_false (by simp only [Bz, Sx.af.n]; omega) (Sx.if_false (by simp only [Bz, Sx.af.n]; omega) (ziT (by simp only [Bz, Sx.af.n]; omega) (ziT (by simp only [Bz, Sx.af.n]; omega) (ziT (by simp only [Bz, Sx.af.n, List.nil_append]; omega) ⟨trivial, by simp [EqI], trivial⟩))))
theorem bfh (I : Sx.Interp) (O : OO) (hO : O = oo) (R : OB) (hR : R = bO) : ag I Tryz.prog 112 (au [.lit 43 2 [.ro .u8, .ro .u8]] false (asv O R)) := by
 refine o8 (avo I O hO R hR) (by kernel_rfl) (fun ds => match ds with | [.node [.ints a, .ints b]] => [Ann.walk 3, Ann.walk 3] | _ => []) Tryz.func112 (by kernel_rfl) (by kernel_rfl) rfl Tryz.ntmps112 (by decide) ?_ ?_
 ·intro ds p bs F h
  unfold asv at h
  split at h
  ·rename_i a b
   simp only [zsI, zpI] at h
   obtain ⟨_, _, rfl⟩ := h
   kernel_rfl
  ·cases h
 ·intro ds bs F hl h
  unfold asv at h
  split at h
  ·rename_i a b
   simp only [zsI, zpI, zaT] at h
   obtain ⟨⟨h0, h1⟩, _, rfl⟩ := h
   exact Eq.mpr (by kernel_rfl) (bg0 O R a b (dn O hO) hR (by first | exact h0 | (simp only [zaT]; exact h0)) (by first | exact h1 | (simp only [zaT]; exact h1)))
  ·cases h
def auy (O : OO) (R : OB) (ds : List Dt) : zG := match ds with
 | [.node [.ints a, .ints b, .ints c]] => some ((Nat.ble a.length 1073741824) && (Nat.ble b.length 1073741824) && (Nat.ble c.length 1073741824), [], fun _ => ⟨[.row 4], [(4, .own 5 (.ints .u8 (a ++ b ++ c)))]⟩)
 | _ => none
theorem bg9 (O : OO) (R : OB) (a b c : List Int) (F : FO O) (hr : R = bO) (h0 : (Nat.ble a.length 1073741824) = true) (h1 : (Nat.ble b.length 1073741824) = true) (h2 : (Nat.ble c.length 1073741824) = true) :
 let T1 := i64.wrap (dh (i64.wrap (dh (i64.wrap (dh 0 (iOf (af.ints .u8 a).n))) (iOf (af.ints .u8 b).n))) (iOf (af.ints .u8 c).n)); let T2 := i64.wrap (dh 0 (iOf (af.ints .u8 a).n));
  If (iLt T2 0) False (If (iLt (i64.wrap (dh T2 (iOf (af.ints .u8 b).n))) 0) False (If (iLt T1 0) False (If (iLe 0 T1 && iLe T1 1099511627776) (If ((jd (ay 0 a.length)
  1).ble 140737488355328 && (ay 0 a.length).ble 9223372036854775807) (If ((jd (ay (app [] a).length b.length) 1).ble 140737488355328 && (ay (app [] a).length b.length).ble
  9223372036854775807) (If ((jd (ay (app (app [] a) b).length c.length) 1).ble 140737488355328 && (ay (app (app [] a) b).length c.length).ble 9223372036854775807) (True ∧ EqI
  (app (app (app [] a) b) c) (app (app a b) c) ∧ True) False) False) False) False))) := by
 conv => zeta
 have h0' := zbL h0
 have h1' := zbL h1
 have h2' := zbL h2
 simp only [zUn, Sx.af.n]
 have w1 : i64.wrap (0 + (a.length : Int)) = (a.length : Int) := by rw [IntKind.wrap_i64]; omega
 have w2 : i64.wrap ((a.length : Int) + (b.length : Int)) = ((a.length + b.length : Nat) : Int) := by rw [IntKind.wrap_i64]; omega
 have w3 : i64.wrap (((a.length + b.length : Nat) : Int) + (c.length : Int)) = ((a.length + b.length + c.length : Nat) : Int) := by rw [IntKind.wrap_i64]; omega
 rw [w1, w2, w3]
 refine Sx.if_false (by simp only [Bz, Sx.af.n]; omega) (Sx.if_false (by simp only [Bz, Sx.af.n]; omega) (Sx.if_false (by simp only [Bz, Sx.af.n]; omega) (ziT (by simp only [Bz, Sx.af.n]; omega) (ziT (by simp only [Bz, Sx.af.n]; omega) (ziT (by simp only [Bz, Sx.af.n, List.nil_append]; omega) (ziT (by simp only [Bz, Sx.af.n, List.nil_append, zlA]; omega) ⟨trivial, by simp [EqI], trivial⟩))))))
theorem bg8 (I : Sx.Interp) (O : OO) (hO : O = oo) (R : OB) (hR : R = bO) : ag I Tryz.prog 112 (au [.lit 43 3 [.ro .u8, .ro .u8, .ro .u8]] false (auy O R)) := by
 refine o8 (avo I O hO R hR) (by kernel_rfl) (fun ds => match ds with | [.node [.ints a, .ints b, .ints c]] => [Ann.walk 4, Ann.walk 4] | _ => []) Tryz.func112 (by kernel_rfl) (by kernel_rfl) rfl Tryz.ntmps112 (by decide) ?_ ?_
 ·intro ds p bs F h
  unfold auy at h
  split at h
  ·rename_i a b c
   simp only [zsI, zpI] at h
   obtain ⟨_, _, rfl⟩ := h
   kernel_rfl
  ·cases h
 ·intro ds bs F hl h
  unfold auy at h
  split at h
  ·rename_i a b c
   simp only [zsI, zpI, zaT] at h
   obtain ⟨⟨⟨h0, h1⟩, h2⟩, _, rfl⟩ := h
   exact Eq.mpr (by kernel_rfl) (bg9 O R a b c (dn O hO) hR (by first | exact h0 | (simp only [zaT]; exact h0)) (by first | exact h1 | (simp only [zaT]; exact h1)) (by first | exact h2 | (simp only [zaT]; exact h2)))
  ·cases h
def bml (O : OO) (R : OB) (f : FuncId) : Option Sx.Spec := match f with
 | 112 => some (asy (isLit 2) (au [.lit 43 2 [.ro .u8, .ro .u8]] false (asv O R)) (au [.lit 43 3 [.ro .u8, .ro .u8, .ro .u8]] false (auy O R)))
 | f => bme O R f
theorem ave (I : Sx.Interp) (O : OO) (hO : O = oo) (R : OB) (hR : R = bO) : ∀ f s, bml O R f = some s → ag I Tryz.prog f s := by
 intro f s h
 unfold bml at h
 split at h
 · cases h; exact a3j (bfh I O hO R hR) (bg8 I O hO R hR)
 ·exact avo I O hO R hR _ s h
def avd (O : OO) (R : OB) (ds : List Dt) : zG := match ds with
 | [.ints a, .ints b] => some ((Nat.ble a.length 1073741824) && (Nat.ble b.length 1073741824), [], fun _ => ⟨[.row 2], [(2, .own 5 (.ints .u8 (a ++ b)))]⟩)
 | _ => none
theorem bgp (O : OO) (R : OB) (a b : List Int) (F : FO O) (hr : R = bO) (h0 : (Nat.ble a.length 1073741824) = true) (h1 : (Nat.ble b.length 1073741824) = true) :
 If (a.length.ble 1073741824 && b.length.ble 1073741824) (True ∧ EqI (app a b) (app a b) ∧ True) False := by
 exact ziT (by rw [h0, h1]; rfl) ⟨trivial, rfl, trivial⟩
theorem bfe (I : Sx.Interp) (O : OO) (hO : O = oo) (R : OB) (hR : R = bO) : ag I Tryz.prog 95 (au [.ro .u8, .ro .u8] false (avd O R)) := by
 refine o8 (ave I O hO R hR) (by kernel_rfl) (fun _ => []) Tryz.func95 (by kernel_rfl) (by kernel_rfl) rfl Tryz.ntmps95 (by decide) ?_ ?_
 ·intro ds p bs F h
  unfold avd at h
  split at h
  ·rename_i a b
   simp only [zsI, zpI] at h
   obtain ⟨_, _, rfl⟩ := h
   kernel_rfl
  ·cases h
 ·intro ds bs F hl h
  unfold avd at h
  split at h
  ·rename_i a b
   simp only [zsI, zpI, zaT] at h
   obtain ⟨⟨h0, h1⟩, _, rfl⟩ := h
   exact Eq.mpr (by kernel_rfl) (bgp O R a b (dn O hO) hR (by first | exact h0 | (simp only [zaT]; exact h0)) (by first | exact h1 | (simp only [zaT]; exact h1)))
  ·cases h
def a3d (O : OO) (R : OB) (ds : List Dt) : zG := match ds with
 | [.v (.int .i64 n)] => some ((iLe 0 n && iLe n 9223372036854775807), [], fun _ => ⟨[.row 0], [(0, .own 5 (.ints .u8 (R.row n)))]⟩)
 | _ => none
theorem blw (O : OO) (R : OB) (n : Int) (F : FO O) (hr : R = bO) (h0 : (iLe 0 n && iLe n 9223372036854775807) = true) :
 (∃ (x : Nat × Int × List Int), (x.1 ≤ 9 ∧ (di x.2.1 0).NonNeg ∧ (di (df 128 (iy 10 x.1)) (dh x.2.1 1)).NonNeg ∧ (di 9223372036854775807 x.2.1).NonNeg ∧ x.2.2.length = x.1 ∧ EqI (app x.2.2 (ac8 (iy 10 x.1) x.2.1)) (R.row n)) ∧ (vI n = vI x.2.1 ∧ True) ∧ EqI [] x.2.2 ∧ True) ∧ ∀ (x : Nat × Int × List Int), x.1 ≤ 9 ∧ (di x.2.1 0).NonNeg ∧ (di (df 128 (iy 10 x.1)) (dh x.2.1 1)).NonNeg ∧ (di 9223372036854775807 x.2.1).NonNeg ∧ x.2.2.length = x.1 ∧ EqI (app x.2.2 (ac8 (iy 10 x.1) x.2.1)) (R.row n) → If (iLe 128 x.snd.fst) (If ((jd (ay x.2.2.length 1) 1).ble 140737488355328 && (ay x.2.2.length 1).ble 9223372036854775807) (∃ (x' : Nat × Int × List Int), (x'.1 ≤ 9 ∧ (di x'.2.1 0).NonNeg ∧ (di (df 128 (iy 10 x'.1)) (dh x'.2.1 1)).NonNeg ∧ (di 9223372036854775807 x'.2.1).NonNeg ∧ x'.2.2.length = x'.1 ∧ EqI (app x'.2.2 (ac8 (iy 10 x'.1) x'.2.1)) (R.row n)) ∧ x'.2.1.toNat.succ ≤ x.2.1.toNat ∧ (vI (i64.wrap (x.2.1.tdiv 128)) = vI x'.2.1 ∧ True) ∧ EqI (app x.2.2 [u8.wrap (i64.wrap (dh (x.2.1.tmod 128) 128))]) x'.2.2 ∧ True) False) (If ((jd (ay x.2.2.length 1) 1).ble 140737488355328 && (ay x.2.2.length 1).ble 9223372036854775807) (True ∧ EqI (app x.2.2 [u8.wrap x.2.1]) (R.row n) ∧ True) False) := by
 subst hr
 simp only [Bz, Sx.af.n] at h0
 have hrow : ∀ n, bO.row n = ac8 10 n := fun _ => rfl
 refine ⟨⟨(0, n, []), ⟨Nat.zero_le _, by simp only [zUn]; show (0 : Int) ≤ n; omega, ?_, ?_, rfl, ?_⟩, ⟨rfl, trivial⟩, rfl, trivial⟩, fun x ⟨c1, c2, c3, c4, c5, c6⟩ => ?_⟩
 ·show n < 128 ^ (10 - 0); omega
 ·show n ≤ 9223372036854775807; omega
 ·rw [hrow]; rfl
 obtain ⟨j, m, o⟩ := x
 replace c1 : j ≤ 9 := c1
 replace c2 : (0 : Int) ≤ m := c2
 replace c3 : m < 128 ^ (10 - j) := c3
 replace c4 : m ≤ 9223372036854775807 := c4
 replace c5 : o.length = j := c5
 replace c6 : o ++ ac8 (10 - j) m = bO.row n := c6
 show If (iLe 128 m) _ _
 have step : ac8 (10 - j) m = bif iLe 128 m then (m.tmod 128 + 128) :: ac8 (10 - (j + 1)) (m.tdiv 128) else [m] := by
  rw [show 10 - j = (10 - (j + 1)) + 1 by omega]; rfl
 have hm : m.tmod 128 = m % 128 := Int.tmod_eq_emod_of_nonneg c2
 have hd : m.tdiv 128 = m / 128 := Int.tdiv_eq_ediv_of_nonneg c2
 refine ae (fun h => ?_) (fun h => ?_)
 ·rw [h] at step
  simp only [Bz, Sx.af.n] at h
  have hj : j ≤ 8 := by
   rcases Nat.lt_or_ge j 9 with h9 | h9
   ·omega
   ·exfalso
    have : j = 9 := by omega
    subst this
    simp at c3; omega
  have w1 : u8.wrap (i64.wrap (dh (m.tmod 128) 128)) = m.tmod 128 + 128 := by
   simp only [zUn]; rw [hm, IntKind.wrap_i64, IntKind.wrap_u8]; omega
  have w2 : i64.wrap (m.tdiv 128) = m / 128 := by rw [hd, IntKind.wrap_i64]; omega
  simp only [w1, w2]
  refine ziT (by simp only [zUn, zaT, Nat.ble_eq, List.length_cons, List.length_nil]; omega) ⟨(j + 1, m / 128, o ++ [m.tmod 128 + 128]), ⟨by show j + 1 ≤ 9; omega, by show (0 : Int) ≤ m / 128; omega, ?_, by show m / 128 ≤ 9223372036854775807; omega, ?_, ?_⟩, ?_, ⟨rfl, trivial⟩, rfl, trivial⟩
  ·show m / 128 < 128 ^ (10 - (j + 1))
   have e : (128 : Int) ^ (10 - j) = 128 ^ (10 - (j + 1)) * 128 := by rw [show 10 - j = (10 - (j + 1)) + 1 by omega]; exact Int.pow_succ _ _
   rw [e] at c3
   exact Int.ediv_lt_of_lt_mul (by decide) c3
  ·show (o ++ [m.tmod 128 + 128]).length = j + 1
   simp [c5]
  ·show (o ++ [m.tmod 128 + 128]) ++ ac8 (10 - (j + 1)) (m / 128) = bO.row n
   rw [← c6, step, hd]; simp
  ·show (m / 128).toNat < m.toNat; omega
 ·rw [h] at step
  simp only [Bz, Sx.af.n] at h
  have w1 : u8.wrap m = m := by rw [IntKind.wrap_u8]; omega
  rw [w1]
  refine ziT (by simp only [zUn, zaT, Nat.ble_eq, List.length_cons, List.length_nil]; omega) ⟨trivial, ?_, trivial⟩
  show o ++ [m] = bO.row n
  rw [← c6, step]; rfl
theorem bnc (I : Sx.Interp) (O : OO) (hO : O = oo) (R : OB) (hR : R = bO) : ag I Tryz.prog 96 (au [.v] false (a3d O R)) := by
 refine o8 (ave I O hO R hR) (by kernel_rfl) (fun ds => match ds with | [.v (.int .i64 n)] => [⟨Nat × Int × List Int, [], [(3, 5, .ints .u8 [])], fun B x => [(0, .v (.int .i64 x.2.1)), (3, .row B)], fun B x => [(B, .own 5 (.ints .u8 x.2.2))], fun x => x.1 ≤ 9 ∧ 0 ≤ x.2.1 ∧ x.2.1 < 128 ^ (10 - x.1) ∧ x.2.1 ≤ 9223372036854775807 ∧ x.2.2.length = x.1 ∧ x.2.2 ++ ac8 (10 - x.1) x.2.1 = R.row n, fun x => x.2.1.toNat, 0⟩] | _ => []) Tryz.func96 (by kernel_rfl) (by kernel_rfl) rfl Tryz.ntmps96 (by decide) ?_ ?_
 ·intro ds p bs F h
  unfold a3d at h
  split at h
  ·rename_i n
   simp only [zsI, zpI] at h
   obtain ⟨_, _, rfl⟩ := h
   kernel_rfl
  ·cases h
 ·intro ds bs F hl h
  unfold a3d at h
  split at h
  ·rename_i n
   simp only [zsI, zpI, zaT] at h
   obtain ⟨h0, _, rfl⟩ := h
   exact Eq.mpr (by kernel_rfl) (blw O R n (dn O hO) hR (by first | exact h0 | (simp only [zaT]; exact h0)))
  ·cases h
def boq (O : OO) (R : OB) (f : FuncId) : Option Sx.Spec := match f with
 | 95 => some (au [.ro .u8, .ro .u8] false (avd O R))
 | 96 => some (au [.v] false (a3d O R))
 | f => bml O R f
theorem am2 (I : Sx.Interp) (O : OO) (hO : O = oo) (R : OB) (hR : R = bO) : ∀ f s, boq O R f = some s → ag I Tryz.prog f s := by
 intro f s h
 unfold boq at h
 split at h
 · cases h; exact bfe I O hO R hR
 · cases h; exact bnc I O hO R hR
 ·exact ave I O hO R hR _ s h
def a1b (O : OO) (R : OB) (ds : List Dt) : zG := match ds with
 | [.ints b, .v (.int .i64 n)] => some ((Nat.ble b.length 1000000) && (iLe n 9223372036854775807), [], fun _ => ⟨[.row 1], [(1, .own 5 (.ints .u8 (bif iLt n 0 then b else b ++ R.row n)))]⟩)
 | _ => none
theorem blh (O : OO) (R : OB) (b : List Int) (n : Int) (F : FO O) (hr : R = bO) (h0 : (Nat.ble b.length 1000000) = true) (h1 : (iLe n 9223372036854775807) = true) :
 If (iLt n 0) (If (b.length.ble 1073741824 && Nat.ble 0 1073741824) (True ∧ EqI (app b []) (bif iLt n 0 then b else app b (R.row n)) ∧ True) False) (If (iLe 0 n && iLe n 9223372036854775807) (If (b.length.ble 1073741824 && (R.row n).length.ble 1073741824) (True ∧ EqI (app b (R.row n)) (bif iLt n 0 then b else app b (R.row n)) ∧ True) False) False) := by
 have h0' := zbL h0
 have hl := aml hr n
 refine ae (fun h => ziT (by simp only [zaT, Nat.ble_eq]; omega) ⟨trivial, by rw [h]; simp [EqI, Sx.app], trivial⟩) (fun h => ?_)
 rw [h]
 simp only [Bz, Sx.af.n] at h
 exact ziT (by simp only [Bz, Sx.af.n] at h1 ⊢; omega) (ziT (by simp only [zaT, Nat.ble_eq]; omega) ⟨trivial, rfl, trivial⟩)
theorem bn3 (I : Sx.Interp) (O : OO) (hO : O = oo) (R : OB) (hR : R = bO) : ag I Tryz.prog 63 (au [.ro .u8, .v] false (a1b O R)) := by
 refine o8 (am2 I O hO R hR) (by kernel_rfl) (fun _ => []) Tryz.func63 (by kernel_rfl) (by kernel_rfl) rfl Tryz.ntmps63 (by decide) ?_ ?_
 ·intro ds p bs F h
  unfold a1b at h
  split at h
  ·rename_i b n
   simp only [zsI, zpI] at h
   obtain ⟨_, _, rfl⟩ := h
   kernel_rfl
  ·cases h
 ·intro ds bs F hl h
  unfold a1b at h
  split at h
  ·rename_i b n
   simp only [zsI, zpI, zaT] at h
   obtain ⟨⟨h0, h1⟩, _, rfl⟩ := h
   exact Eq.mpr (by kernel_rfl) (blh O R b n (dn O hO) hR (by first | exact h0 | (simp only [zaT]; exact h0)) (by first | exact h1 | (simp only [zaT]; exact h1)))
  ·cases h
def bmi (O : OO) (R : OB) (ds : List Dt) : zG := match ds with
 | [.ints b, .v (.agg a)] => some ((Nat.ble b.length 1000000) && (O.isH a), [], fun _ => ⟨[.row 1], [(1, .own 5 (.ints .u8 (b ++ jo (fnA a) 32)))]⟩)
 | _ => none
def au2 (O : OO) (R : OB) (ds : List Dt) : zG := match ds with
 | [.ints b] => some ((Nat.ble b.length 1000000), [], fun _ => ⟨[.ptr 1 0], [(1, .blk 108 [.row 2, .v (.bool false)]), (2, .own 5 (.ints .u8 b))]⟩)
 | _ => none
theorem bhh (O : OO) (R : OB) (b : List Int) (F : FO O) (hr : R = bO) (h0 : (Nat.ble b.length 1000000) = true) :
 If (b.length.ble 1099511627776) (True ∧ vB false = vB false ∧ EqI b b ∧ True) False := by
 have h0' := zbL h0
 exact ziT (by simp only [Nat.ble_eq]; omega) ⟨trivial, rfl, rfl, trivial⟩
theorem bhg (I : Sx.Interp) (O : OO) (hO : O = oo) (R : OB) (hR : R = bO) : ag I Tryz.prog 46 (au [.ro .u8] false (au2 O R)) := by
 refine o8 (am2 I O hO R hR) (by kernel_rfl) (fun _ => []) Tryz.func46 (by kernel_rfl) (by kernel_rfl) rfl Tryz.ntmps46 (by decide) ?_ ?_
 ·intro ds p bs F h
  unfold au2 at h
  split at h
  ·rename_i b
   simp only [zsI, zpI] at h
   obtain ⟨_, _, rfl⟩ := h
   kernel_rfl
  ·cases h
 ·intro ds bs F hl h
  unfold au2 at h
  split at h
  ·rename_i b
   simp only [zsI, zpI, zaT] at h
   obtain ⟨h0, _, rfl⟩ := h
   exact Eq.mpr (by kernel_rfl) (bhh O R b (dn O hO) hR (by first | exact h0 | (simp only [zaT]; exact h0)))
  ·cases h
def amy (O : OO) (R : OB) (ds : List Dt) : zG := match ds with
 | [.node [.ints l, .v (.bool no)]] => some (true, [], fun _ => ⟨[], [(0, .blk 108 [.row 2, .v (.bool true)]), (2, .own 5 (.ints .u8 []))]⟩)
 | _ => none
theorem bc5 (O : OO) (R : OB) (l : List Int) (no : Bool) (F : FO O) (hr : R = bO) :
 True ∧ vB true = vB true ∧ EqI [] [] ∧ True := by
 exact ⟨trivial, rfl, rfl, trivial⟩
theorem bab (I : Sx.Interp) (O : OO) (hO : O = oo) (R : OB) (hR : R = bO) : ag I Tryz.prog 81 (au [.obj 108 [.ro .u8, .v]] true (amy O R)) := by
 refine zn (am2 I O hO R hR) (by kernel_rfl) (fun _ => []) (fun ds => match ds with | [.node [.ints l, .v (.bool no)]] => [(100000, 5, .ints .u8 [])] | _ => []) Tryz.func81 (by kernel_rfl) (by kernel_rfl) rfl Tryz.ntmps81 (by decide) ?_ ?_
 ·intro ds p bs F h
  unfold amy at h
  split at h
  ·rename_i l no
   simp only [zsI, zpI] at h
   obtain ⟨_, _, rfl⟩ := h
   kernel_rfl
  ·cases h
 ·intro ds bs F hl h
  unfold amy at h
  split at h
  ·rename_i l no
   simp only [zsI, zpI, zaT] at h
   obtain ⟨_, _, rfl⟩ := h
   exact Eq.mpr (by kernel_rfl) (bc5 O R l no (dn O hO) hR )
  ·cases h
def bk3 (O : OO) (R : OB) (f : FuncId) : Option Sx.Spec := match f with
 | 81 => some (au [.obj 108 [.ro .u8, .v]] true (amy O R))
 | f => boq O R f
theorem atg (I : Sx.Interp) (O : OO) (hO : O = oo) (R : OB) (hR : R = bO) : ∀ f s, bk3 O R f = some s → ag I Tryz.prog f s := by
 intro f s h
 unfold bk3 at h
 split at h
 · cases h; exact bab I O hO R hR
 ·exact am2 I O hO R hR _ s h
def aso (O : OO) (R : OB) (ds : List Dt) : zG := match ds with
 | [.node [.ints l, .v (.bool no)], .v (.int .i64 n)] => some ((Nat.ble l.length 1000000) && (iLe 0 n), [], fun _ => ⟨[.row 2], [(2, .own 5 (.ints .u8 (bif (bif no then true else iLt (l.length : Int) n) then [] else l.take n.toNat))), (0, .blk 108 [.row 3, .v (.bool (bif (bif no then true else iLt (l.length : Int) n) then true else no))]), (3, .ro (.ints .u8 (bif (bif no then true else iLt (l.length : Int) n) then [] else l.drop n.toNat)))]⟩)
 | _ => none
theorem bga (O : OO) (R : OB) (l : List Int) (no : Bool) (n : Int) (F : FO O) (hr : R = bO) (h0 : (Nat.ble l.length 1000000) = true) (h1 : (iLe 0 n) = true) :
 let T1 := True ∧ EqI [] (bif bif no then true else iLt (iOf l.length) n then [] else List.take n.toNat l) ∧ vB true = vB (bif bif no then true else iLt (iOf l.length) n then true else no) ∧ EqI [] (bif bif no then true else iLt (iOf l.length) n then [] else List.drop n.toNat l) ∧ True;
  let T2 := List.take (iy n.toNat 0) (List.drop 0 l); If no T1 (If (iLt (iOf (af.ints .u8 l).n) n) T1 (If (iLe 0 0 && iLe 0 n && iLe n (iOf (af.ints .u8 l).n)) (If
  (T2.length.ble 1099511627776) (If (iLe 0 n && iLe n (iOf (af.ints .u8 l).n) && iLe (iOf (af.ints .u8 l).n) (iOf (af.ints .u8 l).n)) (True ∧ EqI T2 (bif bif no then true else
  iLt (iOf l.length) n then [] else List.take n.toNat l) ∧ vB no = vB (bif bif no then true else iLt (iOf l.length) n then true else no) ∧ EqI (List.take (iy (iOf l.length).toNat
  n.toNat) (List.drop n.toNat l)) (bif bif no then true else iLt (iOf l.length) n then [] else List.drop n.toNat l) ∧ True) False) False) False)) := by
 conv => zeta
 have h0' := zbL h0
 simp only [Bz, Sx.af.n] at h1
 cases no with
 | true => exact ⟨trivial, rfl, rfl, rfl, trivial⟩
 | false =>
  refine Sx.if_false rfl (ae (fun h => ?_) (fun h => ?_))
  ·have h' : iLt (iOf l.length) n = true := h
   rw [h']
   exact ⟨trivial, rfl, rfl, rfl, trivial⟩
  ·have h' : iLt (iOf l.length) n = false := h
   rw [h']
   simp only [zUn, Bz, Sx.af.n] at h'
   refine ziT (by simp only [zUn, Bz, Sx.af.n]; omega) (ziT (by simp only [zUn, Nat.ble_eq, List.length_take, List.length_drop]; omega) (ziT (by simp only [zUn, Bz, Sx.af.n]; omega) ⟨trivial, ?_, rfl, ?_, trivial⟩))
   ·simp [EqI, zUn]
   ·show List.take ((l.length : Int).toNat - n.toNat) (List.drop n.toNat l) = List.drop n.toNat l
    rw [ztN, List.take_of_length_le]
    simp
theorem bju (I : Sx.Interp) (O : OO) (hO : O = oo) (R : OB) (hR : R = bO) : ag I Tryz.prog 82 (au [.obj 108 [.ro .u8, .v], .v] true (aso O R)) := by
 refine zn (atg I O hO R hR) (by kernel_rfl) (fun _ => []) (fun ds => match ds with | [.node [.ints l, .v (.bool no)], .v (.int .i64 n)] => [(4, 5, .ints .u8 []), (100000, 5, .ints .u8 [])] | _ => []) Tryz.func82 (by kernel_rfl) (by kernel_rfl) rfl Tryz.ntmps82 (by decide) ?_ ?_
 ·intro ds p bs F h
  unfold aso at h
  split at h
  ·rename_i l no n
   simp only [zsI, zpI] at h
   obtain ⟨_, _, rfl⟩ := h
   kernel_rfl
  ·cases h
 ·intro ds bs F hl h
  unfold aso at h
  split at h
  ·rename_i l no n
   simp only [zsI, zpI, zaT] at h
   obtain ⟨⟨h0, h1⟩, _, rfl⟩ := h
   exact Eq.mpr (by kernel_rfl) (bga O R l no n (dn O hO) hR (by first | exact h0 | (simp only [zaT]; exact h0)) (by first | exact h1 | (simp only [zaT]; exact h1)))
  ·cases h
def avh (O : OO) (R : OB) (ds : List Dt) : zG := match ds with
 | [.node [.v (.int .i64 i)], .node [.node [.ints l, .v (.bool no)]]] => some ((Nat.ble l.length 1000000) && (iLe 0 i && iLe i 9), [], fun _ => ⟨[.v (.bool (wrF l i.toNat))], []⟩)
 | _ => none
theorem biw (O : OO) (R : OB) (i : Int) (l : List Int) (no : Bool) (F : FO O) (hr : R = bO) (h0 : (Nat.ble l.length 1000000) = true) (h1 : (iLe 0 i && iLe i 9) = true) :
 let T1 := vB true = vB (wrF l i.toNat) ∧ True ∧ True; If (iLe (iOf (af.ints .u8 l).n) i) T1 (If (iLt 8 i) T1 (If (iLt 0 i) (If (iLe 0 i && i.toNat.blt l.length) (If (true &&
  Nat.beq 1 1 && i.toNat.blt l.length) (vB (ax (l.getD i.toNat 0) 0) = vB (wrF l i.toNat) ∧ True ∧ True) False) False) (vB false = vB (wrF l i.toNat) ∧ True ∧ True))) := by
 conv => zeta
 have h0' := zbL h0
 simp only [Bz, Sx.af.n] at h1
 have hb1 : Nat.ble l.length i.toNat = iLe (iOf (af.ints u8 l).n) i := by
  rw [Bool.eq_iff_iff]; simp only [zUn, Bz, Sx.af.n]; omega
 have hb2 : Nat.blt 8 i.toNat = iLt 8 i := by
  rw [Bool.eq_iff_iff]; simp only [Nat.blt_eq, Bz, Sx.af.n]; omega
 have hb3 : Nat.blt 0 i.toNat = iLt 0 i := by
  rw [Bool.eq_iff_iff]; simp only [Nat.blt_eq, Bz, Sx.af.n]; omega
 have hw : wrF l i.toNat = bif (bif iLe (iOf (af.ints u8 l).n) i then true else iLt 8 i) then true else bif iLt 0 i then ax (l.getD i.toNat 0) 0 else false := by
  unfold wrF dgt; rw [hb1, hb2, hb3]
 rw [hw]
 refine ae (fun h => by rw [h]; exact ⟨rfl, trivial, trivial⟩) (fun h => ?_)
 rw [h]
 refine ae (fun h2 => by rw [h2]; exact ⟨rfl, trivial, trivial⟩) (fun h2 => ?_)
 rw [h2]
 refine ae (fun h3 => ?_) (fun h3 => by rw [h3]; exact ⟨rfl, trivial, trivial⟩)
 rw [h3]
 simp only [zUn, Bz, Sx.af.n] at h
 have hlt : i.toNat.blt l.length = true := by rw [Nat.blt_eq]; omega
 exact ziT (by rw [hlt, Bool.and_true]; simp only [Bz, Sx.af.n]; omega) (ziT (by rw [hlt]; rfl) ⟨rfl, trivial, trivial⟩)
theorem bfv (I : Sx.Interp) (O : OO) (hO : O = oo) (R : OB) (hR : R = bO) : ag I Tryz.prog 80 (au [.robj 3 [.v], .robj 77 [.robj 108 [.ro .u8, .v]]] false (avh O R)) := by
 refine o8 (atg I O hO R hR) (by kernel_rfl) (fun _ => []) Tryz.func80 (by kernel_rfl) (by kernel_rfl) rfl Tryz.ntmps80 (by decide) ?_ ?_
 ·intro ds p bs F h
  unfold avh at h
  split at h
  ·rename_i i l no
   simp only [zsI, zpI] at h
   obtain ⟨_, _, rfl⟩ := h
   kernel_rfl
  ·cases h
 ·intro ds bs F hl h
  unfold avh at h
  split at h
  ·rename_i i l no
   simp only [zsI, zpI, zaT] at h
   obtain ⟨⟨h0, h1⟩, _, rfl⟩ := h
   exact Eq.mpr (by kernel_rfl) (biw O R i l no (dn O hO) hR (by first | exact h0 | (simp only [zaT]; exact h0)) (by first | exact h1 | (simp only [zaT]; exact h1)))
  ·cases h
def bon (O : OO) (R : OB) (f : FuncId) : Option Sx.Spec := match f with
 | 82 => some (au [.obj 108 [.ro .u8, .v], .v] true (aso O R))
 | 80 => some (au [.robj 3 [.v], .robj 77 [.robj 108 [.ro .u8, .v]]] false (avh O R))
 | f => bk3 O R f
theorem am0 (I : Sx.Interp) (O : OO) (hO : O = oo) (R : OB) (hR : R = bO) : ∀ f s, bon O R f = some s → ag I Tryz.prog f s := by
 intro f s h
 unfold bon at h
 split at h
 · cases h; exact bju I O hO R hR
 · cases h; exact bfv I O hO R hR
 ·exact atg I O hO R hR _ s h
def a3q (O : OO) (R : OB) (ds : List Dt) : zG := match ds with
 | [.node [.ints l, .v (.bool no)]] => some ((Nat.ble l.length 1000000), [], fun _ => ⟨[.v (.int .i64 (R.nV l))], [(0, .blk 108 [.row 2, .v (.bool (bif R.nOk l then no else true))]), (2, .ro (.ints .u8 (R.nR l)))]⟩)
 | _ => none
theorem bk6 (O : OO) (R : OB) (l : List Int) (no : Bool) (F : FO O) (hr : R = bO) (h0 : (Nat.ble l.length 1000000) = true) :
 (∃ (x : Nat × Int), (x.1 ≤ 9 ∧ o5 l (iy 10 x.1) x.1 x.2 = o5 l 10 0 0) ∧ (vI 0 = vI x.2 ∧ SV.fn (Fn.func 80) [SV.ptr 192 0, SV.ptr 64 0] = SV.fn
  (Fn.func 80) [SV.ptr 192 0, SV.ptr 64 0] ∧ True) ∧ vI 0 = vI (iOf x.1) ∧ vB no = vB no ∧ EqI l l ∧ True) ∧ ∀ (x : Nat × Int), let T1 := i64.wrap (iOf (BitVec.ofInt 64 x.2 ||| BitVec.ofInt 64 (i64.wrap (aa9 (i64.wrap ((l.getD (iOf x.1).toNat 0).tmod 128)) (df 2 (min (i64.wrap (aa9 7 (iOf x.1))).toNat 64))))).toNat);
  let T2 := i64.wrap (dh (iOf x.1) 1); x.1 ≤ 9 ∧ o5 l (iy 10 x.1) x.1 x.2 = o5 l 10 0 0 → If (l.length.ble 1000000 && (iLe 0 (iOf x.fst) && iLe (iOf x.fst) 9)) (If
  (wrF l (iOf x.1).toNat) (vI 0 = vI (R.nV l) ∧ True ∧ vB true = vB (bif R.nOk l then no else true) ∧ EqI [] (R.nR l) ∧ True) (If (iLe 0 (iOf x.fst) && (iOf x.1).toNat.blt l.length)
  (If (true && Nat.beq 1 1 && (iOf x.1).toNat.blt l.length) (If (iLt (i64.wrap (aa9 7 (iOf x.fst))) 0) False (If (iLt (l.getD (iOf x.fst).toNat 0) 128) (If (iLe 0
  (i64.wrap (dh (iOf x.fst) 1)) && iLe (i64.wrap (dh (iOf x.fst) 1)) (iOf (af.ints .u8 l).n) && iLe (iOf (af.ints .u8 l).n) (iOf (af.ints .u8 l).n)) (vI T1 =
  vI (R.nV l) ∧ True ∧ vB no = vB (bif R.nOk l then no else true) ∧ EqI (List.take (iy (iOf l.length).toNat T2.toNat) (List.drop T2.toNat l)) (R.nR l) ∧ True) False) (∃ (x' : Nat ×
  Int), (x'.1 ≤ 9 ∧ o5 l (iy 10 x'.1) x'.1 x'.2 = o5 l 10 0 0) ∧ (iy 10 x'.1).succ ≤ iy 10 x.1 ∧ (vI T1 = vI x'.2 ∧ SV.fn (Fn.func 80) [SV.ptr
  192 0, SV.ptr 64 0] = SV.fn (Fn.func 80) [SV.ptr 192 0, SV.ptr 64 0] ∧ True) ∧ vI T2 = vI (iOf x'.1) ∧ vB no = vB no ∧ EqI l l ∧ True))) False)
  False)) False := by
 conv => zeta
 subst hr
 have h0' := zbL h0
 rw [show bO.nOk l = (o5 l 10 0 0).1 from rfl, show bO.nV l = (o5 l 10 0 0).2.1 from rfl, show bO.nR l = bif (o5 l 10 0 0).1 then l.drop (o5 l 10 0 0).2.2 else [] from rfl]
 obtain ⟨G, hG⟩ : ∃ G, o5 l 10 0 0 = G := ⟨_, rfl⟩
 rw [hG]
 refine ⟨⟨(0, 0), ⟨by decide, hG⟩, ⟨rfl, rfl, trivial⟩, rfl, rfl, rfl, trivial⟩, fun x ⟨c1, c2⟩ => ?_⟩
 obtain ⟨j, v⟩ := x
 replace c1 : j ≤ 9 := c1
 replace c2 : o5 l (10 - j) j v = G := c2
 have ej : (iOf j).toNat = j := ztN j
 have w7 : i64.wrap (aa9 7 (iOf j)) = ((7 * j : Nat) : Int) := by simp only [zUn]; rw [IntKind.wrap_i64]; omega
 have w1 : i64.wrap (dh (iOf j) 1) = ((j + 1 : Nat) : Int) := by simp only [zUn]; rw [IntKind.wrap_i64]; omega
 have step : o5 l (10 - j) j v = bif wrF l j then (false, 0, 0) else bif iLt (dgt l j) 128 then (true, orD v (dgt l j) j, j + 1) else o5 l (10 - (j + 1)) (j + 1) (orD v (dgt l j) j) := by
  rw [show 10 - j = (10 - (j + 1)) + 1 by omega]; rfl
 have hd : i64.wrap ((l.getD j 0).tmod 128) = (dgt l j).tmod 128 := by
  show i64.wrap ((l.getD j 0).tmod 128) = (l.getD j 0).tmod 128
  have h1 := Int.tmod_lt_of_pos (l.getD j 0) (show (0 : Int) < 128 by decide)
  have h2 := Int.lt_tmod_of_pos (l.getD j 0) (show (0 : Int) < 128 by decide)
  rw [IntKind.wrap_i64]; omega
 have hor : i64.wrap (iOf (BitVec.ofInt 64 v ||| BitVec.ofInt 64 (i64.wrap (aa9 (i64.wrap ((l.getD (iOf j).toNat 0).tmod 128)) (df 2 (min (i64.wrap (aa9 7 (iOf j))).toNat 64))))).toNat) = orD v (dgt l j) j := by
  rw [ej, w7, hd, ztN]; rfl
 refine ziT (by simp only [zUn, Bz, Sx.af.n]; omega) ?_
 show If (wrF l (iOf j).toNat) _ _
 rw [ej]
 refine ae (fun h => ?_) (fun h => ?_)
 ·rw [h] at step
  rw [← c2, step]
  exact ⟨rfl, trivial, rfl, rfl, trivial⟩
 ·have hw : j < l.length ∧ j ≤ 8 := by
   unfold wrF at h
   cases h1 : Nat.ble l.length j with
   | true => rw [h1] at h; cases h
   | false =>
    rw [h1] at h
    cases h2 : Nat.blt 8 j with
    | true => rw [h2] at h; cases h
    | false =>
     refine ⟨?_, ?_⟩
     ·rcases Nat.lt_or_ge j l.length with h3 | h3
      ·exact h3
      ·rw [Nat.ble_eq_true_of_le h3] at h1; cases h1
     ·rcases Nat.lt_or_ge 8 j with h3 | h3
      ·rw [show Nat.blt 8 j = true from by rw [Nat.blt_eq]; exact h3] at h2; cases h2
      ·exact h3
  have hlt : j.blt l.length = true := by rw [Nat.blt_eq]; exact hw.1
  rw [h] at step
  refine ziT (by show (iLe 0 (iOf j) && (iOf j).toNat.blt l.length) = true; rw [ej, hlt, Bool.and_true]; simp only [zUn, Bz, Sx.af.n]; omega) (ziT (by show (true && Nat.beq 1 1 && (iOf j).toNat.blt l.length) = true; rw [ej, hlt]; rfl) (Sx.if_false (by show iLt (i64.wrap (aa9 7 (iOf j))) 0 = false; rw [w7]; simp only [Bz, Sx.af.n]; omega) ?_))
  show If (iLt (l.getD (iOf j).toNat 0) 128) _ _
  rw [ej]
  refine ae (fun h5 => ?_) (fun h5 => ?_)
  ·have h5' : iLt (dgt l j) 128 = true := h5
   rw [h5'] at step
   refine ziT ?_ ?_
   ·show (iLe 0 (i64.wrap (dh (iOf j) 1)) && iLe (i64.wrap (dh (iOf j) 1)) (iOf (af.ints u8 l).n) && iLe (iOf (af.ints u8 l).n) (iOf (af.ints u8 l).n)) = true
    rw [w1]; simp only [zUn, Bz, Sx.af.n]; omega
   ·rw [← c2, step]
    refine ⟨congrArg (Value.int i64) hor, trivial, rfl, ?_, trivial⟩
    show List.take (iy (iOf l.length).toNat (i64.wrap (dh (iOf j) 1)).toNat) (List.drop (i64.wrap (dh (iOf j) 1)).toNat l) = List.drop (j + 1) l
    rw [w1, ztN, show (iOf l.length).toNat = l.length from ztN _, List.take_of_length_le]
    simp [iy]
  ·have h5' : iLt (dgt l j) 128 = false := h5
   rw [h5'] at step
   refine ⟨(j + 1, orD v (dgt l j) j), ⟨by show j + 1 ≤ 9; omega, ?_⟩, ?_, ⟨congrArg (Value.int i64) hor, rfl, trivial⟩, ?_, rfl, rfl, trivial⟩
   ·rw [← c2, step]; rfl
   ·show 10 - (j + 1) < 10 - j; omega
   ·show Value.int i64 (i64.wrap (dh (iOf j) 1)) = Value.int i64 (iOf (j + 1))
    rw [w1]; rfl
theorem bmc (I : Sx.Interp) (O : OO) (hO : O = oo) (R : OB) (hR : R = bO) : ag I Tryz.prog 47 (au [.obj 108 [.ro .u8, .v]] true (a3q O R)) := by
 refine zn (am0 I O hO R hR) (by kernel_rfl) (fun ds => match ds with | [.node [.ints l, .v (.bool no)]] => [⟨Nat × Int, [0, 1, 4, 5], [], fun B x => [(3, .v (.int .i64 x.2))], fun B x => [(192, .blk 3 [.v (.int .i64 (x.1 : Int))])], fun x => x.1 ≤ 9 ∧ o5 l (10 - x.1) x.1 x.2 = o5 l 10 0 0, fun x => 10 - x.1, 0⟩] | _ => []) (fun ds => match ds with | [.node [.ints l, .v (.bool no)]] => [(100000, 5, .ints .u8 [])] | _ => []) Tryz.func47 (by kernel_rfl) (by kernel_rfl) rfl Tryz.ntmps47 (by decide) ?_ ?_
 ·intro ds p bs F h
  unfold a3q at h
  split at h
  ·rename_i l no
   simp only [zsI, zpI] at h
   obtain ⟨_, _, rfl⟩ := h
   kernel_rfl
  ·cases h
 ·intro ds bs F hl h
  unfold a3q at h
  split at h
  ·rename_i l no
   simp only [zsI, zpI, zaT] at h
   obtain ⟨h0, _, rfl⟩ := h
   exact Eq.mpr (by kernel_rfl) (bk6 O R l no (dn O hO) hR (by first | exact h0 | (simp only [zaT]; exact h0)))
  ·cases h
def bn2 (O : OO) (R : OB) (ds : List Dt) : zG := match ds with
 | [.node [.ints l, .v (.bool no)]] => some ((Nat.ble l.length 1000000), [], fun _ => ⟨[.v (.agg (AV (hsh l no)))], [(0, .blk 108 [.row 2, .v (.bool (bov l no))]), (2, .ro (.ints .u8 (bpi l no)))]⟩)
 | _ => none
def at1 (O : OO) (R : OB) (ds : List Dt) : zG := match ds with
 | [.node [.ints l, .v (.bool no)]] => some (true, [], fun _ => ⟨[.v (.int .i64 (l.length : Int))], []⟩)
 | _ => none
theorem bi4 (O : OO) (R : OB) (l : List Int) (no : Bool) (F : FO O) (hr : R = bO) :
 vI (iOf l.length) = vI (iOf l.length) ∧ True ∧ True := by
 exact ⟨rfl, trivial, trivial⟩
theorem bf3 (I : Sx.Interp) (O : OO) (hO : O = oo) (R : OB) (hR : R = bO) : ag I Tryz.prog 50 (au [.robj 108 [.ro .u8, .v]] false (at1 O R)) := by
 refine o8 (am0 I O hO R hR) (by kernel_rfl) (fun _ => []) Tryz.func50 (by kernel_rfl) (by kernel_rfl) rfl Tryz.ntmps50 (by decide) ?_ ?_
 ·intro ds p bs F h
  unfold at1 at h
  split at h
  ·rename_i l no
   simp only [zsI, zpI] at h
   obtain ⟨_, _, rfl⟩ := h
   kernel_rfl
  ·cases h
 ·intro ds bs F hl h
  unfold at1 at h
  split at h
  ·rename_i l no
   simp only [zsI, zpI, zaT] at h
   obtain ⟨_, _, rfl⟩ := h
   exact Eq.mpr (by kernel_rfl) (bi4 O R l no (dn O hO) hR )
  ·cases h
def a1r (O : OO) (R : OB) (ds : List Dt) : zG := match ds with
 | [.node [.ints l, .v (.bool no)]] => some (true, [], fun _ => ⟨[.v (.bool (!no))], []⟩)
 | _ => none
theorem bk5 (O : OO) (R : OB) (l : List Int) (no : Bool) (F : FO O) (hr : R = bO) :
 (vB !no) = vB !no ∧ True ∧ True := by
 exact ⟨rfl, trivial, trivial⟩
theorem blp (I : Sx.Interp) (O : OO) (hO : O = oo) (R : OB) (hR : R = bO) : ag I Tryz.prog 48 (au [.robj 108 [.ro .u8, .v]] false (a1r O R)) := by
 refine o8 (am0 I O hO R hR) (by kernel_rfl) (fun _ => []) Tryz.func48 (by kernel_rfl) (by kernel_rfl) rfl Tryz.ntmps48 (by decide) ?_ ?_
 ·intro ds p bs F h
  unfold a1r at h
  split at h
  ·rename_i l no
   simp only [zsI, zpI] at h
   obtain ⟨_, _, rfl⟩ := h
   kernel_rfl
  ·cases h
 ·intro ds bs F hl h
  unfold a1r at h
  split at h
  ·rename_i l no
   simp only [zsI, zpI, zaT] at h
   obtain ⟨_, _, rfl⟩ := h
   exact Eq.mpr (by kernel_rfl) (bk5 O R l no (dn O hO) hR )
  ·cases h
def bf5 (O : OO) (R : OB) (f : FuncId) : Option Sx.Spec := match f with
 | 63 => some (au [.ro .u8, .v] false (a1b O R))
 | 46 => some (au [.ro .u8] false (au2 O R))
 | 47 => some (au [.obj 108 [.ro .u8, .v]] true (a3q O R))
 | 50 => some (au [.robj 108 [.ro .u8, .v]] false (at1 O R))
 | 48 => some (au [.robj 108 [.ro .u8, .v]] false (a1r O R))
 | f => bon O R f
theorem ahf (I : Sx.Interp) (O : OO) (hO : O = oo) (R : OB) (hR : R = bO) : ∀ f s, bf5 O R f = some s → ag I Tryz.prog f s := by
 intro f s h
 unfold bf5 at h
 split at h
 · cases h; exact bn3 I O hO R hR
 · cases h; exact bhg I O hO R hR
 · cases h; exact bmc I O hO R hR
 · cases h; exact bf3 I O hO R hR
 · cases h; exact blp I O hO R hR
 ·exact am0 I O hO R hR _ s h
end Go.Proofs.YtgekiddgdjeaiaaGreat
