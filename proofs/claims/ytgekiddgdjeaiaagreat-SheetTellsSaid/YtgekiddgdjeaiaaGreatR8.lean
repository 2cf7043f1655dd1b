/- The other reading of code (corsnedref08), by the symbolic machine (printed by genR8.py; VCs by VcTool). -/
import Derived.Test.YtgekiddgdjeaiaaGreatRn
namespace Go.Proofs.YtgekiddgdjeaiaaGreat
open Go.RowKit Go.Lib Ckp Cfd Cpd Sx
open IntKind (i64 u64 u8 i32 u32)
set_option linter.unusedVariables false
set_option linter.unusedSimpArgs false
set_option maxRecDepth 1000000
set_option maxHeartbeats 4000000

theorem Int.pow_le_pow_right_of_le {j m : Nat} (h : j ≤ m) : (2 : Int) ^ (7 * j) ≤ 2 ^ (7 * m) := by
 exact_mod_cast Nat.pow_le_pow_right (show 0 < 2 by decide) (show 7 * j ≤ 7 * m by omega)
theorem ar5 : ∀ (f : Nat) (n : Int), n < 128 ^ (f + 1) → ac8 (f + 1) n = ac8 (f + 2) n
 | f, n, h => by
  by_cases c : n < 128
  ·rw [ade f c, ade (f + 1) c]
  ·rw [ai5 f (by omega), ai5 (f + 1) (by omega)]
   cases f with
   | zero => simp at h; omega
   | succ f =>
    rw [ar5 f (n / 128) (by
     rw [Int.pow_succ] at h
     omega)]
def aci (O : OO) (R : OB) (M : Int) (ds : List Dt) : zG := match ds with
 | [.v (.int .i64 n)] => some (iLe 0 n && iLt n M, [], fun _ => ⟨[.row 0], [(0, .own 5 (.ints .u8 (R.row n)))]⟩)
 | _ => none
def bo2 (O : OO) (R : OB) (M M' : Int) (f : FuncId) : Option Sx.Spec := match f with
 | 97 => some (au [.v] false (aci O R M))
 | f => none
theorem bgi (I : Sx.Interp) (O : OO) (hO : O = oo) (R : OB) (hR : R = bO) (M M' : Int) (hM : ∀ n : Int, 0 ≤ n → n < M' → n < 128 ∨ n / 128 < M) (hM' : M' ≤ 9223372036854775808) (ih : ag I Tryz.prog 97 (au [.v] false (aci O R M))) : ∀ f s, bo2 O R M M' f = some s → ag I Tryz.prog f s := by
 intro f s h
 unfold bo2 at h
 split at h
 · cases h; exact ih
 ·cases h
def aiq (O : OO) (R : OB) (M M' : Int) (ds : List Dt) : zG := match ds with
 | [.v (.int .i64 n)] => some ((iLe 0 n) && (iLt n M'), [], fun _ => ⟨[.row 0], [(0, .own 5 (.ints .u8 (R.row n)))]⟩)
 | _ => none
theorem bbr (O : OO) (R : OB) (M M' : Int) (n : Int) (F : FO O) (hr : R = bO) (hM : ∀ n : Int, 0 ≤ n → n < M' → n < 128 ∨ n / 128 < M) (hM' : M' ≤ 9223372036854775808) (h0 : (iLe 0 n) = true) (h1 : (iLt n M') = true) :
 let T1 := R.row (i64.wrap (n.tdiv 128)); If (iLt n 128) (True ∧ EqI [u8.wrap n] (R.row n) ∧ True) (If (iLe 0 (i64.wrap (n.tdiv 128)) && iLt (i64.wrap
  (n.tdiv 128)) M) (If ((jd (ay 1 T1.length) 1).ble 140737488355328 && (ay 1 T1.length).ble 9223372036854775807) (True ∧ EqI (app [u8.wrap (dh (u8.wrap (n.tmod
  128)) 128)] T1) (R.row n) ∧ True) False) False) := by
 conv => zeta
 simp only [Bz, Sx.af.n] at h0 h1
 subst hr
 have hrw : ∀ m : Int, bO.row m = ac8 10 m := fun _ => rfl
 refine ae (fun c => ?_) (fun c => ?_)
 ·simp only [Bz, Sx.af.n] at c
  refine ⟨trivial, ?_, trivial⟩
  have w : u8.wrap n = n := by rw [IntKind.wrap_u8]; omega
  show [u8.wrap n] = bO.row n
  rw [w, hrw, ade 9 c]
 ·simp only [Bz, Sx.af.n] at c
  have hq : n.tdiv 128 = n / 128 := Int.tdiv_eq_ediv_of_nonneg h0
  have hm : n.tmod 128 = n % 128 := Int.tmod_eq_emod_of_nonneg h0
  have w1 : i64.wrap (n.tdiv 128) = n / 128 := by rw [hq, IntKind.wrap_i64]; omega
  have w2 : u8.wrap (dh (u8.wrap (n.tmod 128)) 128) = n % 128 + 128 := by simp only [zUn]; rw [hm, IntKind.wrap_u8, IntKind.wrap_u8]; omega
  have hM1 : n / 128 < M := by
   rcases hM n h0 h1 with h | h
   ·omega
   ·exact h
  have hl := aml (R := bO) rfl (n / 128)
  rw [w1, w2]
  refine ziT (by simp only [Bz, Sx.af.n]; omega) (ziT (by simp only [Bz, Sx.af.n, zUn]; omega) ⟨trivial, ?_, trivial⟩)
  show (n % 128 + 128) :: bO.row (n / 128) = bO.row n
  rw [hrw, hrw, ai5 9 (n := n) (by omega), ar5 8 (n / 128) (show n / 128 < 9223372036854775808 by omega)]
theorem bam (I : Sx.Interp) (O : OO) (hO : O = oo) (R : OB) (hR : R = bO) (M M' : Int) (hM : ∀ n : Int, 0 ≤ n → n < M' → n < 128 ∨ n / 128 < M) (hM' : M' ≤ 9223372036854775808) (ih : ag I Tryz.prog 97 (au [.v] false (aci O R M))) : ag I Tryz.prog 97 (au [.v] false (aiq O R M M')) := by
 refine o8 (bgi I O hO R hR M M' hM hM' ih) (by kernel_rfl) (fun _ => []) Tryz.func97 (by kernel_rfl) (by kernel_rfl) rfl Tryz.ntmps97 (by decide) ?_ ?_
 ·intro ds p bs F h
  unfold aiq at h
  split at h
  ·rename_i n
   simp only [zsI, zpI] at h
   obtain ⟨_, _, rfl⟩ := h
   kernel_rfl
  ·cases h
 ·intro ds bs F hl h
  unfold aiq at h
  split at h
  ·rename_i n
   simp only [zsI, zpI, zaT] at h
   obtain ⟨⟨h0, h1⟩, _, rfl⟩ := h
   exact Eq.mpr (by kernel_rfl) (bbr O R M M' n (dn O hO) hR hM hM' (by first | exact h0 | (simp only [zaT]; exact h0)) (by first | exact h1 | (simp only [zaT]; exact h1)))
  ·cases h
def ail (O : OO) (R : OB) (ds : List Dt) : zG := match ds with
 | [.v (.int .i64 n)] => some ((iLe 0 n) && (iLt n 128), [], fun _ => ⟨[.row 0], [(0, .own 5 (.ints .u8 (R.row n)))]⟩)
 | _ => none
theorem bdj (O : OO) (R : OB) (n : Int) (F : FO O) (hr : R = bO) (h0 : (iLe 0 n) = true) (h1 : (iLt n 128) = true) :
 If (iLt n 128) (True ∧ EqI [u8.wrap n] (R.row n) ∧ True) False := by
 simp only [Bz, Sx.af.n] at h0 h1
 subst hr
 have w : u8.wrap n = n := by rw [IntKind.wrap_u8]; omega
 refine ziT (by simp only [Bz, Sx.af.n]; exact h1) ⟨trivial, ?_, trivial⟩
 show [u8.wrap n] = ac8 10 n
 rw [w, ade 9 h1]
theorem bct (I : Sx.Interp) (O : OO) (hO : O = oo) (R : OB) (hR : R = bO) : ag I Tryz.prog 97 (au [.v] false (ail O R)) := by
 refine o8 (ahf I O hO R hR) (by kernel_rfl) (fun _ => []) Tryz.func97 (by kernel_rfl) (by kernel_rfl) rfl Tryz.ntmps97 (by decide) ?_ ?_
 ·intro ds p bs F h
  unfold ail at h
  split at h
  ·rename_i n
   simp only [zsI, zpI] at h
   obtain ⟨_, _, rfl⟩ := h
   kernel_rfl
  ·cases h
 ·intro ds bs F hl h
  unfold ail at h
  split at h
  ·rename_i n
   simp only [zsI, zpI, zaT] at h
   obtain ⟨⟨h0, h1⟩, _, rfl⟩ := h
   exact Eq.mpr (by kernel_rfl) (bdj O R n (dn O hO) hR (by first | exact h0 | (simp only [zaT]; exact h0)) (by first | exact h1 | (simp only [zaT]; exact h1)))
  ·cases h
theorem a8g (O : OO) (R : OB) (M M' : Int) : aiq O R M M' = aci O R M' := by
 funext ds
 unfold aiq aci
 split <;> rfl
theorem bkf (I : Sx.Interp) (O : OO) (hO : O = oo) (R : OB) (hR : R = bO) {M M' : Int} (hM : ∀ n : Int, 0 ≤ n → n < M' → n < 128 ∨ n / 128 < M) (hM' : M' ≤ 9223372036854775808) (ih : ag I Tryz.prog 97 (au [.v] false (aci O R M))) : ag I Tryz.prog 97 (au [.v] false (aci O R M')) := by
 have k := bam I O hO R hR M M' hM hM' ih
 rwa [a8g] at k
theorem bom (I : Sx.Interp) (O : OO) (hO : O = oo) (R : OB) (hR : R = bO) : ag I Tryz.prog 97 (au [.v] false (aci O R 128)) := by
 have k := bct I O hO R hR
 have e : ail O R = aci O R 128 := by
  funext ds
  unfold ail aci
  split <;> rfl
 rwa [e] at k
theorem bfk (I : Sx.Interp) (O : OO) (hO : O = oo) (R : OB) (hR : R = bO) : ag I Tryz.prog 97 (au [.v] false (aci O R 9223372036854775808)) := by
 have up := fun (M M' : Int) (h : M' = M * 128) (h0 : 0 ≤ M) (hM' : M' ≤ 9223372036854775808) ih => bkf I O hO R hR (M := M) (M' := M') (fun n n0 n1 => .inr (by omega)) hM' ih
 exact up 72057594037927936 _ (by decide) (by decide) (by decide) (up 562949953421312 _ (by decide) (by decide) (by decide) (up 4398046511104 _ (by decide) (by decide) (by decide) (up 34359738368 _ (by decide) (by decide) (by decide) (up 268435456 _ (by decide) (by decide) (by decide) (up 2097152 _ (by decide) (by decide) (by decide) (up 16384 _ (by decide) (by decide) (by decide) (up 128 _ (by decide) (by decide) (by decide) (bom I O hO R hR))))))))
def bmy (O : OO) (R : OB) (f : FuncId) : Option Sx.Spec := match f with
 | 97 => some (au [.v] false (aci O R 9223372036854775808))
 | f => bf5 O R f
theorem atx (I : Sx.Interp) (O : OO) (hO : O = oo) (R : OB) (hR : R = bO) : ∀ f s, bmy O R f = some s → ag I Tryz.prog f s := by
 intro f s h
 unfold bmy at h
 split at h
 · cases h; exact bfk I O hO R hR
 ·exact ahf I O hO R hR _ s h
def am5 (O : OO) (R : OB) (ds : List Dt) : zG := match ds with
 | [.ints b] => some ((Nat.ble b.length 1000000), [], fun _ => ⟨[.ptr 1 0], [(1, .blk 84 [.row 2, .v (.bool false)]), (2, .own 5 (.ints .u8 b))]⟩)
 | _ => none
theorem bdv (O : OO) (R : OB) (b : List Int) (F : FO O) (hr : R = bO) (h0 : (Nat.ble b.length 1000000) = true) :
 If ((jd (ay 0 b.length) 1).ble 140737488355328 && (ay 0 b.length).ble 9223372036854775807) (True ∧ vB false = vB false ∧ EqI (app [] b) b ∧ True) False := by
 have h0' := zbL h0
 exact ziT (by simp only [Bz, Sx.af.n, zUn]; omega) ⟨trivial, rfl, rfl, trivial⟩
theorem bbf (I : Sx.Interp) (O : OO) (hO : O = oo) (R : OB) (hR : R = bO) : ag I Tryz.prog 51 (au [.ro .u8] false (am5 O R)) := by
 refine o8 (atx I O hO R hR) (by kernel_rfl) (fun _ => []) Tryz.func51 (by kernel_rfl) (by kernel_rfl) rfl Tryz.ntmps51 (by decide) ?_ ?_
 ·intro ds p bs F h
  unfold am5 at h
  split at h
  ·rename_i b
   simp only [zsI, zpI] at h
   obtain ⟨_, _, rfl⟩ := h
   kernel_rfl
  ·cases h
 ·intro ds bs F hl h
  unfold am5 at h
  split at h
  ·rename_i b
   simp only [zsI, zpI, zaT] at h
   obtain ⟨h0, _, rfl⟩ := h
   exact Eq.mpr (by kernel_rfl) (bdv O R b (dn O hO) hR (by first | exact h0 | (simp only [zaT]; exact h0)))
  ·cases h
def alz (O : OO) (R : OB) (ds : List Dt) : zG := match ds with
 | [.node [.ints l, .v (.bool no)]] => some (true, [], fun _ => ⟨[], [(0, .blk 84 [.row 2, .v (.bool true)]), (2, .own 5 (.ints .u8 []))]⟩)
 | _ => none
theorem bem (O : OO) (R : OB) (l : List Int) (no : Bool) (F : FO O) (hr : R = bO) :
 True ∧ vB true = vB true ∧ EqI [] [] ∧ True := by
 exact ⟨trivial, rfl, rfl, trivial⟩
theorem a8z (I : Sx.Interp) (O : OO) (hO : O = oo) (R : OB) (hR : R = bO) : ag I Tryz.prog 83 (au [.obj 84 [.ro .u8, .v]] true (alz O R)) := by
 refine zn (atx I O hO R hR) (by kernel_rfl) (fun _ => []) (fun ds => match ds with | [.node [.ints l, .v (.bool no)]] => [(100000, 5, .ints .u8 [])] | _ => []) Tryz.func83 (by kernel_rfl) (by kernel_rfl) rfl Tryz.ntmps83 (by decide) ?_ ?_
 ·intro ds p bs F h
  unfold alz at h
  split at h
  ·rename_i l no
   simp only [zsI, zpI] at h
   obtain ⟨_, _, rfl⟩ := h
   kernel_rfl
  ·cases h
 ·intro ds bs F hl h
  unfold alz at h
  split at h
  ·rename_i l no
   simp only [zsI, zpI, zaT] at h
   obtain ⟨_, _, rfl⟩ := h
   exact Eq.mpr (by kernel_rfl) (bem O R l no (dn O hO) hR )
  ·cases h
def bn9 (O : OO) (R : OB) (f : FuncId) : Option Sx.Spec := match f with
 | 83 => some (au [.obj 84 [.ro .u8, .v]] true (alz O R))
 | 51 => some (au [.ro .u8] false (am5 O R))
 | f => bmy O R f
theorem avw (I : Sx.Interp) (O : OO) (hO : O = oo) (R : OB) (hR : R = bO) : ∀ f s, bn9 O R f = some s → ag I Tryz.prog f s := by
 intro f s h
 unfold bn9 at h
 split at h
 · cases h; exact a8z I O hO R hR
 · cases h; exact bbf I O hO R hR
 ·exact atx I O hO R hR _ s h
def avk (O : OO) (R : OB) (ds : List Dt) : zG := match ds with
 | [.ints b, .v (.int .i64 n)] => some ((Nat.ble b.length 1000000) && (iLe n 9223372036854775807), [], fun _ => ⟨[.row 1], [(1, .own 5 (.ints .u8 (bif iLt n 0 then b else b ++ R.row n)))]⟩)
 | _ => none
theorem bfy (O : OO) (R : OB) (b : List Int) (n : Int) (F : FO O) (hr : R = bO) (h0 : (Nat.ble b.length 1000000) = true) (h1 : (iLe n 9223372036854775807) = true) :
 If ((jd (ay 0 b.length) 1).ble 140737488355328 && (ay 0 b.length).ble 9223372036854775807) (If (iLe 0 n) (If (iLe 0 n && iLt n 9223372036854775808) (If ((jd (ay (app [] b).length (R.row n).length) 1).ble 140737488355328 && (ay (app [] b).length (R.row n).length).ble 9223372036854775807) (True ∧ EqI (app (app [] b) (R.row n)) (bif iLt n 0 then b else app b (R.row n)) ∧ True) False) False) (True ∧ EqI (app [] b) (bif iLt n 0 then b else app b (R.row n)) ∧ True)) False := by
 have h0' := zbL h0
 have hl := aml hr n
 simp only [Bz, Sx.af.n] at h1
 refine ziT (by simp only [Bz, Sx.af.n, zUn]; omega) (ae (fun h => ?_) (fun h => ?_))
 ·simp only [Bz, Sx.af.n] at h
  rw [show iLt n 0 = false by simp only [Bz, Sx.af.n]; omega]
  exact ziT (by simp only [Bz, Sx.af.n]; omega) (ziT (by simp only [Bz, Sx.af.n, zUn, List.nil_append]; omega) ⟨trivial, rfl, trivial⟩)
 ·simp only [Bz, Sx.af.n] at h
  rw [show iLt n 0 = true by simp only [Bz, Sx.af.n]; omega]
  exact ⟨trivial, rfl, trivial⟩
theorem bix (I : Sx.Interp) (O : OO) (hO : O = oo) (R : OB) (hR : R = bO) : ag I Tryz.prog 65 (au [.ro .u8, .v] false (avk O R)) := by
 refine o8 (avw I O hO R hR) (by kernel_rfl) (fun _ => []) Tryz.func65 (by kernel_rfl) (by kernel_rfl) rfl Tryz.ntmps65 (by decide) ?_ ?_
 ·intro ds p bs F h
  unfold avk at h
  split at h
  ·rename_i b n
   simp only [zsI, zpI] at h
   obtain ⟨_, _, rfl⟩ := h
   kernel_rfl
  ·cases h
 ·intro ds bs F hl h
  unfold avk at h
  split at h
  ·rename_i b n
   simp only [zsI, zpI, zaT] at h
   obtain ⟨⟨h0, h1⟩, _, rfl⟩ := h
   exact Eq.mpr (by kernel_rfl) (bfy O R b n (dn O hO) hR (by first | exact h0 | (simp only [zaT]; exact h0)) (by first | exact h1 | (simp only [zaT]; exact h1)))
  ·cases h
def aug (O : OO) (R : OB) (ds : List Dt) : zG := match ds with
 | [.node [.ints l, .v (.bool no)]] => some ((Nat.ble l.length 1000000) && (byB l), [], fun _ => ⟨[.v (.int .i64 (R.nV l))], [(0, .blk 84 [.row 2, .v (.bool (bif R.nOk l then no else true))]), (2, .ro (.ints .u8 (R.nR l)))]⟩)
 | _ => none
theorem bhw (O : OO) (R : OB) (l : List Int) (no : Bool) (F : FO O) (hr : R = bO) (h0 : (Nat.ble l.length 1000000) = true) (h1 : (byB l) = true) :
 let T1 := vI 0 = vI (R.nV l) ∧ True ∧ vB true = vB (bif R.nOk l then no else true) ∧ EqI [] (R.nR l) ∧ True; (∃ (x : Nat × Int × Int), (x.1 ≤ 9 ∧ o5 l (iy 10 x.1) x.1 x.2.1 =
  o5 l 10 0 0 ∧ (di x.2.1 0).NonNeg ∧ (di (df 2 (jd 7 x.1)) (dh x.2.1 1)).NonNeg ∧ (x.1 ≤ 8 → x.2.2 = df 2 (jd 7 x.1))) ∧ (vI 0 = vI x.2.1 ∧ vI 1 = vI x.2.2 ∧ vI 0 =
  vI (iOf x.1) ∧ True) ∧ vB no = vB no ∧ EqI l l ∧ True) ∧ ∀ (x : Nat × Int × Int), let T2 := If (iLe 0 (i64.wrap (dh (iOf x.fst) 1)) && iLe (i64.wrap (dh (iOf x.fst) 1)) (iOf (af.ints .u8 l).n) && iLe (iOf (af.ints .u8 l).n) (iOf (af.ints .u8 l).n)) (vI (i64.wrap (dh x.2.1 (i64.wrap (aa9 ((i64.wrap (l.getD (iOf x.1).toNat 0)).tmod 128) x.2.2)))) = vI (R.nV l) ∧ True ∧ vB no = vB (bif R.nOk l then no else true) ∧ EqI (List.take (iy (iOf l.length).toNat (i64.wrap (dh (iOf x.1) 1)).toNat) (List.drop (i64.wrap (dh (iOf x.1) 1)).toNat l)) (R.nR l) ∧ True) False;
  let T3 := i64.wrap (dh x.2.1 (i64.wrap (aa9 ((i64.wrap (l.getD (iOf x.1).toNat 0)).tmod 128) x.2.2))); let T4 := iLt (i64.wrap (l.getD (iOf x.fst).toNat 0)) 128;
  x.1 ≤ 9 ∧ o5 l (iy 10 x.1) x.1 x.2.1 = o5 l 10 0 0 ∧ (di x.2.1 0).NonNeg ∧ (di (df 2 (jd 7 x.1)) (dh x.2.1 1)).NonNeg ∧ (x.1 ≤ 8 → x.2.2 = df 2 (jd 7 x.1)) → If
  (iLt (iOf x.fst) (iOf (af.ints .u8 l).n)) (If (iLt (iOf x.fst) 9) (If (iLe 0 (iOf x.fst) && (iOf x.1).toNat.blt l.length) (If (true && Nat.beq 1 1 && (iOf x.1).toNat.blt l.length)
  (If (ax (i64.wrap (l.getD (iOf x.1).toNat 0)) 0) (If (iLt 0 (iOf x.fst)) T1 (If T4 T2 (∃ (x' : Nat × Int × Int), (x'.1 ≤ 9 ∧ o5 l (iy 10 x'.1) x'.1 x'.2.1 = o5 l 10
  0 0 ∧ (di x'.2.1 0).NonNeg ∧ (di (df 2 (jd 7 x'.1)) (dh x'.2.1 1)).NonNeg ∧ (x'.1 ≤ 8 → x'.2.2 = df 2 (jd 7 x'.1))) ∧ (iy 10 x'.1).succ ≤ iy 10 x.1 ∧ (vI T3 = vI
  x'.2.1 ∧ vI (i64.wrap (aa9 128 x.2.2)) = vI x'.2.2 ∧ vI (i64.wrap (dh (iOf x.1) 1)) = vI (iOf x'.1) ∧ True) ∧ vB no = vB no ∧ EqI l l ∧ True))) (If T4 T2 (∃ (x' :
  Nat × Int × Int), (x'.1 ≤ 9 ∧ o5 l (iy 10 x'.1) x'.1 x'.2.1 = o5 l 10 0 0 ∧ (di x'.2.1 0).NonNeg ∧ (di (df 2 (jd 7 x'.1)) (dh x'.2.1 1)).NonNeg ∧ (x'.1 ≤ 8 → x'.2.2
  = df 2 (jd 7 x'.1))) ∧ (iy 10 x'.1).succ ≤ iy 10 x.1 ∧ (vI T3 = vI x'.2.1 ∧ vI (i64.wrap (aa9 128 x.2.2)) = vI x'.2.2 ∧ vI (i64.wrap (dh (iOf x.1) 1)) =
  vI (iOf x'.1) ∧ True) ∧ vB no = vB no ∧ EqI l l ∧ True))) False) False) T1) T1 := by
 conv => zeta
 subst hr
 have h0' := zbL h0
 have hV : bO.nV l = (o5 l 10 0 0).2.1 := rfl
 have hK : bO.nOk l = (o5 l 10 0 0).1 := rfl
 have hRR : bO.nR l = bif (o5 l 10 0 0).1 then l.drop (o5 l 10 0 0).2.2 else [] := rfl
 refine ⟨⟨(0, 0, 1), ⟨by decide, rfl, (show (0 : Int) ≤ 0 by decide), (show (0 : Int) < 2 ^ (7 * 0) by decide), fun _ => rfl⟩, ⟨rfl, rfl, rfl, trivial⟩, (by first | rfl | trivial), (by first | rfl | trivial), trivial⟩, ?_⟩
 rintro ⟨j, v, p⟩ ⟨c1, c2, c3, c4, c5⟩
 replace c1 : j ≤ 9 := c1
 replace c2 : o5 l (10 - j) j v = o5 l 10 0 0 := c2
 replace c3 : 0 ≤ v := c3
 replace c4 : v < 2 ^ (7 * j) := c4
 replace c5 : j ≤ 8 → p = 2 ^ (7 * j) := c5
 have ej : (iOf j).toNat = j := ztN j
 have step : o5 l (10 - j) j v = bif wrF l j then (false, 0, 0) else bif iLt (dgt l j) 128 then (true, orD v (dgt l j) j, j + 1) else o5 l (10 - (j + 1)) (j + 1) (orD v (dgt l j) j) := by
  rw [show 10 - j = (10 - (j + 1)) + 1 by omega]; rfl
 have bad : wrF l j = true → o5 l 10 0 0 = (false, 0, 0) := fun h => by rw [← c2, step, h]; rfl
 dsimp only
 refine ae (fun d => ?_) (fun d => ?_)
 ·simp only [Bz, Sx.af.n, zUn] at d
  refine ae (fun d2 => ?_) (fun d2 => ?_)
  ·simp only [Bz, Sx.af.n, zUn] at d2
   have hj8 : j ≤ 8 := by omega
   have hjl : j < l.length := by omega
   have hd : 0 ≤ dgt l j ∧ dgt l j < 256 := by
    unfold dgt
    rw [List.getD_eq_getElem?_getD, List.getElem?_eq_getElem hjl]
    exact aau.1 h1 _ (List.getElem_mem hjl)
   have wd : i64.wrap (l.getD j 0) = dgt l j := by
    show i64.wrap (dgt l j) = dgt l j
    rw [IntKind.wrap_i64]; omega
   have wj0 : i64.wrap (dh (iOf j) 1) = iOf (j + 1) := by simp only [zUn]; rw [IntKind.wrap_i64]; omega
   have wj : (i64.wrap (dh (iOf j) 1)).toNat = j + 1 := by rw [wj0]; exact ztN _
   have hmod : (dgt l j).tmod 128 = dgt l j % 128 := Int.tmod_eq_emod_of_nonneg hd.1
   have hp1 : (2 : Int) ^ (7 * j) ≤ 2 ^ (7 * 8) := Int.pow_le_pow_right_of_le hj8
   have hp2 : dgt l j % 128 * 2 ^ (7 * j) ≤ 127 * 2 ^ (7 * j) := Int.mul_le_mul_of_nonneg_right (by omega) (Int.pow_nonneg (by decide))
   have hp3 : 0 ≤ dgt l j % 128 * 2 ^ (7 * j) := Int.mul_nonneg (by omega) (Int.pow_nonneg (by decide))
   have hvn : i64.wrap (dh v (i64.wrap (aa9 ((dgt l j).tmod 128) p))) = orD v (dgt l j) j := by
    rw [a0t hj8 c3 c4 hd, c5 hj8, hmod]
    simp only [zUn]
    rw [IntKind.wrap_i64, IntKind.wrap_i64]
    omega
   have hblt : j.blt l.length = true := by rw [Nat.blt_eq]; exact hjl
   rw [ej, wd, hblt]
   refine ziT (by simp only [Bz, Sx.af.n, zUn]; exact ⟨by omega, trivial⟩) (ziT rfl (ae (fun z => ?_) (fun z => ?_)))
   ·simp only [ab9] at z
    refine ae (fun z2 => ?_) (fun z2 => ?_)
    ·simp only [Bz, Sx.af.n, zUn] at z2
     have E := bad (by
      cases q : wrF l j
      ·exact absurd z ((a7r.1 q).2.2 (by omega))
      ·rfl)
     exact ⟨congrArg _ (by rw [hV, E]), trivial, congrArg _ (by rw [hK, E]; rfl), (by rw [hRR, E]; rfl), trivial⟩
    ·simp only [Bz, Sx.af.n, zUn] at z2
     have hw : wrF l j = false := a7r.2 ⟨hjl, hj8, fun h => by omega⟩
     refine ae (fun t => ?_) (fun t => ?_)
     ·have w5 : List.take (iy (iOf l.length).toNat (j + 1)) (List.drop (j + 1) l) = l.drop (j + 1) := by simp only [zUn, ztN]; exact List.take_of_length_le (by rw [List.length_drop]; omega)
      have E : o5 l 10 0 0 = (true, orD v (dgt l j) j, j + 1) := by rw [← c2, step, hw, show iLt (dgt l j) 128 = true from t]; rfl
      rw [wj0, hvn, show (iOf (j + 1)).toNat = j + 1 from ztN _, w5]
      refine ziT (by simp only [Bz, Sx.af.n, zUn]; omega) ⟨congrArg _ (by rw [hV, E]), trivial, congrArg _ (by rw [hK, E]; rfl), (by rw [hRR, E]; rfl), trivial⟩
     ·have E : o5 l (10 - (j + 1)) (j + 1) (orD v (dgt l j) j) = o5 l 10 0 0 := by rw [← c2, step, hw, show iLt (dgt l j) 128 = false from t]; rfl
      have hp8 := p7 j
      have ho := a0t hj8 c3 c4 hd
      refine ⟨(j + 1, orD v (dgt l j) j, i64.wrap (aa9 128 p)), ⟨by omega, E, ?_, ?_, fun h => ?_⟩, by simp only [zUn]; omega, ⟨congrArg _ hvn, rfl, congrArg _ wj0, trivial⟩, (by first | rfl | trivial), (by first | rfl | trivial), trivial⟩
      ·show 0 ≤ orD v (dgt l j) j
       rw [ho]
       have : 0 ≤ dgt l j % 128 * 2 ^ (7 * j) := Int.mul_nonneg (by omega) (Int.pow_nonneg (by decide))
       omega
      ·show orD v (dgt l j) j < 2 ^ (7 * (j + 1))
       rw [ho, hp8]
       have : dgt l j % 128 * 2 ^ (7 * j) ≤ 127 * 2 ^ (7 * j) := Int.mul_le_mul_of_nonneg_right (by omega) (Int.pow_nonneg (by decide))
       omega
      ·show i64.wrap (aa9 128 p) = 2 ^ (7 * (j + 1))
       have h : j + 1 ≤ 8 := h
       rw [c5 hj8, hp8]
       simp only [zUn]
       have : (2 : Int) ^ (7 * j) ≤ 2 ^ (7 * 7) := Int.pow_le_pow_right_of_le (show j ≤ 7 by omega)
       rw [IntKind.wrap_i64]
       have : 0 < (2 : Int) ^ (7 * j) := Int.pow_pos (by decide)
       omega
   ·simp only [akg] at z
    have hw : wrF l j = false := a7r.2 ⟨hjl, hj8, fun _ => z⟩
    refine ae (fun t => ?_) (fun t => ?_)
    ·have w5 : List.take (iy (iOf l.length).toNat (j + 1)) (List.drop (j + 1) l) = l.drop (j + 1) := by simp only [zUn, ztN]; exact List.take_of_length_le (by rw [List.length_drop]; omega)
     have E : o5 l 10 0 0 = (true, orD v (dgt l j) j, j + 1) := by rw [← c2, step, hw, show iLt (dgt l j) 128 = true from t]; rfl
     rw [wj0, hvn, show (iOf (j + 1)).toNat = j + 1 from ztN _, w5]
     refine ziT (by simp only [Bz, Sx.af.n, zUn]; omega) ⟨congrArg _ (by rw [hV, E]), trivial, congrArg _ (by rw [hK, E]; rfl), (by rw [hRR, E]; rfl), trivial⟩
    ·have E : o5 l (10 - (j + 1)) (j + 1) (orD v (dgt l j) j) = o5 l 10 0 0 := by rw [← c2, step, hw, show iLt (dgt l j) 128 = false from t]; rfl
     have hp8 := p7 j
     have ho := a0t hj8 c3 c4 hd
     refine ⟨(j + 1, orD v (dgt l j) j, i64.wrap (aa9 128 p)), ⟨by omega, E, ?_, ?_, fun h => ?_⟩, by simp only [zUn]; omega, ⟨congrArg _ hvn, rfl, congrArg _ wj0, trivial⟩, (by first | rfl | trivial), (by first | rfl | trivial), trivial⟩
     ·show 0 ≤ orD v (dgt l j) j
      rw [ho]
      have : 0 ≤ dgt l j % 128 * 2 ^ (7 * j) := Int.mul_nonneg (by omega) (Int.pow_nonneg (by decide))
      omega
     ·show orD v (dgt l j) j < 2 ^ (7 * (j + 1))
      rw [ho, hp8]
      have : dgt l j % 128 * 2 ^ (7 * j) ≤ 127 * 2 ^ (7 * j) := Int.mul_le_mul_of_nonneg_right (by omega) (Int.pow_nonneg (by decide))
      omega
     ·show i64.wrap (aa9 128 p) = 2 ^ (7 * (j + 1))
      have h : j + 1 ≤ 8 := h
      rw [c5 hj8, hp8]
      simp only [zUn]
      have : (2 : Int) ^ (7 * j) ≤ 2 ^ (7 * 7) := Int.pow_le_pow_right_of_le (show j ≤ 7 by omega)
      rw [IntKind.wrap_i64]
      have : 0 < (2 : Int) ^ (7 * j) := Int.pow_pos (by decide)
      omega
  ·simp only [Bz, Sx.af.n, zUn] at d2
   have E := bad (by
    cases q : wrF l j
    ·have := (a7r.1 q).2.1; omega
    ·rfl)
   exact ⟨congrArg _ (by rw [hV, E]), trivial, congrArg _ (by rw [hK, E]; rfl), (by rw [hRR, E]; rfl), trivial⟩
 ·simp only [Bz, Sx.af.n, zUn] at d
  have E := bad (by
   cases q : wrF l j
   ·have := (a7r.1 q).1; omega
   ·rfl)
  exact ⟨congrArg _ (by rw [hV, E]), trivial, congrArg _ (by rw [hK, E]; rfl), (by rw [hRR, E]; rfl), trivial⟩
theorem bja (I : Sx.Interp) (O : OO) (hO : O = oo) (R : OB) (hR : R = bO) : ag I Tryz.prog 52 (au [.obj 84 [.ro .u8, .v]] true (aug O R)) := by
 refine zn (avw I O hO R hR) (by kernel_rfl) (fun ds => match ds with | [.node [.ints l, .v (.bool no)]] => [⟨Nat × Int × Int, [0, 1], [], fun B x => [(3, .v (.int .i64 x.2.1)), (4, .v (.int .i64 x.2.2)), (5, .v (.int .i64 (x.1 : Nat)))], fun B x => [], fun x => x.1 ≤ 9 ∧ o5 l (10 - x.1) x.1 x.2.1 = o5 l 10 0 0 ∧ 0 ≤ x.2.1 ∧ x.2.1 < 2 ^ (7 * x.1) ∧ (x.1 ≤ 8 → x.2.2 = 2 ^ (7 * x.1)), fun x => 10 - x.1, 0⟩] | _ => []) (fun ds => match ds with | [.node [.ints l, .v (.bool no)]] => [(100000, 5, .ints .u8 [])] | _ => []) Tryz.func52 (by kernel_rfl) (by kernel_rfl) rfl Tryz.ntmps52 (by decide) ?_ ?_
 ·intro ds p bs F h
  unfold aug at h
  split at h
  ·rename_i l no
   simp only [zsI, zpI] at h
   obtain ⟨_, _, rfl⟩ := h
   kernel_rfl
  ·cases h
 ·intro ds bs F hl h
  unfold aug at h
  split at h
  ·rename_i l no
   simp only [zsI, zpI, zaT] at h
   obtain ⟨⟨h0, h1⟩, _, rfl⟩ := h
   exact Eq.mpr (by kernel_rfl) (bhw O R l no (dn O hO) hR (by first | exact h0 | (simp only [zaT]; exact h0)) (by first | exact h1 | (simp only [zaT]; exact h1)))
  ·cases h
def bou (O : OO) (R : OB) (ds : List Dt) : zG := match ds with
 | [.node [.ints l, .v (.bool no)]] => some (true, [], fun _ => ⟨[.v (.bool (!no))], []⟩)
 | _ => none
def bfw (O : OO) (R : OB) (ds : List Dt) : zG := match ds with
 | [.node [.ints l, .v (.bool no)]] => some (true, [], fun _ => ⟨[.v (.int .i64 (l.length : Int))], []⟩)
 | _ => none
def bnl (O : OO) (R : OB) (f : FuncId) : Option Sx.Spec := match f with
 | 65 => some (au [.ro .u8, .v] false (avk O R))
 | 52 => some (au [.obj 84 [.ro .u8, .v]] true (aug O R))
 | f => bn9 O R f
theorem a14 (I : Sx.Interp) (O : OO) (hO : O = oo) (R : OB) (hR : R = bO) : ∀ f s, bnl O R f = some s → ag I Tryz.prog f s := by
 intro f s h
 unfold bnl at h
 split at h
 · cases h; exact bix I O hO R hR
 · cases h; exact bja I O hO R hR
 ·exact avw I O hO R hR _ s h
end Go.Proofs.YtgekiddgdjeaiaaGreat
