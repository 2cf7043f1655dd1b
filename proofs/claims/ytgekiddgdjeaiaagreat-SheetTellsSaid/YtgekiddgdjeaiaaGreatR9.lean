/- The rest of the other reading of code (corsnedref08), by the symbolic machine (printed by genR9.py; VCs by VcTool). -/
import Derived.Test.YtgekiddgdjeaiaaGreatR8
namespace Go.Proofs.YtgekiddgdjeaiaaGreat
open Go.RowKit Go.Lib Ckp Cfd Cpd Sx
set_option linter.unusedVariables false
set_option linter.unusedSimpArgs false
set_option maxRecDepth 1000000
set_option maxHeartbeats 4000000
def hk8 (l : List Int) (no : Bool) (k i : Nat) : Int := bif Nat.blt i k then hsh l no i else 0

theorem agc (f : Nat → Int) : ∀ n, (jo f n).length = n
 | 0 => rfl
 | n + 1 => by rw [jo, zlA, agc f n]; rfl
theorem axl (f : Nat → Int) : ∀ {n i : Nat}, i < n → (jo f n)[i]? = some (f i)
 | n + 1, i, h => by
  rw [jo]
  by_cases q : i < n
  ·rw [List.getElem?_append_left (by rw [agc]; exact q)]; exact axl f q
  ·obtain rfl : i = n := by omega
   rw [List.getElem?_append_right (by rw [agc]; exact Nat.le_refl _), agc, Nat.sub_self]; rfl
def ami (O : OO) (R : OB) (ds : List Dt) : zG := match ds with
 | [.node [.ints l, .v (.bool no)], .v (.int .i64 n)] => some ((Nat.ble l.length 1000000) && (iLe 0 n), [], fun _ => ⟨[.row 2], [(2, .own 5 (.ints .u8 (bif (bif no then true else iLt (l.length : Int) n) then [] else l.take n.toNat))), (0, .blk 84 [.row 3, .v (.bool (bif (bif no then true else iLt (l.length : Int) n) then true else no))]), (3, .ro (.ints .u8 (bif (bif no then true else iLt (l.length : Int) n) then [] else l.drop n.toNat)))]⟩)
 | _ => none
theorem bb6 (O : OO) (R : OB) (l : List Int) (no : Bool) (n : Int) (F : FO O) (hr : R = bO) (h0 : (Nat.ble l.length 1000000) = true) (h1 : (iLe 0 n) = true) :
 let T1 := True ∧ EqI [] (bif bif no then true else iLt (iOf l.length) n then [] else List.take n.toNat l) ∧ vB true = vB (bif bif no then true else iLt (iOf l.length) n then true else no) ∧ EqI [] (bif bif no then true else iLt (iOf l.length) n then [] else List.drop n.toNat l) ∧ True;
  let T2 := List.take (iy n.toNat 0) (List.drop 0 l); If no T1 (If (iLt (iOf (af.ints .u8 l).n) n) T1 (If (iLe 0 0 && iLe 0 n && iLe n (iOf (af.ints .u8 l).n)) (If ((jd (ay
  0 T2.length) 1).ble 140737488355328 && (ay 0 T2.length).ble 9223372036854775807) (If (iLe 0 n && iLe n (iOf (af.ints .u8 l).n) && iLe (iOf (af.ints .u8 l).n) (iOf (af.ints
  .u8 l).n)) (True ∧ EqI (app [] T2) (bif bif no then true else iLt (iOf l.length) n then [] else List.take n.toNat l) ∧ vB no = vB (bif bif no then true else iLt (iOf l.length) n
  then true else no) ∧ EqI (List.take (iy (iOf l.length).toNat n.toNat) (List.drop n.toNat l)) (bif bif no then true else iLt (iOf l.length) n then [] else List.drop n.toNat l) ∧
  True) False) False) False)) := by
 conv => zeta
 have h0' := zbL h0
 simp only [Bz, Sx.af.n] at h1
 cases no with
 | true => exact ⟨trivial, rfl, rfl, rfl, trivial⟩
 | false =>
  refine Sx.if_false rfl (ae (fun h => ?_) (fun h => ?_))
  ·have h' : iLt (iOf l.length) n = true := h
   rw [h']
   exact ⟨trivial, rfl, rfl, rfl, trivial⟩
  ·have h' : iLt (iOf l.length) n = false := h
   rw [h']
   simp only [zUn, Bz, Sx.af.n] at h'
   refine ziT (by simp only [zUn, Bz, Sx.af.n]; omega) (ziT (by simp only [zUn, Bz, Sx.af.n, List.length_take, List.length_drop]; omega) (ziT (by simp only [zUn, Bz, Sx.af.n]; omega) ⟨trivial, ?_, rfl, ?_, trivial⟩))
   ·simp [EqI, zUn]
   ·show List.take ((l.length : Int).toNat - n.toNat) (List.drop n.toNat l) = List.drop n.toNat l
    rw [ztN, List.take_of_length_le]
    simp
theorem bdb (I : Sx.Interp) (O : OO) (hO : O = oo) (R : OB) (hR : R = bO) : ag I Tryz.prog 84 (au [.obj 84 [.ro .u8, .v], .v] true (ami O R)) := by
 refine zn (a14 I O hO R hR) (by kernel_rfl) (fun _ => []) (fun ds => match ds with | [.node [.ints l, .v (.bool no)], .v (.int .i64 n)] => [(4, 5, .ints .u8 []), (100000, 5, .ints .u8 [])] | _ => []) Tryz.func84 (by kernel_rfl) (by kernel_rfl) rfl Tryz.ntmps84 (by decide) ?_ ?_
 ·intro ds p bs F h
  unfold ami at h
  split at h
  ·rename_i l no n
   simp only [zsI, zpI] at h
   obtain ⟨_, _, rfl⟩ := h
   kernel_rfl
  ·cases h
 ·intro ds bs F hl h
  unfold ami at h
  split at h
  ·rename_i l no n
   simp only [zsI, zpI, zaT] at h
   obtain ⟨⟨h0, h1⟩, _, rfl⟩ := h
   exact Eq.mpr (by kernel_rfl) (bb6 O R l no n (dn O hO) hR (by first | exact h0 | (simp only [zaT]; exact h0)) (by first | exact h1 | (simp only [zaT]; exact h1)))
  ·cases h
def blu (O : OO) (R : OB) (f : FuncId) : Option Sx.Spec := match f with
 | 84 => some (au [.obj 84 [.ro .u8, .v], .v] true (ami O R))
 | f => bnl O R f
theorem a1v (I : Sx.Interp) (O : OO) (hO : O = oo) (R : OB) (hR : R = bO) : ∀ f s, blu O R f = some s → ag I Tryz.prog f s := by
 intro f s h
 unfold blu at h
 split at h
 · cases h; exact bdb I O hO R hR
 ·exact a14 I O hO R hR _ s h
def bjb (O : OO) (R : OB) (ds : List Dt) : zG := match ds with
 | [.node [.ints l, .v (.bool no)]] => some ((Nat.ble l.length 1000000), [], fun _ => ⟨[.v (.agg (AV (hsh l no)))], [(0, .blk 84 [.row 2, .v (.bool (bov l no))]), (2, .ro (.ints .u8 (bpi l no)))]⟩)
 | _ => none
def am3 (O : OO) (R : OB) (ds : List Dt) : zG := match ds with
 | [.ints b, .v (.agg a)] => some ((Nat.ble b.length 1000000) && (O.isH a), [], fun _ => ⟨[.row 1], [(1, .own 5 (.ints .u8 (b ++ jo (fnA a) 32)))]⟩)
 | _ => none
theorem bbm (O : OO) (R : OB) (b : List Int) (m : Nat → Int) (F : FO O) (hr : R = bO) (h0 : (Nat.ble b.length 1000000) = true) (h1 : (O.isH (AV m)) = true) :
 If ((jd (ay 0 b.length) 1).ble 140737488355328 && (ay 0 b.length).ble 9223372036854775807) ((∃ (x : Nat), x ≤ 32 ∧ (vI 0 = vI (iOf x) ∧ True) ∧ EqI (app [] b) (app b (jo
  (fnA (AV m)) x)) ∧ AV m = AV m ∧ True) ∧ ∀ (x : Nat), let T1 := ay (app b (jo (fnA (AV m)) x)).length 1; x ≤ 32 → If (iLt (iOf x) 32) (If (iLe 0 (iOf x) && (iOf x).toNat.blt 32)
  (If ((ay 0 (jd (iOf x).toNat 1)).blt 32) (If ((jd T1 1).ble 140737488355328 && T1.ble 9223372036854775807) (∃ (x' : Nat), x' ≤ 32 ∧ (iy 32 x').succ ≤ iy 32 x ∧ (vI
  (IntKind.i64.wrap (dh (iOf x) 1)) = vI (iOf x') ∧ True) ∧ EqI (app (app b (jo (fnA (AV m)) x)) [(jo (m) 32).getD (ay 0 (jd (iOf x).toNat 1)) 0]) (app b (jo (fnA (AV m))
  x')) ∧ AV m = AV m ∧ True) False) False) False) (True ∧ EqI (app b (jo (fnA (AV m)) x)) (app b (jo (fnA (AV m)) 32)) ∧ True)) False := by
 conv => zeta
 have h0' := zbL h0
 have ft : jo (fnA (AV m)) 32 = jo m 32 := by kernel_rfl
 obtain ⟨f, hf⟩ : ∃ f, fnA (AV m) = f := ⟨_, rfl⟩
 rw [hf] at ft ⊢
 refine ziT (by simp only [Bz, Sx.af.n, zUn]; omega) ⟨⟨0, Nat.zero_le _, ⟨rfl, trivial⟩, (List.append_nil b).symm, rfl, trivial⟩, fun x hx => ?_⟩
 have hn : (iOf x).toNat = x := by simp only [zUn, ztN]
 have hx1 : ay 0 (jd x 1) = x := by simp only [zUn]; omega
 rw [hn, hx1]
 refine ae (fun d => ?_) (fun d => ?_)
 ·simp only [Bz, Sx.af.n, zUn] at d
  have hx' : x < 32 := by omega
  have hb : x.blt 32 = true := by rw [Nat.blt_eq]; exact hx'
  have w1 : IntKind.i64.wrap (dh (iOf x) 1) = iOf (x + 1) := by simp only [zUn]; rw [IntKind.wrap_i64]; omega
  have e : (jo m 32).getD x 0 = f x := by rw [← ft, List.getD_eq_getElem?_getD, axl _ hx', Option.getD_some]
  rw [hb, w1, e]
  refine ziT (by simp only [Bz, Sx.af.n, zUn]; exact ⟨by omega, trivial⟩) (ziT rfl (ziT (by simp only [Bz, Sx.af.n, zUn, zlA, agc]; omega) ⟨x + 1, hx', by simp only [zUn]; omega, ⟨rfl, trivial⟩, ?_, rfl, trivial⟩))
  show (b ++ jo f x) ++ [f x] = b ++ (jo f x ++ [f x])
  rw [List.append_assoc]
 ·simp only [Bz, Sx.af.n, zUn] at d
  obtain rfl : x = 32 := by omega
  exact ⟨trivial, rfl, trivial⟩
theorem bbk (I : Sx.Interp) (O : OO) (hO : O = oo) (R : OB) (hR : R = bO) : ag I Tryz.prog 114 (au [.ro .u8, .v] false (am3 O R)) := by
 refine o8 (a1v I O hO R hR) (by kernel_rfl) (fun ds => match ds with | [.ints b, .v (.agg a)] => [⟨Nat, [3], [(5, 5, .ints .u8 [])], fun B k => [(5, .row B), (6, .v (.int .i64 (k : Nat)))], fun B k => [(B, .own 5 (.ints .u8 (b ++ jo (fnA a) k)))], fun k => k ≤ 32, fun k => 32 - k, 0⟩] | _ => []) Tryz.func114 (by kernel_rfl) (by kernel_rfl) rfl Tryz.ntmps114 (by decide) ?_ ?_
 ·intro ds p bs F h
  unfold am3 at h
  split at h
  ·rename_i b a
   simp only [zsI, zpI] at h
   obtain ⟨_, _, rfl⟩ := h
   kernel_rfl
  ·cases h
 ·intro ds bs F hl h
  unfold am3 at h
  split at h
  ·rename_i b a
   simp only [zsI, zpI, zaT] at h
   obtain ⟨⟨h0, h1⟩, _, rfl⟩ := h
   obtain ⟨m, rfl⟩ := ay6 (by subst hO; exact h1 : alm a = true)
   exact Eq.mpr (by kernel_rfl) (bbm O R b m (dn O hO) hR (by first | exact h0 | (simp only [zaT]; exact h0)) (by first | exact h1 | (simp only [zaT]; exact h1)))
  ·cases h
def bnt (O : OO) (R : OB) (f : FuncId) : Option Sx.Spec := match f with
 | 114 => some (au [.ro .u8, .v] false (am3 O R))
 | f => blu O R f
theorem asr (I : Sx.Interp) (O : OO) (hO : O = oo) (R : OB) (hR : R = bO) : ∀ f s, bnt O R f = some s → ag I Tryz.prog f s := by
 intro f s h
 unfold bnt at h
 split at h
 · cases h; exact bbk I O hO R hR
 ·exact a1v I O hO R hR _ s h
end Go.Proofs.YtgekiddgdjeaiaaGreat
