/- Shachain's other reading (corsnedref10), by the symbolic machine (printed by genSd.py; VCs by VcTool). -/
import Derived.Test.YtebffdgghkomjaaDoorR9
import Derived.Test.YtebffdgghkomjaaDoorSp
namespace Go.Proofs.YtebffdgghkomjaaDoor
open Go.RowKit Go.Lib Ckp Cfd Cpd Sx
set_option linter.unusedVariables false
set_option linter.unusedSimpArgs false
set_option maxRecDepth 1000000
/-- A kept one's place. -/
def pl8 (x : List Int) : Int := 1048575 - x.getD 0 0
def okA (O : OO) (A : List (List Int)) : Bool := A.all fun x => (Nat.beq x.length 33 && (iLe 0 (x.getD 0 0) && iLe (x.getD 0 0) 1048575)) && O.isH (AV (hK x))
/-- Those below a height, and above it. -/
def rLo (W : OW) (h : Int) (A : List (List Int)) : List (List Int) := A.filter fun x => iLt (W.hg (pl8 x)) h
def rHi (W : OW) (h : Int) (A : List (List Int)) : List (List Int) := A.filter fun x => iLt h (W.hg (pl8 x))
/-- Do those below come of a secret? -/
def rCk (W : OW) (h : Int) (a : Array Value) (A : List (List Int)) : Bool := A.all fun x => bif iLt (W.hg (pl8 x)) h then eqv (AV (W.cm h (pl8 x) a)) (AV (hK x)) else true
def rE (W : OW) (n : Int) (A : List (List Int)) (no : Int) (a : Array Value) : Int := bif (bif iBne no n then true else iLe 1048576 no) then 1 else bif rCk W (W.hg (1048575 - no)) a A then 0 else 23
def rN (W : OW) (n : Int) (A : List (List Int)) (no : Int) (a : Array Value) : Int := bif iBeq (rE W n A no a) 0 then n + 1 else n
def rA (W : OW) (n : Int) (A : List (List Int)) (no : Int) (a : Array Value) : List (List Int) := bif iBeq (rE W n A no a) 0 then rLo W (W.hg (1048575 - no)) A ++ [no :: tabI (fnA a) 32] ++ rHi W (W.hg (1048575 - no)) A else A
/-- Does one come to a place? -/
def cov8 (W : OW) (p q : Int) : Bool := iBeq (p.fdiv (2 ^ (W.hg p).toNat)) (q.fdiv (2 ^ (W.hg p).toNat))
def rFi (W : OW) (A : List (List Int)) (q : Int) : Nat → Nat → Nat
 | 0, i => i
 | m + 1, i => bif cov8 W (pl8 (A.getD i [])) q then i else rFi W A q m (i + 1)
def rGB (W : OW) (n no : Int) (A : List (List Int)) : Bool := bif (bif iLt no 0 then true else iLe n no) then false else Nat.blt (rFi W A (1048575 - no) A.length 0) A.length
def rGF (W : OW) (n no : Int) (A : List (List Int)) (i : Nat) : Int := bif rGB W n no A then W.cm (W.hg (pl8 (A.getD (rFi W A (1048575 - no) A.length 0) []))) (1048575 - no) (AV (hK (A.getD (rFi W A (1048575 - no) A.length 0) []))) i else 0
def rBy (A : List (List Int)) (n : Nat) : List Int := (A.take n).flatMap fun x => tabI (hK x) 32
/-- The last number below n of a height; -1: there is none. -/
def rLast (n h : Int) : Int := bif rdS n h.toNat then 1048575 - lstP n h else -1
/-- None of the last j has the height. -/
structure LastI (W : OW) (n h j : Int) : Prop where
 lo : 0 ≤ j ∧ j ≤ n
 no : ∀ i, 0 ≤ i → i < j → W.hg (1048576 - n + i) ≠ h

theorem bit0 (p : Int) (q : Nat) : iBeq (IntKind.i64.wrap (iOf (BitVec.ofInt 64 (p.fdiv (iPow 2 q)) &&& BitVec.ofInt 64 1).toNat)) 0 = !(bitP p q) := by
 have h : (BitVec.ofInt 64 (p.fdiv (iPow 2 q)) &&& BitVec.ofInt 64 1).toNat ≤ 1 := by
  rw [BitVec.toNat_and]; exact Nat.le_trans Nat.and_le_right (by decide)
 show _ = !(IntKind.i64.wrap (((BitVec.ofInt 64 (p.fdiv (iPow 2 q)) &&& BitVec.ofInt 64 1).toNat : Nat) : Int) == 1)
 generalize (BitVec.ofInt 64 (p.fdiv (iPow 2 q)) &&& BitVec.ofInt 64 1).toNat = x at *
 have : x = 0 ∨ x = 1 := by omega
 rcases this with rfl | rfl <;> decide
/-- A height by its bits. -/
theorem hg_bits {O : OO} {W : OW} (hw : W = wO O) {p : Int} {k : Nat} (h0 : 0 ≤ p) (h1 : p < 1048576) (hk : k ≤ 20) (hz : ∀ j, j < k → bitP p j = false) (ho : k = 20 ∨ bitP p k = true) : W.hg p = (k : Int) := by
 subst hw
 obtain ⟨h, e, h20, H⟩ := ht_of h0 h1
 show hgF p = _
 rw [e]
 have : h = k := by
  rcases Nat.lt_trichotomy h k with q | q | q
  ·exfalso
   have z := hz h q
   rw [bitP_eq, decide_eq_false_iff_not] at z
   rcases H with ⟨_, H⟩ | ⟨H, _⟩
   ·apply z
    have d := Int.mul_ediv_add_emod p (2 ^ (h + 1))
    rw [H, pw1] at d
    have e2 : p = 2 ^ h * (2 * (p / (2 * 2 ^ h)) + 1) := by
     rw [Int.mul_add, Int.mul_one, ← Int.mul_assoc, Int.mul_comm (2 ^ h) 2]; exact d.symm
    rw [e2, Int.mul_ediv_cancel_left _ (by have := pw h; omega)]
    omega
   ·omega
  ·exact q
  ·exfalso
   rcases ho with r | r
   ·omega
   ·rw [bitP_eq, low (ht_mod H) q] at r; simp at r
 rw [this]
/-- The last number of a height. -/
theorem last_at {O : OO} {W : OW} (hw : W = wO O) {n : Int} {h : Nat} {x : Int} (hn : 0 ≤ n ∧ n ≤ 1048576) (hh : h ≤ 20) (h1 : 1048576 - n ≤ x) (h2 : x < 1048576) (e : W.hg x = (h : Int)) (hz : ∀ y, 1048576 - n ≤ y → y < x → W.hg y ≠ (h : Int)) : rLast n h = 1048575 - x := by
 subst hw
 have hg : ∀ (y : Int) (i : Nat), 0 ≤ y → y < 1048576 → Ht y i → hgF y = (i : Int) := fun y i y0 y1 H => by
  obtain ⟨k, ek, _, K⟩ := ht_of y0 y1
  rw [ek, ht_uniq K H]
 have H : Ht x h := by
  obtain ⟨k, ek, _, K⟩ := ht_of (p := x) (by omega) h2
  have e : hgF x = (h : Int) := e
  rw [ek] at e
  have : k = h := by omega
  subst this; exact K
 have w : x < 1048576 - n + 2 ^ (h + 1) := by
  by_cases q : x < 1048576 - n + 2 ^ (h + 1)
  ·exact q
  ·exfalso
   by_cases h20 : h = 20
   ·subst h20; simp only [Nat.reduceAdd, Int.reducePow] at q; omega
   ·obtain ⟨l1, l2, l3⟩ := lstP_spec (n := n) (i := h) (by omega)
    exact hz (lstP n h) l1 (by omega) (hg _ _ (by omega) (by omega) (.inl ⟨by omega, l3⟩))
 obtain ⟨r1, r2⟩ := rd_of (n := n) (by omega) H h1 h2 hn.2 w
 unfold rLast
 rw [Int.toNat_natCast, r1, r2]; rfl
theorem last_none {O : OO} {W : OW} (hw : W = wO O) {n : Int} {h : Nat} (hn : 0 ≤ n ∧ n ≤ 1048576) (hh : h ≤ 20) {b : Int} (hb : b = 1048576 ∨ 1048576 - n + 2 ^ (h + 1) ≤ b) (hz : ∀ y, 1048576 - n ≤ y → y < b → W.hg y ≠ (h : Int)) : rLast n h = -1 := by
 subst hw
 unfold rLast
 rw [Int.toNat_natCast]
 cases r : rdS n h
 ·rfl
 ·exfalso
  obtain ⟨H, l1, l2, l3⟩ := rd_spec hn (by omega) r
  have e : hgF (lstP n h) = (h : Int) := by
   obtain ⟨k, ek, _, K⟩ := ht_of (p := lstP n h) (by omega) l2
   rw [ek, ht_uniq K H]
  refine hz (lstP n h) l1 ?_ e
  rcases hb with q | q
  ·omega
  ·by_cases h20 : h = 20
   ·subst h20; simp only [Nat.reduceAdd, Int.reducePow] at q; omega
   ·have := (lstP_spec (n := n) (i := h) (by omega)).2.1
    omega
theorem okA_at {O : OO} {A : List (List Int)} (h : okA O A = true) {x : Nat} (hx : x < A.length) : (A.getD x []).length = 33 ∧ (0 ≤ (A.getD x []).getD 0 0 ∧ (A.getD x []).getD 0 0 ≤ 1048575) ∧ O.isH (AV (hK (A.getD x []))) = true := by
 unfold okA at h
 have := List.all_eq_true.1 h (A.getD x []) (by rw [List.getD_eq_getElem?_getD, List.getElem?_eq_getElem hx]; exact List.getElem_mem hx)
 simp only [Bool.and_eq_true, Nat.beq_eq, iLe_t] at this
 exact ⟨this.1.1, this.1.2, this.2⟩
theorem norm33 (x : List Int) (h : x.length = 33) : [x.getD 0 0, x.getD 1 0, x.getD 2 0, x.getD 3 0, x.getD 4 0, x.getD 5 0, x.getD 6 0, x.getD 7 0, x.getD 8 0, x.getD 9 0, x.getD 10 0, x.getD 11 0, x.getD 12 0, x.getD 13 0, x.getD 14 0, x.getD 15 0, x.getD 16 0, x.getD 17 0, x.getD 18 0, x.getD 19 0, x.getD 20 0, x.getD 21 0, x.getD 22 0, x.getD 23 0, x.getD 24 0, x.getD 25 0, x.getD 26 0, x.getD 27 0, x.getD 28 0, x.getD 29 0, x.getD 30 0, x.getD 31 0, x.getD 32 0] = x := by
 have := tab_take x 33 (by omega)
 rw [List.take_of_length_le (by omega)] at this
 exact (by kernel_rfl : _ = tabI (fun i => x.getD i 0) 33).trans this
theorem take_snoc {A : List (List Int)} {x : Nat} (h : x < A.length) : A.take (x + 1) = A.take x ++ [A.getD x []] := by
 rw [List.take_add_one, List.getElem?_eq_getElem h, List.getD_eq_getElem?_getD, List.getElem?_eq_getElem h]; rfl
theorem rLo_next {W : OW} {H : Int} {A : List (List Int)} {x : Nat} (h : x < A.length) : rLo W H (A.take (x + 1)) = rLo W H (A.take x) ++ bif iLt (W.hg (pl8 (A.getD x []))) H then [A.getD x []] else [] := by
 unfold rLo
 rw [take_snoc h, List.filter_append]
 congr 1
theorem rHi_next {W : OW} {H : Int} {A : List (List Int)} {x : Nat} (h : x < A.length) : rHi W H (A.take (x + 1)) = rHi W H (A.take x) ++ bif iLt H (W.hg (pl8 (A.getD x []))) then [A.getD x []] else [] := by
 unfold rHi
 rw [take_snoc h, List.filter_append]
 congr 1
theorem rCk_next {W : OW} {H : Int} {a : Array Value} {A : List (List Int)} {x : Nat} (h : x < A.length) : rCk W H a (A.take (x + 1)) = (rCk W H a (A.take x) && bif iLt (W.hg (pl8 (A.getD x []))) H then eqv (AV (W.cm H (pl8 (A.getD x [])) a)) (AV (hK (A.getD x []))) else true) := by
 unfold rCk
 rw [take_snoc h, List.all_append, List.all_cons, List.all_nil, Bool.and_true]
theorem rCk_at {W : OW} {H : Int} {a : Array Value} {A : List (List Int)} {x : Nat} (h : x < A.length) (hp : iLt (W.hg (pl8 (A.getD x []))) H = true) (he : eqv (AV (W.cm H (pl8 (A.getD x [])) a)) (AV (hK (A.getD x []))) = false) : rCk W H a A = false := by
 unfold rCk
 rw [List.all_eq_false]
 refine ⟨A.getD x [], by rw [List.getD_eq_getElem?_getD, List.getElem?_eq_getElem h]; exact List.getElem_mem h, ?_⟩
 rw [hp, cond_true, he]; decide
theorem rLo_len {W : OW} {H : Int} {A : List (List Int)} (x : Nat) : (rLo W H (A.take x)).length ≤ A.length := Nat.le_trans (List.length_filter_le ..) (by rw [List.length_take]; omega)
theorem rHi_len {W : OW} {H : Int} {A : List (List Int)} (x : Nat) : (rHi W H (A.take x)).length ≤ A.length := Nat.le_trans (List.length_filter_le ..) (by rw [List.length_take]; omega)
theorem rBy_next {A : List (List Int)} {x : Nat} (h : x < A.length) : rBy A (x + 1) = rBy A x ++ tabI (hK (A.getD x [])) 32 := by
 unfold rBy
 rw [take_snoc h, List.flatMap_append, List.flatMap_cons, List.flatMap_nil, List.append_nil]
theorem rBy_len {A : List (List Int)} : ∀ x, (rBy A x).length ≤ 32 * x := fun x => by
 unfold rBy
 rw [List.length_flatMap]
 have : ∀ l : List (List Int), (l.map fun a => (tabI (hK a) 32).length).sum = 32 * l.length := fun l => by
  induction l with
  | nil => rfl
  | cons a l ih => rw [List.map_cons, List.sum_cons, ih, tab_len9, List.length_cons]; omega
 rw [this, List.length_take]; omega

def spD0 (O : OO) (R : OB) (W : OW) (f : FuncId) : Option Sx.Spec := match f with
 | 54 => some (gspec [.ro .u8] (g_sumO O))
 | f => spT5 O R f
theorem spD0_ok (I : Sx.Interp) (O : OO) (hO : O = oo) (R : OB) (hR : R = bO) (W : OW) (hW : W = wO O) : ∀ f s, spD0 O R W f = some s → Sx.SpecOK I Tryd.prog f s := by
 intro f s h
 unfold spD0 at h
 split at h
 · cases h; exact ok_rSum4 I O hO
 ·exact spT5_ok I O hO R hR _ s h
def g_rplc (O : OO) (R : OB) (W : OW) (ds : List Dt) : Option (Bool × List Bool × (List Bool → Post)) := match ds with
 | [.v (.int .i64 n)] => some ((iLe (-1048576) n && iLe n 1048576), [], fun _ => ⟨[.v (.int .i64 (1048575 - n))], []⟩)
 | _ => none
set_option maxHeartbeats 4000000 in
theorem vc_rplc (O : OO) (R : OB) (W : OW) (n : Int) (F : FO O) (hr : R = bO) (hw : W = wO O) (h0 : (iLe (-1048576) n && iLe n 1048576) = true) :
 Value.int .i64 (IntKind.i64.wrap (iSub 1048575 n)) = Value.int .i64 (iSub 1048575 n) ∧ True ∧ True := by
 simp only [Bool.and_eq_true, Bool.or_eq_true, Sx.iLt_t, Sx.iLt_f, Sx.iLe_t, Sx.iLe_f, Sx.iEq_t, Sx.iEq_f, Sx.iBeq_t, Sx.iBeq_f, Sx.iBne_t, Sx.iBne_f, Nat.ble_eq, Nat.beq_eq, Sx.Cont.n] at h0
 refine ⟨?_, trivial, trivial⟩
 simp only [Sx.app, Sx.nAdd, Sx.nSub, Sx.nMul, Sx.nPow, Sx.nDiv, Sx.nMod, Sx.iAdd, Sx.iSub, Sx.iMul, Sx.iNeg, Sx.iPow, Sx.iOf]
 rw [IntKind.wrap_i64, show (1048575 - n + 9223372036854775808) % 18446744073709551616 - 9223372036854775808 = 1048575 - n by omega]
theorem wpc_rplc (O : OO) (R : OB) (W : OW) (n : Int) (F : FO O) (hr : R = bO) (hw : W = wO O) (h0 : (iLe (-1048576) n && iLe n 1048576) = true) : wpcI Tryd.prog (spD0 O R W) Tryd.f30.ntmps [] (bodyOf Tryd.f30) 0 64 (envP (mks [.v] [.v (.int .i64 n)] 0).1 0) (mks [.v] [.v (.int .i64 n)] 0).2 (retP Tryd.prog Tryd.f30.results.toList 0 (⟨[.v (.int .i64 (1048575 - n))], []⟩ : Post)) :=
 Eq.mpr (by kernel_rfl) (vc_rplc O R W n F hr hw h0)
theorem ok_rplc (I : Sx.Interp) (O : OO) (hO : O = oo) (R : OB) (hR : R = bO) (W : OW) (hW : W = wO O) : Sx.SpecOK I Tryd.prog 30 (pspec [.v] false (g_rplc O R W)) := by
 refine spec_pI (spD0_ok I O hO R hR W hW) (by kernel_rfl) (fun ds => match ds with | [.v (.int .i64 n)] => [] | _ => []) Tryd.func30 (by kernel_rfl) (by kernel_rfl) rfl Tryd.ntmps30 (by decide) ?_ ?_
 ·intro ds p bs F h
  unfold g_rplc at h
  split at h
  ·rename_i n
   simp only [Option.some.injEq, Prod.mk.injEq] at h
   obtain ⟨_, _, rfl⟩ := h
   kernel_rfl
  ·cases h
 ·intro ds bs F hl h
  unfold g_rplc at h
  split at h
  ·rename_i n
   simp only [Option.some.injEq, Prod.mk.injEq, Bool.and_eq_true] at h
   obtain ⟨h0, _, rfl⟩ := h
   exact wpc_rplc O R W n (fo_oo O hO) hR hW (by first | exact h0 | (simp only [Bool.and_eq_true]; exact h0))
  ·cases h
def g_rhgt (O : OO) (R : OB) (W : OW) (ds : List Dt) : Option (Bool × List Bool × (List Bool → Post)) := match ds with
 | [.v (.int .i64 p)] => some ((iLe 0 p && iLe p 1048575), [], fun _ => ⟨[.v (.int .i64 (W.hg p))], []⟩)
 | _ => none
set_option maxHeartbeats 4000000 in
theorem vc_rhgt (O : OO) (R : OB) (W : OW) (p : Int) (F : FO O) (hr : R = bO) (hw : W = wO O) (h0 : (iLe 0 p && iLe p 1048575) = true) :
 (∃ (x : Nat), (x ≤ 20 ∧ ∀ (j : Nat), j.succ ≤ x → bitP p j = false) ∧ (Value.int .i64 0 = Value.int .i64 (iOf x) ∧ Value.int .i64 p = Value.int .i64 p ∧ True) ∧ True) ∧ ∀ (x : Nat),
  (x ≤ 20 ∧ ∀ (j : Nat), j.succ ≤ x → bitP p j = false) → If (iLt (iOf x) 20) (If (iBeq (IntKind.i64.wrap (iOf (BitVec.ofInt 64 (p.fdiv (iPow 2 (min (iOf x).toNat 64))) &&&
  BitVec.ofInt 64 1).toNat)) 0) (∃ (x' : Nat), (x' ≤ 20 ∧ ∀ (j : Nat), j.succ ≤ x' → bitP p j = false) ∧ (nSub 20 x').succ ≤ nSub 20 x ∧ (Value.int .i64 (IntKind.i64.wrap (iAdd (iOf
  x) 1)) = Value.int .i64 (iOf x') ∧ Value.int .i64 p = Value.int .i64 p ∧ True) ∧ True) (Value.int .i64 (iOf x) = Value.int .i64 (W.hg p) ∧ True ∧ True)) (Value.int .i64 (iOf x) =
  Value.int .i64 (W.hg p) ∧ True ∧ True) := by
 simp only [Bool.and_eq_true, Bool.or_eq_true, Sx.iLt_t, Sx.iLt_f, Sx.iLe_t, Sx.iLe_f, Sx.iEq_t, Sx.iEq_f, Sx.iBeq_t, Sx.iBeq_f, Sx.iBne_t, Sx.iBne_f, Nat.ble_eq, Nat.beq_eq, Sx.Cont.n] at h0
 refine ⟨⟨0, ⟨by decide, fun j hj => absurd hj (Nat.not_lt_zero _)⟩, ⟨rfl, rfl, trivial⟩, trivial⟩, fun x ⟨c1, c2⟩ => ?_⟩
 have c2 : ∀ j, j < x → bitP p j = false := c2
 have hn : (iOf x).toNat = x := by simp only [Sx.app, Sx.nAdd, Sx.nSub, Sx.nMul, Sx.nPow, Sx.nDiv, Sx.nMod, Sx.iAdd, Sx.iSub, Sx.iMul, Sx.iNeg, Sx.iPow, Sx.iOf, Int.toNat_natCast]
 rw [hn, Nat.min_eq_left (show x ≤ 64 by omega), bit0]
 refine Sx.if_both (fun d => Sx.if_both (fun e => ?_) (fun e => ?_)) (fun d => ?_)
 ·simp only [Bool.and_eq_true, Bool.or_eq_true, Sx.iLt_t, Sx.iLt_f, Sx.iLe_t, Sx.iLe_f, Sx.iEq_t, Sx.iEq_f, Sx.iBeq_t, Sx.iBeq_f, Sx.iBne_t, Sx.iBne_f, Nat.ble_eq, Nat.beq_eq, Sx.Cont.n, Sx.app, Sx.nAdd, Sx.nSub, Sx.nMul, Sx.nPow, Sx.nDiv, Sx.nMod, Sx.iAdd, Sx.iSub, Sx.iMul, Sx.iNeg, Sx.iPow, Sx.iOf] at d
  have w1 : IntKind.i64.wrap (iAdd (iOf x) 1) = iOf (x + 1) := by simp only [Sx.app, Sx.nAdd, Sx.nSub, Sx.nMul, Sx.nPow, Sx.nDiv, Sx.nMod, Sx.iAdd, Sx.iSub, Sx.iMul, Sx.iNeg, Sx.iPow, Sx.iOf]; rw [IntKind.wrap_i64]; omega
  rw [w1]
  refine ⟨x + 1, ⟨by omega, fun j hj => ?_⟩, by simp only [Sx.app, Sx.nAdd, Sx.nSub, Sx.nMul, Sx.nPow, Sx.nDiv, Sx.nMod, Sx.iAdd, Sx.iSub, Sx.iMul, Sx.iNeg, Sx.iPow, Sx.iOf]; omega, ⟨rfl, rfl, trivial⟩, trivial⟩
  by_cases q : j = x
  ·subst q; simpa using e
  ·exact c2 j (by have : j < x + 1 := hj; omega)
 ·simp only [Bool.and_eq_true, Bool.or_eq_true, Sx.iLt_t, Sx.iLt_f, Sx.iLe_t, Sx.iLe_f, Sx.iEq_t, Sx.iEq_f, Sx.iBeq_t, Sx.iBeq_f, Sx.iBne_t, Sx.iBne_f, Nat.ble_eq, Nat.beq_eq, Sx.Cont.n, Sx.app, Sx.nAdd, Sx.nSub, Sx.nMul, Sx.nPow, Sx.nDiv, Sx.nMod, Sx.iAdd, Sx.iSub, Sx.iMul, Sx.iNeg, Sx.iPow, Sx.iOf] at d
  refine ⟨congrArg _ (hg_bits hw (k := x) (by omega) (by omega) c1 c2 (.inr (by simpa using e))).symm, trivial, trivial⟩
 ·simp only [Bool.and_eq_true, Bool.or_eq_true, Sx.iLt_t, Sx.iLt_f, Sx.iLe_t, Sx.iLe_f, Sx.iEq_t, Sx.iEq_f, Sx.iBeq_t, Sx.iBeq_f, Sx.iBne_t, Sx.iBne_f, Nat.ble_eq, Nat.beq_eq, Sx.Cont.n, Sx.app, Sx.nAdd, Sx.nSub, Sx.nMul, Sx.nPow, Sx.nDiv, Sx.nMod, Sx.iAdd, Sx.iSub, Sx.iMul, Sx.iNeg, Sx.iPow, Sx.iOf] at d
  refine ⟨congrArg _ (hg_bits hw (k := x) (by omega) (by omega) c1 c2 (.inl (by omega))).symm, trivial, trivial⟩
theorem wpc_rhgt (O : OO) (R : OB) (W : OW) (p : Int) (F : FO O) (hr : R = bO) (hw : W = wO O) (h0 : (iLe 0 p && iLe p 1048575) = true) : wpcI Tryd.prog (spD0 O R W) Tryd.f32.ntmps [⟨Nat, [0], [], fun B k => [(3, .v (.int .i64 (k : Nat)))], fun B k => [], fun k => k ≤ 20 ∧ ∀ j, j < k → bitP p j = false, fun k => 20 - k, 0⟩] (bodyOf Tryd.f32) 0 64 (envP (mks [.v] [.v (.int .i64 p)] 0).1 0) (mks [.v] [.v (.int .i64 p)] 0).2 (retP Tryd.prog Tryd.f32.results.toList 0 (⟨[.v (.int .i64 (W.hg p))], []⟩ : Post)) :=
 Eq.mpr (by kernel_rfl) (vc_rhgt O R W p F hr hw h0)
theorem ok_rhgt (I : Sx.Interp) (O : OO) (hO : O = oo) (R : OB) (hR : R = bO) (W : OW) (hW : W = wO O) : Sx.SpecOK I Tryd.prog 32 (pspec [.v] false (g_rhgt O R W)) := by
 refine spec_pI (spD0_ok I O hO R hR W hW) (by kernel_rfl) (fun ds => match ds with | [.v (.int .i64 p)] => [⟨Nat, [0], [], fun B k => [(3, .v (.int .i64 (k : Nat)))], fun B k => [], fun k => k ≤ 20 ∧ ∀ j, j < k → bitP p j = false, fun k => 20 - k, 0⟩] | _ => []) Tryd.func32 (by kernel_rfl) (by kernel_rfl) rfl Tryd.ntmps32 (by decide) ?_ ?_
 ·intro ds p bs F h
  unfold g_rhgt at h
  split at h
  ·rename_i p
   simp only [Option.some.injEq, Prod.mk.injEq] at h
   obtain ⟨_, _, rfl⟩ := h
   kernel_rfl
  ·cases h
 ·intro ds bs F hl h
  unfold g_rhgt at h
  split at h
  ·rename_i p
   simp only [Option.some.injEq, Prod.mk.injEq, Bool.and_eq_true] at h
   obtain ⟨h0, _, rfl⟩ := h
   exact wpc_rhgt O R W p (fo_oo O hO) hR hW (by first | exact h0 | (simp only [Bool.and_eq_true]; exact h0))
  ·cases h
def spD1 (O : OO) (R : OB) (W : OW) (f : FuncId) : Option Sx.Spec := match f with
 | 30 => some (pspec [.v] false (g_rplc O R W))
 | 32 => some (pspec [.v] false (g_rhgt O R W))
 | f => spD0 O R W f
theorem spD1_ok (I : Sx.Interp) (O : OO) (hO : O = oo) (R : OB) (hR : R = bO) (W : OW) (hW : W = wO O) : ∀ f s, spD1 O R W f = some s → Sx.SpecOK I Tryd.prog f s := by
 intro f s h
 unfold spD1 at h
 split at h
 · cases h; exact ok_rplc I O hO R hR W hW
 · cases h; exact ok_rhgt I O hO R hR W hW
 ·exact spD0_ok I O hO R hR W hW _ s h
def g_rcov (O : OO) (R : OB) (W : OW) (ds : List Dt) : Option (Bool × List Bool × (List Bool → Post)) := match ds with
 | [.v (.int .i64 p), .v (.int .i64 q)] => some ((iLe 0 p && iLe p 1048575), [], fun _ => ⟨[.v (.bool (cov8 W p q))], []⟩)
 | _ => none
set_option maxHeartbeats 4000000 in
theorem vc_rcov (O : OO) (R : OB) (W : OW) (p q : Int) (F : FO O) (hr : R = bO) (hw : W = wO O) (h0 : (iLe 0 p && iLe p 1048575) = true) :
 If (iLe 0 p && iLe p 1048575) (If (iLt (W.hg p) 0) False (If (iLt (W.hg p) 0) False (Value.bool (iBeq (p.fdiv (iPow 2 (min (W.hg p).toNat 64))) (q.fdiv (iPow 2 (min (W.hg p).toNat
  64)))) = Value.bool (iBeq (p.fdiv (iPow 2 (W.hg p).toNat)) (q.fdiv (iPow 2 (W.hg p).toNat))) ∧ True ∧ True))) False := by
 have hg := hg_le hw p
 refine Sx.if_true h0 (Sx.if_false (by simp only [Bool.and_eq_true, Bool.or_eq_true, Sx.iLt_t, Sx.iLt_f, Sx.iLe_t, Sx.iLe_f, Sx.iEq_t, Sx.iEq_f, Sx.iBeq_t, Sx.iBeq_f, Sx.iBne_t, Sx.iBne_f, Nat.ble_eq, Nat.beq_eq, Sx.Cont.n]; omega) (Sx.if_false (by simp only [Bool.and_eq_true, Bool.or_eq_true, Sx.iLt_t, Sx.iLt_f, Sx.iLe_t, Sx.iLe_f, Sx.iEq_t, Sx.iEq_f, Sx.iBeq_t, Sx.iBeq_f, Sx.iBne_t, Sx.iBne_f, Nat.ble_eq, Nat.beq_eq, Sx.Cont.n]; omega) ?_))
 rw [Nat.min_eq_left (show (W.hg p).toNat ≤ 64 by omega)]
 exact ⟨rfl, trivial, trivial⟩
theorem wpc_rcov (O : OO) (R : OB) (W : OW) (p q : Int) (F : FO O) (hr : R = bO) (hw : W = wO O) (h0 : (iLe 0 p && iLe p 1048575) = true) : wpcI Tryd.prog (spD1 O R W) Tryd.f33.ntmps [] (bodyOf Tryd.f33) 0 64 (envP (mks [.v, .v] [.v (.int .i64 p), .v (.int .i64 q)] 0).1 0) (mks [.v, .v] [.v (.int .i64 p), .v (.int .i64 q)] 0).2 (retP Tryd.prog Tryd.f33.results.toList 0 (⟨[.v (.bool (cov8 W p q))], []⟩ : Post)) :=
 Eq.mpr (by kernel_rfl) (vc_rcov O R W p q F hr hw h0)
theorem ok_rcov (I : Sx.Interp) (O : OO) (hO : O = oo) (R : OB) (hR : R = bO) (W : OW) (hW : W = wO O) : Sx.SpecOK I Tryd.prog 33 (pspec [.v, .v] false (g_rcov O R W)) := by
 refine spec_pI (spD1_ok I O hO R hR W hW) (by kernel_rfl) (fun ds => match ds with | [.v (.int .i64 p), .v (.int .i64 q)] => [] | _ => []) Tryd.func33 (by kernel_rfl) (by kernel_rfl) rfl Tryd.ntmps33 (by decide) ?_ ?_
 ·intro ds p bs F h
  unfold g_rcov at h
  split at h
  ·rename_i p q
   simp only [Option.some.injEq, Prod.mk.injEq] at h
   obtain ⟨_, _, rfl⟩ := h
   kernel_rfl
  ·cases h
 ·intro ds bs F hl h
  unfold g_rcov at h
  split at h
  ·rename_i p q
   simp only [Option.some.injEq, Prod.mk.injEq, Bool.and_eq_true] at h
   obtain ⟨h0, _, rfl⟩ := h
   exact wpc_rcov O R W p q (fo_oo O hO) hR hW (by first | exact h0 | (simp only [Bool.and_eq_true]; exact h0))
  ·cases h
def g_rto (O : OO) (R : OB) (W : OW) (ds : List Dt) : Option (Bool × List Bool × (List Bool → Post)) := match ds with
 | [.v (.agg a), .v (.int .i64 h), .v (.int .i64 p)] => some ((iLe 0 h && iLe h 20) && (O.isH a), [], fun _ => ⟨[.v (.agg (AV (W.cm h p a)))], []⟩)
 | _ => none
set_option maxHeartbeats 4000000 in
theorem vc_rto (O : OO) (R : OB) (W : OW) (m : Nat → Int) (h p : Int) (F : FO O) (hr : R = bO) (hw : W = wO O) (h0 : (iLe 0 h && iLe h 20) = true) (h1 : (O.isH (AV m)) = true) :
 (∃ (x : Nat), x ≤ h.toNat ∧ (Value.int .i64 (IntKind.i64.wrap (iSub h 1)) = Value.int .i64 (iSub (iSub h 1) (iOf x)) ∧ Value.int .i64 h = Value.int .i64 h ∧ Value.int .i64 p =
  Value.int .i64 p ∧ True) ∧ AV m = AV (stepS O p h.toNat (fnA (AV m)) x) ∧ Array.mk (List.replicate 32 (Value.int .u8 0)) = Array.mk (List.replicate 32 (Value.int .u8 0)) ∧ True) ∧ ∀
  (x : Nat), x ≤ h.toNat → If (iLe 0 (iSub (iSub h 1) (iOf x))) (If (iLt (iSub (iSub h 1) (iOf x)) 0) False (If (iBeq (IntKind.i64.wrap (iOf (BitVec.ofInt 64 (p.fdiv (iPow 2 (min
  (iSub (iSub h 1) (iOf x)).toNat 64))) &&& BitVec.ofInt 64 1).toNat)) 1) (If (iLe 0 (IntKind.i64.wrap ((iSub (iSub h 1) (iOf x)).tdiv 8)) && (IntKind.i64.wrap ((iSub (iSub h 1) (iOf
  x)).tdiv 8)).toNat.blt 32) (If ((nAdd 0 (nMul (IntKind.i64.wrap ((iSub (iSub h 1) (iOf x)).tdiv 8)).toNat 1)).blt 32) (If (iLt ((iSub (iSub h 1) (iOf x)).tmod 8) 0) False (If (iLe 0
  (IntKind.i64.wrap ((iSub (iSub h 1) (iOf x)).tdiv 8)) && (IntKind.i64.wrap ((iSub (iSub h 1) (iOf x)).tdiv 8)).toNat.blt 32) (If (Nat.beq 1 1 && true && (nAdd 0 (nMul
  (IntKind.i64.wrap ((iSub (iSub h 1) (iOf x)).tdiv 8)).toNat 1)).blt 32) (∃ (x' : Nat), x' ≤ h.toNat ∧ (nSub h.toNat x').succ ≤ nSub h.toNat x ∧ (Value.int .i64 (IntKind.i64.wrap
  (iSub (iSub (iSub h 1) (iOf x)) 1)) = Value.int .i64 (iSub (iSub h 1) (iOf x')) ∧ Value.int .i64 h = Value.int .i64 h ∧ Value.int .i64 p = Value.int .i64 p ∧ True) ∧ AV (O.sum
  (Sx.setGo (tabI (stepS O p h.toNat (fnA (AV m)) x) 32) (nAdd 0 (nMul (IntKind.i64.wrap ((iSub (iSub h 1) (iOf x)).tdiv 8)).toNat 1)) (IntKind.u8.wrap (iOf (BitVec.ofInt 8 ((tabI
  (stepS O p h.toNat (fnA (AV m)) x) 32).getD (nAdd 0 (nMul (IntKind.i64.wrap ((iSub (iSub h 1) (iOf x)).tdiv 8)).toNat 1)) 0) ^^^ BitVec.ofInt 8 (IntKind.u8.wrap (iMul 1 (iPow 2 (min
  ((iSub (iSub h 1) (iOf x)).tmod 8).toNat 8))))).toNat)) 32 0)) = AV (stepS O p h.toNat (fnA (AV m)) x') ∧ Array.mk (List.replicate 32 (Value.int .u8 0)) = Array.mk (List.replicate
  32 (Value.int .u8 0)) ∧ True) False) False)) False) False) (∃ (x' : Nat), x' ≤ h.toNat ∧ (nSub h.toNat x').succ ≤ nSub h.toNat x ∧ (Value.int .i64 (IntKind.i64.wrap (iSub (iSub
  (iSub h 1) (iOf x)) 1)) = Value.int .i64 (iSub (iSub h 1) (iOf x')) ∧ Value.int .i64 h = Value.int .i64 h ∧ Value.int .i64 p = Value.int .i64 p ∧ True) ∧ AV (stepS O p h.toNat (fnA
  (AV m)) x) = AV (stepS O p h.toNat (fnA (AV m)) x') ∧ Array.mk (List.replicate 32 (Value.int .u8 0)) = Array.mk (List.replicate 32 (Value.int .u8 0)) ∧ True))) (Value.agg (AV (stepS
  O p h.toNat (fnA (AV m)) x)) = Value.agg (AV (W.cm h p (AV m))) ∧ True ∧ True) := by
 subst hw
 simp only [Bool.and_eq_true, Bool.or_eq_true, Sx.iLt_t, Sx.iLt_f, Sx.iLe_t, Sx.iLe_f, Sx.iEq_t, Sx.iEq_f, Sx.iBeq_t, Sx.iBeq_f, Sx.iBne_t, Sx.iBne_f, Nat.ble_eq, Nat.beq_eq, Sx.Cont.n] at h0
 obtain ⟨k, rfl⟩ : ∃ k : Nat, h = (k : Int) := ⟨h.toNat, by omega⟩
 have hk : k ≤ 20 := by omega
 simp only [Int.toNat_natCast]
 refine ⟨⟨0, Nat.zero_le _, ⟨congrArg _ (by simp only [Sx.app, Sx.nAdd, Sx.nSub, Sx.nMul, Sx.nPow, Sx.nDiv, Sx.nMod, Sx.iAdd, Sx.iSub, Sx.iMul, Sx.iNeg, Sx.iPow, Sx.iOf]; rw [IntKind.wrap_i64]; omega), (by first | rfl | trivial), (by first | rfl | trivial), trivial⟩, (fn_AV m).symm, (by first | rfl | trivial), trivial⟩, fun x hx => ?_⟩
 refine Sx.if_both (fun hlt => ?_) (fun hlt => ?_)
 ·simp only [Sx.app, Sx.nAdd, Sx.nSub, Sx.nMul, Sx.nPow, Sx.nDiv, Sx.nMod, Sx.iAdd, Sx.iSub, Sx.iMul, Sx.iNeg, Sx.iPow, Sx.iOf, Bool.and_eq_true, Bool.or_eq_true, Sx.iLt_t, Sx.iLt_f, Sx.iLe_t, Sx.iLe_f, Sx.iEq_t, Sx.iEq_f, Sx.iBeq_t, Sx.iBeq_f, Sx.iBne_t, Sx.iBne_f, Nat.ble_eq, Nat.beq_eq, Sx.Cont.n] at hlt
  obtain ⟨q, hq⟩ : ∃ q : Nat, q = k - 1 - x := ⟨_, rfl⟩
  have wq : iSub (iSub (k : Int) 1) (iOf x) = (q : Int) := by simp only [Sx.app, Sx.nAdd, Sx.nSub, Sx.nMul, Sx.nPow, Sx.nDiv, Sx.nMod, Sx.iAdd, Sx.iSub, Sx.iMul, Sx.iNeg, Sx.iPow, Sx.iOf]; omega
  have hq20 : q < 20 := by omega
  have step : stepS O p k (fnA (AV m)) (x + 1) = bif bitP p q then O.sum (flipL (stepS O p k (fnA (AV m)) x) q) else stepS O p k (fnA (AV m)) x := by rw [hq]; rfl
  have wd : IntKind.i64.wrap ((q : Int).tdiv 8) = ((q / 8 : Nat) : Int) := by
   rw [Int.tdiv_eq_ediv_of_nonneg (by omega), IntKind.wrap_i64]; omega
  have wm : (q : Int).tmod 8 = ((q % 8 : Nat) : Int) := by rw [Int.tmod_eq_emod_of_nonneg (by omega)]; omega
  have hbit : iBeq (IntKind.i64.wrap (iOf (BitVec.ofInt 64 (p.fdiv (iPow 2 (min q 64))) &&& BitVec.ofInt 64 1).toNat)) 1 = bitP p q := by
   rw [Nat.min_eq_left (by omega)]; rfl
  have w1 : IntKind.i64.wrap (iSub (q : Int) 1) = iSub (iSub (k : Int) 1) (iOf (x + 1)) := by simp only [Sx.app, Sx.nAdd, Sx.nSub, Sx.nMul, Sx.nPow, Sx.nDiv, Sx.nMod, Sx.iAdd, Sx.iSub, Sx.iMul, Sx.iNeg, Sx.iPow, Sx.iOf]; rw [IntKind.wrap_i64]; omega
  simp only [wq, wd, wm, Int.toNat_natCast, hbit, w1]
  refine Sx.if_false (by simp only [Bool.and_eq_true, Bool.or_eq_true, Sx.iLt_t, Sx.iLt_f, Sx.iLe_t, Sx.iLe_f, Sx.iEq_t, Sx.iEq_f, Sx.iBeq_t, Sx.iBeq_f, Sx.iBne_t, Sx.iBne_f, Nat.ble_eq, Nat.beq_eq, Sx.Cont.n]; omega) (Sx.if_both (fun hb => ?_) (fun hb => ?_))
  ·rw [hb] at step
   have hb1 : (iLe 0 ((q / 8 : Nat) : Int) && (q / 8).blt 32) = true := by simp only [Bool.and_eq_true, Bool.or_eq_true, Sx.iLt_t, Sx.iLt_f, Sx.iLe_t, Sx.iLe_f, Sx.iEq_t, Sx.iEq_f, Sx.iBeq_t, Sx.iBeq_f, Sx.iBne_t, Sx.iBne_f, Nat.ble_eq, Nat.beq_eq, Sx.Cont.n, Nat.blt_eq]; omega
   have hb2 : (nAdd 0 (nMul (q / 8) 1)).blt 32 = true := by simp only [Sx.app, Sx.nAdd, Sx.nSub, Sx.nMul, Sx.nPow, Sx.nDiv, Sx.nMod, Sx.iAdd, Sx.iSub, Sx.iMul, Sx.iNeg, Sx.iPow, Sx.iOf, Nat.blt_eq]; omega
   refine Sx.if_true hb1 (Sx.if_true hb2 (Sx.if_false (by simp only [Bool.and_eq_true, Bool.or_eq_true, Sx.iLt_t, Sx.iLt_f, Sx.iLe_t, Sx.iLe_f, Sx.iEq_t, Sx.iEq_f, Sx.iBeq_t, Sx.iBeq_f, Sx.iBne_t, Sx.iBne_f, Nat.ble_eq, Nat.beq_eq, Sx.Cont.n]; omega) (Sx.if_true hb1 (Sx.if_true (by rw [hb2]; rfl) ⟨x + 1, by omega, by simp only [Sx.app, Sx.nAdd, Sx.nSub, Sx.nMul, Sx.nPow, Sx.nDiv, Sx.nMod, Sx.iAdd, Sx.iSub, Sx.iMul, Sx.iNeg, Sx.iPow, Sx.iOf]; omega, ⟨(by first | rfl | trivial), (by first | rfl | trivial), (by first | rfl | trivial), trivial⟩, ?_, (by first | rfl | trivial), trivial⟩))))
   rw [step]
   have e := flip_eq (stepS O p k (fnA (AV m)) x) q hq20
   simp only [Sx.app, Sx.nAdd, Sx.nSub, Sx.nMul, Sx.nPow, Sx.nDiv, Sx.nMod, Sx.iAdd, Sx.iSub, Sx.iMul, Sx.iNeg, Sx.iPow, Sx.iOf, Nat.zero_add, Nat.mul_one, Int.one_mul, Nat.min_eq_left (show q % 8 ≤ 8 by omega)] at e ⊢
   rw [e]; rfl
  ·rw [hb] at step
   refine ⟨x + 1, by omega, by simp only [Sx.app, Sx.nAdd, Sx.nSub, Sx.nMul, Sx.nPow, Sx.nDiv, Sx.nMod, Sx.iAdd, Sx.iSub, Sx.iMul, Sx.iNeg, Sx.iPow, Sx.iOf]; omega, ⟨(by first | rfl | trivial), (by first | rfl | trivial), (by first | rfl | trivial), trivial⟩, ?_, (by first | rfl | trivial), trivial⟩
   rw [step]; rfl
 ·simp only [Sx.app, Sx.nAdd, Sx.nSub, Sx.nMul, Sx.nPow, Sx.nDiv, Sx.nMod, Sx.iAdd, Sx.iSub, Sx.iMul, Sx.iNeg, Sx.iPow, Sx.iOf, Bool.and_eq_true, Bool.or_eq_true, Sx.iLt_t, Sx.iLt_f, Sx.iLe_t, Sx.iLe_f, Sx.iEq_t, Sx.iEq_f, Sx.iBeq_t, Sx.iBeq_f, Sx.iBne_t, Sx.iBne_f, Nat.ble_eq, Nat.beq_eq, Sx.Cont.n] at hlt
  have : x = k := by omega
  subst this
  exact ⟨rfl, trivial, trivial⟩
theorem wpc_rto (O : OO) (R : OB) (W : OW) (m : Nat → Int) (h p : Int) (F : FO O) (hr : R = bO) (hw : W = wO O) (h0 : (iLe 0 h && iLe h 20) = true) (h1 : (O.isH (AV m)) = true) : wpcI Tryd.prog (spD1 O R W) Tryd.f29.ntmps [⟨Nat, [1, 2, 6], [(7, 23, .ints .u8 [])], fun B j => [(7, .ptr B 0), (8, .v (.int .i64 (h - 1 - ((j : Nat) : Int))))], fun B j => [(B, .arr 23 32 (AV (stepS O p h.toNat (fnA (AV m)) j)))], fun j => j ≤ h.toNat, fun j => h.toNat - j, 0⟩] (bodyOf Tryd.f29) 0 64 (envP (mks [.v, .v, .v] [.v (.agg (AV m)), .v (.int .i64 h), .v (.int .i64 p)] 0).1 0) (mks [.v, .v, .v] [.v (.agg (AV m)), .v (.int .i64 h), .v (.int .i64 p)] 0).2 (retP Tryd.prog Tryd.f29.results.toList 0 (⟨[.v (.agg (AV (W.cm h p (AV m))))], []⟩ : Post)) :=
 Eq.mpr (by kernel_rfl) (vc_rto O R W m h p F hr hw h0 h1)
theorem ok_rto (I : Sx.Interp) (O : OO) (hO : O = oo) (R : OB) (hR : R = bO) (W : OW) (hW : W = wO O) : Sx.SpecOK I Tryd.prog 29 (pspec [.v, .v, .v] false (g_rto O R W)) := by
 refine spec_pI (spD1_ok I O hO R hR W hW) (by kernel_rfl) (fun ds => match ds with | [.v (.agg a), .v (.int .i64 h), .v (.int .i64 p)] => [⟨Nat, [1, 2, 6], [(7, 23, .ints .u8 [])], fun B j => [(7, .ptr B 0), (8, .v (.int .i64 (h - 1 - ((j : Nat) : Int))))], fun B j => [(B, .arr 23 32 (AV (stepS O p h.toNat (fnA a) j)))], fun j => j ≤ h.toNat, fun j => h.toNat - j, 0⟩] | _ => []) Tryd.func29 (by kernel_rfl) (by kernel_rfl) rfl Tryd.ntmps29 (by decide) ?_ ?_
 ·intro ds p bs F h
  unfold g_rto at h
  split at h
  ·rename_i a h p
   simp only [Option.some.injEq, Prod.mk.injEq] at h
   obtain ⟨_, _, rfl⟩ := h
   kernel_rfl
  ·cases h
 ·intro ds bs F hl h
  unfold g_rto at h
  split at h
  ·rename_i a h p
   simp only [Option.some.injEq, Prod.mk.injEq, Bool.and_eq_true] at h
   obtain ⟨⟨h0, h1⟩, _, rfl⟩ := h
   obtain ⟨m, rfl⟩ := isH_AV (by subst hO; exact h1 : isHa a = true)
   exact wpc_rto O R W m h p (fo_oo O hO) hR hW (by first | exact h0 | (simp only [Bool.and_eq_true]; exact h0)) (by first | exact h1 | (simp only [Bool.and_eq_true]; exact h1))
  ·cases h
def spD2 (O : OO) (R : OB) (W : OW) (f : FuncId) : Option Sx.Spec := match f with
 | 33 => some (pspec [.v, .v] false (g_rcov O R W))
 | 29 => some (pspec [.v, .v, .v] false (g_rto O R W))
 | f => spD1 O R W f
theorem spD2_ok (I : Sx.Interp) (O : OO) (hO : O = oo) (R : OB) (hR : R = bO) (W : OW) (hW : W = wO O) : ∀ f s, spD2 O R W f = some s → Sx.SpecOK I Tryd.prog f s := by
 intro f s h
 unfold spD2 at h
 split at h
 · cases h; exact ok_rcov I O hO R hR W hW
 · cases h; exact ok_rto I O hO R hR W hW
 ·exact spD1_ok I O hO R hR W hW _ s h
def g_rscr (O : OO) (R : OB) (W : OW) (ds : List Dt) : Option (Bool × List Bool × (List Bool → Post)) := match ds with
 | [.v (.agg a), .v (.int .i64 n)] => some ((iLe (-9223372036854775808) n) && (O.isH a), [], fun _ => ⟨[.v (.agg (AV (secF' W n a))), .v (.bool (!(secB n)))], []⟩)
 | _ => none
set_option maxHeartbeats 4000000 in
theorem vc_rscr (O : OO) (R : OB) (W : OW) (m : Nat → Int) (n : Int) (F : FO O) (hr : R = bO) (hw : W = wO O) (h0 : (iLe (-9223372036854775808) n) = true) (h1 : (O.isH (AV m)) = true) :
 If (iLt n 0) ((Value.agg (Array.mk (List.replicate 32 (Value.int .u8 0))) = Value.agg (AV (secF' W n (AV m))) ∧ Value.bool false = Value.bool !secB n) ∧ True ∧ True) (If (iLe
  1048576 n) ((Value.agg (Array.mk (List.replicate 32 (Value.int .u8 0))) = Value.agg (AV (secF' W n (AV m))) ∧ Value.bool false = Value.bool !secB n) ∧ True ∧ True) (If (iLe (iNeg
  1048576) n && iLe n 1048576) (If (iLe 0 20 && iLe 20 20 && O.isH (AV m)) ((Value.agg (AV (W.cm 20 (iSub 1048575 n) (AV m))) = Value.agg (AV (secF' W n (AV m))) ∧ Value.bool true =
  Value.bool !secB n) ∧ True ∧ True) False) False)) := by
 simp only [Bool.and_eq_true, Bool.or_eq_true, Sx.iLt_t, Sx.iLt_f, Sx.iLe_t, Sx.iLe_f, Sx.iEq_t, Sx.iEq_f, Sx.iBeq_t, Sx.iBeq_f, Sx.iBne_t, Sx.iBne_f, Nat.ble_eq, Nat.beq_eq, Sx.Cont.n] at h0
 have no : secB n = true → (Array.mk (List.replicate 32 (Value.int IntKind.u8 0)) : Array Value) = AV (secF' W n (AV m)) := fun h => by
  have e : secF' W n (AV m) = fun _ => 0 := by funext i; unfold secF'; rw [h]; rfl
  rw [e]; rfl
 refine Sx.if_both (fun h => ?_) (fun h => Sx.if_both (fun h2 => ?_) (fun h2 => ?_))
 ·have hs : secB n = true := by unfold secB; rw [h]; rfl
  rw [hs, no hs]; exact ⟨⟨rfl, rfl⟩, trivial, trivial⟩
 ·have hs : secB n = true := by unfold secB; rw [h, h2]; rfl
  rw [hs, no hs]; exact ⟨⟨rfl, rfl⟩, trivial, trivial⟩
 ·have hs : secB n = false := by unfold secB; rw [h, h2]; rfl
  have e : secF' W n (AV m) = W.cm 20 (1048575 - n) (AV m) := by funext i; unfold secF'; rw [hs]; rfl
  simp only [Bool.and_eq_true, Bool.or_eq_true, Sx.iLt_t, Sx.iLt_f, Sx.iLe_t, Sx.iLe_f, Sx.iEq_t, Sx.iEq_f, Sx.iBeq_t, Sx.iBeq_f, Sx.iBne_t, Sx.iBne_f, Nat.ble_eq, Nat.beq_eq, Sx.Cont.n] at h h2
  rw [hs, e]
  exact Sx.if_true (by simp only [Sx.app, Sx.nAdd, Sx.nSub, Sx.nMul, Sx.nPow, Sx.nDiv, Sx.nMod, Sx.iAdd, Sx.iSub, Sx.iMul, Sx.iNeg, Sx.iPow, Sx.iOf, Bool.and_eq_true, Bool.or_eq_true, Sx.iLt_t, Sx.iLt_f, Sx.iLe_t, Sx.iLe_f, Sx.iEq_t, Sx.iEq_f, Sx.iBeq_t, Sx.iBeq_f, Sx.iBne_t, Sx.iBne_f, Nat.ble_eq, Nat.beq_eq, Sx.Cont.n]; omega) (Sx.if_true (by rw [h1]; rfl) ⟨⟨rfl, rfl⟩, trivial, trivial⟩)
theorem wpc_rscr (O : OO) (R : OB) (W : OW) (m : Nat → Int) (n : Int) (F : FO O) (hr : R = bO) (hw : W = wO O) (h0 : (iLe (-9223372036854775808) n) = true) (h1 : (O.isH (AV m)) = true) : wpcI Tryd.prog (spD2 O R W) Tryd.f10.ntmps [] (bodyOf Tryd.f10) 0 64 (envP (mks [.v, .v] [.v (.agg (AV m)), .v (.int .i64 n)] 0).1 0) (mks [.v, .v] [.v (.agg (AV m)), .v (.int .i64 n)] 0).2 (retP Tryd.prog Tryd.f10.results.toList 0 (⟨[.v (.agg (AV (secF' W n (AV m)))), .v (.bool (!(secB n)))], []⟩ : Post)) :=
 Eq.mpr (by kernel_rfl) (vc_rscr O R W m n F hr hw h0 h1)
theorem ok_rscr (I : Sx.Interp) (O : OO) (hO : O = oo) (R : OB) (hR : R = bO) (W : OW) (hW : W = wO O) : Sx.SpecOK I Tryd.prog 10 (pspec [.v, .v] false (g_rscr O R W)) := by
 refine spec_pI (spD2_ok I O hO R hR W hW) (by kernel_rfl) (fun ds => match ds with | [.v (.agg a), .v (.int .i64 n)] => [] | _ => []) Tryd.func10 (by kernel_rfl) (by kernel_rfl) rfl Tryd.ntmps10 (by decide) ?_ ?_
 ·intro ds p bs F h
  unfold g_rscr at h
  split at h
  ·rename_i a n
   simp only [Option.some.injEq, Prod.mk.injEq] at h
   obtain ⟨_, _, rfl⟩ := h
   kernel_rfl
  ·cases h
 ·intro ds bs F hl h
  unfold g_rscr at h
  split at h
  ·rename_i a n
   simp only [Option.some.injEq, Prod.mk.injEq, Bool.and_eq_true] at h
   obtain ⟨⟨h0, h1⟩, _, rfl⟩ := h
   obtain ⟨m, rfl⟩ := isH_AV (by subst hO; exact h1 : isHa a = true)
   exact wpc_rscr O R W m n (fo_oo O hO) hR hW (by first | exact h0 | (simp only [Bool.and_eq_true]; exact h0)) (by first | exact h1 | (simp only [Bool.and_eq_true]; exact h1))
  ·cases h
def g_rnew (O : OO) (R : OB) (W : OW) (ds : List Dt) : Option (Bool × List Bool × (List Bool → Post)) := match ds with
 | [] => some (true, [], fun _ => ⟨[.ptr 0 0], [(0, .blk 57 [.v (.int .i64 0), .row 1]), (1, .ro (.structs KK []))]⟩)
 | _ => none
set_option maxHeartbeats 4000000 in
theorem vc_rnew (O : OO) (R : OB) (W : OW) (F : FO O) (hr : R = bO) (hw : W = wO O) :
 True ∧ Value.int .i64 0 = Value.int .i64 0 ∧ Cont.structs (KK) [] = Cont.structs (KK) [] ∧ True := by
 exact ⟨trivial, rfl, rfl, trivial⟩
theorem wpc_rnew (O : OO) (R : OB) (W : OW) (F : FO O) (hr : R = bO) (hw : W = wO O) : wpcI Tryd.prog (spD2 O R W) Tryd.f12.ntmps [] (bodyOf Tryd.f12) 0 64 (envP (mks [] [] 0).1 0) (mks [] [] 0).2 (retPA [(200000, 62, .structs KK [])] Tryd.prog Tryd.f12.results.toList 0 (⟨[.ptr 0 0], [(0, .blk 57 [.v (.int .i64 0), .row 1]), (1, .ro (.structs KK []))]⟩ : Post)) :=
 Eq.mpr (by kernel_rfl) (vc_rnew O R W F hr hw)
theorem ok_rnew (I : Sx.Interp) (O : OO) (hO : O = oo) (R : OB) (hR : R = bO) (W : OW) (hW : W = wO O) : Sx.SpecOK I Tryd.prog 12 (pspec [] true (g_rnew O R W)) := by
 refine spec_pAI (spD2_ok I O hO R hR W hW) (by kernel_rfl) (fun ds => match ds with | [] => [] | _ => []) (fun ds => match ds with | [] => [(200000, 62, .structs KK [])] | _ => []) Tryd.func12 (by kernel_rfl) (by kernel_rfl) rfl Tryd.ntmps12 (by decide) ?_ ?_
 ·intro ds p bs F h
  unfold g_rnew at h
  split at h
  ·skip
   simp only [Option.some.injEq, Prod.mk.injEq] at h
   obtain ⟨_, _, rfl⟩ := h
   kernel_rfl
  ·cases h
 ·intro ds bs F hl h
  unfold g_rnew at h
  split at h
  ·skip
   simp only [Option.some.injEq, Prod.mk.injEq, Bool.and_eq_true] at h
   obtain ⟨_, _, rfl⟩ := h
   exact wpc_rnew O R W  (fo_oo O hO) hR hW 
  ·cases h
def g_rnext (O : OO) (R : OB) (W : OW) (ds : List Dt) : Option (Bool × List Bool × (List Bool → Post)) := match ds with
 | [.node [.v (.int .i64 n), .structs A]] => some (true, [], fun _ => ⟨[.v (.int .i64 n)], []⟩)
 | _ => none
set_option maxHeartbeats 4000000 in
theorem vc_rnext (O : OO) (R : OB) (W : OW) (n : Int) (A : List (List Int)) (F : FO O) (hr : R = bO) (hw : W = wO O) :
 Value.int .i64 n = Value.int .i64 n ∧ True ∧ True := by
 exact ⟨rfl, trivial, trivial⟩
theorem wpc_rnext (O : OO) (R : OB) (W : OW) (n : Int) (A : List (List Int)) (F : FO O) (hr : R = bO) (hw : W = wO O) : wpcI Tryd.prog (spD2 O R W) Tryd.f16.ntmps [] (bodyOf Tryd.f16) 0 64 (envP (mks [.robj 57 [.v, .roS KK]] [.node [.v (.int .i64 n), .structs A]] 0).1 0) (mks [.robj 57 [.v, .roS KK]] [.node [.v (.int .i64 n), .structs A]] 0).2 (retP Tryd.prog Tryd.f16.results.toList 2 (⟨[.v (.int .i64 n)], []⟩ : Post)) :=
 Eq.mpr (by kernel_rfl) (vc_rnext O R W n A F hr hw)
theorem ok_rnext (I : Sx.Interp) (O : OO) (hO : O = oo) (R : OB) (hR : R = bO) (W : OW) (hW : W = wO O) : Sx.SpecOK I Tryd.prog 16 (pspec [.robj 57 [.v, .roS KK]] false (g_rnext O R W)) := by
 refine spec_pI (spD2_ok I O hO R hR W hW) (by kernel_rfl) (fun ds => match ds with | [.node [.v (.int .i64 n), .structs A]] => [] | _ => []) Tryd.func16 (by kernel_rfl) (by kernel_rfl) rfl Tryd.ntmps16 (by decide) ?_ ?_
 ·intro ds p bs F h
  unfold g_rnext at h
  split at h
  ·rename_i n A
   simp only [Option.some.injEq, Prod.mk.injEq] at h
   obtain ⟨_, _, rfl⟩ := h
   kernel_rfl
  ·cases h
 ·intro ds bs F hl h
  unfold g_rnext at h
  split at h
  ·rename_i n A
   simp only [Option.some.injEq, Prod.mk.injEq, Bool.and_eq_true] at h
   obtain ⟨_, _, rfl⟩ := h
   exact wpc_rnext O R W n A (fo_oo O hO) hR hW 
  ·cases h
def g_rsize (O : OO) (R : OB) (W : OW) (ds : List Dt) : Option (Bool × List Bool × (List Bool → Post)) := match ds with
 | [.node [.v (.int .i64 n), .structs A]] => some (true, [], fun _ => ⟨[.v (.int .i64 (A.length : Int))], []⟩)
 | _ => none
set_option maxHeartbeats 4000000 in
theorem vc_rsize (O : OO) (R : OB) (W : OW) (n : Int) (A : List (List Int)) (F : FO O) (hr : R = bO) (hw : W = wO O) :
 Value.int .i64 (iOf A.length) = Value.int .i64 (iOf A.length) ∧ True ∧ True := by
 exact ⟨rfl, trivial, trivial⟩
theorem wpc_rsize (O : OO) (R : OB) (W : OW) (n : Int) (A : List (List Int)) (F : FO O) (hr : R = bO) (hw : W = wO O) : wpcI Tryd.prog (spD2 O R W) Tryd.f18.ntmps [] (bodyOf Tryd.f18) 0 64 (envP (mks [.robj 57 [.v, .roS KK]] [.node [.v (.int .i64 n), .structs A]] 0).1 0) (mks [.robj 57 [.v, .roS KK]] [.node [.v (.int .i64 n), .structs A]] 0).2 (retP Tryd.prog Tryd.f18.results.toList 2 (⟨[.v (.int .i64 (A.length : Int))], []⟩ : Post)) :=
 Eq.mpr (by kernel_rfl) (vc_rsize O R W n A F hr hw)
theorem ok_rsize (I : Sx.Interp) (O : OO) (hO : O = oo) (R : OB) (hR : R = bO) (W : OW) (hW : W = wO O) : Sx.SpecOK I Tryd.prog 18 (pspec [.robj 57 [.v, .roS KK]] false (g_rsize O R W)) := by
 refine spec_pI (spD2_ok I O hO R hR W hW) (by kernel_rfl) (fun ds => match ds with | [.node [.v (.int .i64 n), .structs A]] => [] | _ => []) Tryd.func18 (by kernel_rfl) (by kernel_rfl) rfl Tryd.ntmps18 (by decide) ?_ ?_
 ·intro ds p bs F h
  unfold g_rsize at h
  split at h
  ·rename_i n A
   simp only [Option.some.injEq, Prod.mk.injEq] at h
   obtain ⟨_, _, rfl⟩ := h
   kernel_rfl
  ·cases h
 ·intro ds bs F hl h
  unfold g_rsize at h
  split at h
  ·rename_i n A
   simp only [Option.some.injEq, Prod.mk.injEq, Bool.and_eq_true] at h
   obtain ⟨_, _, rfl⟩ := h
   exact wpc_rsize O R W n A (fo_oo O hO) hR hW 
  ·cases h
def g_radd (O : OO) (R : OB) (W : OW) (ds : List Dt) : Option (Bool × List Bool × (List Bool → Post)) := match ds with
 | [.node [.v (.int .i64 n), .structs A], .v (.int .i64 no), .v (.agg a)] => some ((iLe 0 n && iLe n 1048576) && (okA O A) && (O.isH a) && (Nat.ble A.length 1000), [], fun _ => ⟨[.v (.int .i64 (rE W n A no a))], [(0, .blk 57 [.v (.int .i64 (rN W n A no a)), .row 2]), (2, .ro (.structs KK (rA W n A no a)))]⟩)
 | _ => none
set_option maxHeartbeats 4000000 in
theorem vc_radd (O : OO) (R : OB) (W : OW) (n : Int) (A : List (List Int)) (no : Int) (m : Nat → Int) (F : FO O) (hr : R = bO) (hw : W = wO O) (h0 : (iLe 0 n && iLe n 1048576) = true) (h1 : (okA O A) = true) (h2 : (O.isH (AV m)) = true) (h3 : (Nat.ble A.length 1000) = true) :
 If (iBne no n) (Value.int .i64 1 = Value.int .i64 (rE W n A no (AV m)) ∧ True ∧ Value.int .i64 n = Value.int .i64 (rN W n A no (AV m)) ∧ Cont.structs (KK) A = Cont.structs (KK) (rA
  W n A no (AV m)) ∧ True) (If (iLt no 0) (Value.int .i64 1 = Value.int .i64 (rE W n A no (AV m)) ∧ True ∧ Value.int .i64 n = Value.int .i64 (rN W n A no (AV m)) ∧ Cont.structs (KK) A
  = Cont.structs (KK) (rA W n A no (AV m)) ∧ True) (If (iLe 1048576 no) (Value.int .i64 1 = Value.int .i64 (rE W n A no (AV m)) ∧ True ∧ Value.int .i64 n = Value.int .i64 (rN W n A no
  (AV m)) ∧ Cont.structs (KK) A = Cont.structs (KK) (rA W n A no (AV m)) ∧ True) (If (iLe (iNeg 1048576) no && iLe no 1048576) (If (iLe 0 (iSub 1048575 no) && iLe (iSub 1048575 no)
  1048575) ((∃ (x : Nat), (x ≤ A.length ∧ rCk W (W.hg (iSub 1048575 no)) (AV m) (List.take x A) = true) ∧ (Value.int .i64 0 = Value.int .i64 (iOf x) ∧ Value.int .i64 no = Value.int
  .i64 no ∧ Value.int .i64 (W.hg (iSub 1048575 no)) = Value.int .i64 (W.hg (iSub 1048575 no)) ∧ True) ∧ Cont.structs (KK) [] = Cont.structs (KK) (rLo W (W.hg (iSub 1048575 no))
  (List.take x A)) ∧ AV m = AV m ∧ Value.int .i64 n = Value.int .i64 n ∧ Cont.structs (KK) A = Cont.structs (KK) A ∧ True) ∧ ∀ (x : Nat), x ≤ A.length ∧ rCk W (W.hg (iSub 1048575 no))
  (AV m) (List.take x A) = true → If (iLt (iOf x) (iOf (Cont.structs KK A).n)) (If (iLe 0 (iOf x) && (iOf x).toNat.blt A.length) (If ((iOf x).toNat.blt A.length) (If (true && Nat.beq
  33 33 && (iOf x).toNat.blt A.length) (If (iLe (iNeg 1048576) ((A.getD (iOf x).toNat []).getD 0 0) && iLe ((A.getD (iOf x).toNat []).getD 0 0) 1048576) (If (iLe 0 (iSub 1048575
  ((A.getD (iOf x).toNat []).getD 0 0)) && iLe (iSub 1048575 ((A.getD (iOf x).toNat []).getD 0 0)) 1048575) (If (iLt (W.hg (iSub 1048575 ((A.getD (iOf x).toNat []).getD 0 0))) (W.hg
  (iSub 1048575 no))) (If (iLe 0 (W.hg (iSub 1048575 no)) && iLe (W.hg (iSub 1048575 no)) 20 && O.isH (AV m)) (If (iLe 0 (iOf x) && (iOf x).toNat.blt A.length) (If ((iOf x).toNat.blt
  A.length) (If (true && Nat.beq 33 33 && (iOf x).toNat.blt A.length) (If (!eqv (AV (W.cm (W.hg (iSub 1048575 no)) (iSub 1048575 ((A.getD (iOf x).toNat []).getD 0 0)) (AV m))) (AV (hK
  (A.getD (iOf x).toNat [])))) (Value.int .i64 23 = Value.int .i64 (rE W n A no (AV m)) ∧ True ∧ Value.int .i64 n = Value.int .i64 (rN W n A no (AV m)) ∧ Cont.structs (KK) A =
  Cont.structs (KK) (rA W n A no (AV m)) ∧ True) (If (iLe 0 (iSub 1048575 ((A.getD (iOf x).toNat []).getD 0 0)) && iLe (iSub 1048575 ((A.getD (iOf x).toNat []).getD 0 0)) 1048575) (If
  (iLt (W.hg (iSub 1048575 ((A.getD (iOf x).toNat []).getD 0 0))) (W.hg (iSub 1048575 no))) (If (iLe 0 (iOf x) && (iOf x).toNat.blt A.length) (If (true && Nat.beq 33 33 && (iOf
  x).toNat.blt A.length) (If ((nMul (nAdd (rLo W (W.hg (iSub 1048575 no)) (List.take x A)).length 1) 40).ble 140737488355328 && (nAdd (rLo W (W.hg (iSub 1048575 no)) (List.take x
  A)).length 1).ble 9223372036854775807) (∃ (x' : Nat), (x' ≤ A.length ∧ rCk W (W.hg (iSub 1048575 no)) (AV m) (List.take x' A) = true) ∧ (nSub A.length x').succ ≤ nSub A.length x ∧
  (Value.int .i64 (IntKind.i64.wrap (iAdd (iOf x) 1)) = Value.int .i64 (iOf x') ∧ Value.int .i64 no = Value.int .i64 no ∧ Value.int .i64 (W.hg (iSub 1048575 no)) = Value.int .i64
  (W.hg (iSub 1048575 no)) ∧ True) ∧ Cont.structs (app [.i64] (app (List.replicate 32 .u8) [])) (app (rLo W (W.hg (iSub 1048575 no)) (List.take x A)) [[(A.getD (iOf x).toNat []).getD
  0 0, (A.getD (iOf x).toNat []).getD 1 0, (A.getD (iOf x).toNat []).getD 2 0, (A.getD (iOf x).toNat []).getD 3 0, (A.getD (iOf x).toNat []).getD 4 0, (A.getD (iOf x).toNat []).getD 5
  0, (A.getD (iOf x).toNat []).getD 6 0, (A.getD (iOf x).toNat []).getD 7 0, (A.getD (iOf x).toNat []).getD 8 0, (A.getD (iOf x).toNat []).getD 9 0, (A.getD (iOf x).toNat []).getD 10
  0, (A.getD (iOf x).toNat []).getD 11 0, (A.getD (iOf x).toNat []).getD 12 0, (A.getD (iOf x).toNat []).getD 13 0, (A.getD (iOf x).toNat []).getD 14 0, (A.getD (iOf x).toNat []).getD
  15 0, (A.getD (iOf x).toNat []).getD 16 0, (A.getD (iOf x).toNat []).getD 17 0, (A.getD (iOf x).toNat []).getD 18 0, (A.getD (iOf x).toNat []).getD 19 0, (A.getD (iOf x).toNat
  []).getD 20 0, (A.getD (iOf x).toNat []).getD 21 0, (A.getD (iOf x).toNat []).getD 22 0, (A.getD (iOf x).toNat []).getD 23 0, (A.getD (iOf x).toNat []).getD 24 0, (A.getD (iOf
  x).toNat []).getD 25 0, (A.getD (iOf x).toNat []).getD 26 0, (A.getD (iOf x).toNat []).getD 27 0, (A.getD (iOf x).toNat []).getD 28 0, (A.getD (iOf x).toNat []).getD 29 0, (A.getD
  (iOf x).toNat []).getD 30 0, (A.getD (iOf x).toNat []).getD 31 0, (A.getD (iOf x).toNat []).getD 32 0]]) = Cont.structs (KK) (rLo W (W.hg (iSub 1048575 no)) (List.take x' A)) ∧ AV m
  = AV m ∧ Value.int .i64 n = Value.int .i64 n ∧ Cont.structs (KK) A = Cont.structs (KK) A ∧ True) False) False) False) (∃ (x' : Nat), (x' ≤ A.length ∧ rCk W (W.hg (iSub 1048575 no))
  (AV m) (List.take x' A) = true) ∧ (nSub A.length x').succ ≤ nSub A.length x ∧ (Value.int .i64 (IntKind.i64.wrap (iAdd (iOf x) 1)) = Value.int .i64 (iOf x') ∧ Value.int .i64 no =
  Value.int .i64 no ∧ Value.int .i64 (W.hg (iSub 1048575 no)) = Value.int .i64 (W.hg (iSub 1048575 no)) ∧ True) ∧ Cont.structs (KK) (rLo W (W.hg (iSub 1048575 no)) (List.take x A)) =
  Cont.structs (KK) (rLo W (W.hg (iSub 1048575 no)) (List.take x' A)) ∧ AV m = AV m ∧ Value.int .i64 n = Value.int .i64 n ∧ Cont.structs (KK) A = Cont.structs (KK) A ∧ True)) False))
  False) False) False) False) (If (iLe 0 (iSub 1048575 ((A.getD (iOf x).toNat []).getD 0 0)) && iLe (iSub 1048575 ((A.getD (iOf x).toNat []).getD 0 0)) 1048575) (If (iLt (W.hg (iSub
  1048575 ((A.getD (iOf x).toNat []).getD 0 0))) (W.hg (iSub 1048575 no))) (If (iLe 0 (iOf x) && (iOf x).toNat.blt A.length) (If (true && Nat.beq 33 33 && (iOf x).toNat.blt A.length)
  (If ((nMul (nAdd (rLo W (W.hg (iSub 1048575 no)) (List.take x A)).length 1) 40).ble 140737488355328 && (nAdd (rLo W (W.hg (iSub 1048575 no)) (List.take x A)).length 1).ble
  9223372036854775807) (∃ (x' : Nat), (x' ≤ A.length ∧ rCk W (W.hg (iSub 1048575 no)) (AV m) (List.take x' A) = true) ∧ (nSub A.length x').succ ≤ nSub A.length x ∧ (Value.int .i64
  (IntKind.i64.wrap (iAdd (iOf x) 1)) = Value.int .i64 (iOf x') ∧ Value.int .i64 no = Value.int .i64 no ∧ Value.int .i64 (W.hg (iSub 1048575 no)) = Value.int .i64 (W.hg (iSub 1048575
  no)) ∧ True) ∧ Cont.structs (app [.i64] (app (List.replicate 32 .u8) [])) (app (rLo W (W.hg (iSub 1048575 no)) (List.take x A)) [[(A.getD (iOf x).toNat []).getD 0 0, (A.getD (iOf
  x).toNat []).getD 1 0, (A.getD (iOf x).toNat []).getD 2 0, (A.getD (iOf x).toNat []).getD 3 0, (A.getD (iOf x).toNat []).getD 4 0, (A.getD (iOf x).toNat []).getD 5 0, (A.getD (iOf
  x).toNat []).getD 6 0, (A.getD (iOf x).toNat []).getD 7 0, (A.getD (iOf x).toNat []).getD 8 0, (A.getD (iOf x).toNat []).getD 9 0, (A.getD (iOf x).toNat []).getD 10 0, (A.getD (iOf
  x).toNat []).getD 11 0, (A.getD (iOf x).toNat []).getD 12 0, (A.getD (iOf x).toNat []).getD 13 0, (A.getD (iOf x).toNat []).getD 14 0, (A.getD (iOf x).toNat []).getD 15 0, (A.getD
  (iOf x).toNat []).getD 16 0, (A.getD (iOf x).toNat []).getD 17 0, (A.getD (iOf x).toNat []).getD 18 0, (A.getD (iOf x).toNat []).getD 19 0, (A.getD (iOf x).toNat []).getD 20 0,
  (A.getD (iOf x).toNat []).getD 21 0, (A.getD (iOf x).toNat []).getD 22 0, (A.getD (iOf x).toNat []).getD 23 0, (A.getD (iOf x).toNat []).getD 24 0, (A.getD (iOf x).toNat []).getD 25
  0, (A.getD (iOf x).toNat []).getD 26 0, (A.getD (iOf x).toNat []).getD 27 0, (A.getD (iOf x).toNat []).getD 28 0, (A.getD (iOf x).toNat []).getD 29 0, (A.getD (iOf x).toNat []).getD
  30 0, (A.getD (iOf x).toNat []).getD 31 0, (A.getD (iOf x).toNat []).getD 32 0]]) = Cont.structs (KK) (rLo W (W.hg (iSub 1048575 no)) (List.take x' A)) ∧ AV m = AV m ∧ Value.int
  .i64 n = Value.int .i64 n ∧ Cont.structs (KK) A = Cont.structs (KK) A ∧ True) False) False) False) (∃ (x' : Nat), (x' ≤ A.length ∧ rCk W (W.hg (iSub 1048575 no)) (AV m) (List.take
  x' A) = true) ∧ (nSub A.length x').succ ≤ nSub A.length x ∧ (Value.int .i64 (IntKind.i64.wrap (iAdd (iOf x) 1)) = Value.int .i64 (iOf x') ∧ Value.int .i64 no = Value.int .i64 no ∧
  Value.int .i64 (W.hg (iSub 1048575 no)) = Value.int .i64 (W.hg (iSub 1048575 no)) ∧ True) ∧ Cont.structs (KK) (rLo W (W.hg (iSub 1048575 no)) (List.take x A)) = Cont.structs (KK)
  (rLo W (W.hg (iSub 1048575 no)) (List.take x' A)) ∧ AV m = AV m ∧ Value.int .i64 n = Value.int .i64 n ∧ Cont.structs (KK) A = Cont.structs (KK) A ∧ True)) False)) False) False)
  False) False) False) (If ((nMul (nAdd (rLo W (W.hg (iSub 1048575 no)) (List.take x A)).length 1) 40).ble 140737488355328 && (nAdd (rLo W (W.hg (iSub 1048575 no)) (List.take x
  A)).length 1).ble 9223372036854775807) ((∃ (x_1 : Nat), x_1 ≤ A.length ∧ (Value.int .i64 0 = Value.int .i64 (iOf x_1) ∧ Value.int .i64 no = Value.int .i64 no ∧ Value.int .i64 (W.hg
  (iSub 1048575 no)) = Value.int .i64 (W.hg (iSub 1048575 no)) ∧ True) ∧ Cont.structs (app [.i64] (app (List.replicate 32 .u8) [])) (app (rLo W (W.hg (iSub 1048575 no)) (List.take x
  A)) [(no :: tabI (m) 32)]) = Cont.structs (KK) (app (app (rLo W (W.hg (iSub 1048575 no)) A) [no :: tabI (fnA (AV m)) 32]) (rHi W (W.hg (iSub 1048575 no)) (List.take x_1 A))) ∧ AV m
  = AV m ∧ Value.int .i64 n = Value.int .i64 n ∧ Cont.structs (KK) A = Cont.structs (KK) A ∧ True) ∧ ∀ (x : Nat), x ≤ A.length → If (iLt (iOf x) (iOf (Cont.structs KK A).n)) (If (iLe
  0 (iOf x) && (iOf x).toNat.blt A.length) (If ((iOf x).toNat.blt A.length) (If (true && Nat.beq 33 33 && (iOf x).toNat.blt A.length) (If (iLe (iNeg 1048576) ((A.getD (iOf x).toNat
  []).getD 0 0) && iLe ((A.getD (iOf x).toNat []).getD 0 0) 1048576) (If (iLe 0 (iSub 1048575 ((A.getD (iOf x).toNat []).getD 0 0)) && iLe (iSub 1048575 ((A.getD (iOf x).toNat
  []).getD 0 0)) 1048575) (If (iLt (W.hg (iSub 1048575 no)) (W.hg (iSub 1048575 ((A.getD (iOf x).toNat []).getD 0 0)))) (If (iLe 0 (iOf x) && (iOf x).toNat.blt A.length) (If (true &&
  Nat.beq 33 33 && (iOf x).toNat.blt A.length) (If ((nMul (nAdd (app (app (rLo W (W.hg (iSub 1048575 no)) A) [no :: tabI (fnA (AV m)) 32]) (rHi W (W.hg (iSub 1048575 no)) (List.take x
  A))).length 1) 40).ble 140737488355328 && (nAdd (app (app (rLo W (W.hg (iSub 1048575 no)) A) [no :: tabI (fnA (AV m)) 32]) (rHi W (W.hg (iSub 1048575 no)) (List.take x A))).length
  1).ble 9223372036854775807) (∃ (x' : Nat), x' ≤ A.length ∧ (nSub A.length x').succ ≤ nSub A.length x ∧ (Value.int .i64 (IntKind.i64.wrap (iAdd (iOf x) 1)) = Value.int .i64 (iOf x')
  ∧ Value.int .i64 no = Value.int .i64 no ∧ Value.int .i64 (W.hg (iSub 1048575 no)) = Value.int .i64 (W.hg (iSub 1048575 no)) ∧ True) ∧ Cont.structs (app [.i64] (app (List.replicate
  32 .u8) [])) (app (app (app (rLo W (W.hg (iSub 1048575 no)) A) [no :: tabI (fnA (AV m)) 32]) (rHi W (W.hg (iSub 1048575 no)) (List.take x A))) [[(A.getD (iOf x).toNat []).getD 0 0,
  (A.getD (iOf x).toNat []).getD 1 0, (A.getD (iOf x).toNat []).getD 2 0, (A.getD (iOf x).toNat []).getD 3 0, (A.getD (iOf x).toNat []).getD 4 0, (A.getD (iOf x).toNat []).getD 5 0,
  (A.getD (iOf x).toNat []).getD 6 0, (A.getD (iOf x).toNat []).getD 7 0, (A.getD (iOf x).toNat []).getD 8 0, (A.getD (iOf x).toNat []).getD 9 0, (A.getD (iOf x).toNat []).getD 10 0,
  (A.getD (iOf x).toNat []).getD 11 0, (A.getD (iOf x).toNat []).getD 12 0, (A.getD (iOf x).toNat []).getD 13 0, (A.getD (iOf x).toNat []).getD 14 0, (A.getD (iOf x).toNat []).getD 15
  0, (A.getD (iOf x).toNat []).getD 16 0, (A.getD (iOf x).toNat []).getD 17 0, (A.getD (iOf x).toNat []).getD 18 0, (A.getD (iOf x).toNat []).getD 19 0, (A.getD (iOf x).toNat []).getD
  20 0, (A.getD (iOf x).toNat []).getD 21 0, (A.getD (iOf x).toNat []).getD 22 0, (A.getD (iOf x).toNat []).getD 23 0, (A.getD (iOf x).toNat []).getD 24 0, (A.getD (iOf x).toNat
  []).getD 25 0, (A.getD (iOf x).toNat []).getD 26 0, (A.getD (iOf x).toNat []).getD 27 0, (A.getD (iOf x).toNat []).getD 28 0, (A.getD (iOf x).toNat []).getD 29 0, (A.getD (iOf
  x).toNat []).getD 30 0, (A.getD (iOf x).toNat []).getD 31 0, (A.getD (iOf x).toNat []).getD 32 0]]) = Cont.structs (KK) (app (app (rLo W (W.hg (iSub 1048575 no)) A) [no :: tabI (fnA
  (AV m)) 32]) (rHi W (W.hg (iSub 1048575 no)) (List.take x' A))) ∧ AV m = AV m ∧ Value.int .i64 n = Value.int .i64 n ∧ Cont.structs (KK) A = Cont.structs (KK) A ∧ True) False) False)
  False) (∃ (x' : Nat), x' ≤ A.length ∧ (nSub A.length x').succ ≤ nSub A.length x ∧ (Value.int .i64 (IntKind.i64.wrap (iAdd (iOf x) 1)) = Value.int .i64 (iOf x') ∧ Value.int .i64 no =
  Value.int .i64 no ∧ Value.int .i64 (W.hg (iSub 1048575 no)) = Value.int .i64 (W.hg (iSub 1048575 no)) ∧ True) ∧ Cont.structs (KK) (app (app (rLo W (W.hg (iSub 1048575 no)) A) [no ::
  tabI (fnA (AV m)) 32]) (rHi W (W.hg (iSub 1048575 no)) (List.take x A))) = Cont.structs (KK) (app (app (rLo W (W.hg (iSub 1048575 no)) A) [no :: tabI (fnA (AV m)) 32]) (rHi W (W.hg
  (iSub 1048575 no)) (List.take x' A))) ∧ AV m = AV m ∧ Value.int .i64 n = Value.int .i64 n ∧ Cont.structs (KK) A = Cont.structs (KK) A ∧ True)) False) False) False) False) False)
  (Value.int .i64 0 = Value.int .i64 (rE W n A no (AV m)) ∧ True ∧ Value.int .i64 (IntKind.i64.wrap (iAdd no 1)) = Value.int .i64 (rN W n A no (AV m)) ∧ Cont.structs (KK) (app (app
  (rLo W (W.hg (iSub 1048575 no)) A) [no :: tabI (fnA (AV m)) 32]) (rHi W (W.hg (iSub 1048575 no)) (List.take x A))) = Cont.structs (KK) (rA W n A no (AV m)) ∧ True)) False)) False)
  False))) := by
 simp only [Bool.and_eq_true, Bool.or_eq_true, Sx.iLt_t, Sx.iLt_f, Sx.iLe_t, Sx.iLe_f, Sx.iEq_t, Sx.iEq_f, Sx.iBeq_t, Sx.iBeq_f, Sx.iBne_t, Sx.iBne_f, Nat.ble_eq, Nat.beq_eq, Sx.Cont.n] at h0
 have h3' := Nat.le_of_ble_eq_true h3
 have eK : app [IntKind.i64] (app (List.replicate 32 IntKind.u8) []) = KK := by kernel_rfl
 refine Sx.if_both (fun q1 => ?_) (fun q1 => Sx.if_both (fun q2 => ?_) (fun q2 => Sx.if_both (fun q3 => ?_) (fun q3 => ?_)))
 ·have e : rE W n A no (AV m) = 1 := by unfold rE; rw [q1]; rfl
  have e2 : rN W n A no (AV m) = n := by unfold rN; rw [e]; rfl
  have e3 : rA W n A no (AV m) = A := by unfold rA; rw [e]; rfl
  rw [e, e2, e3]; exact (by repeat' (first | exact True.intro | exact rfl | refine ⟨?_, ?_⟩))
 ·simp only [Bool.and_eq_true, Bool.or_eq_true, Sx.iLt_t, Sx.iLt_f, Sx.iLe_t, Sx.iLe_f, Sx.iEq_t, Sx.iEq_f, Sx.iBeq_t, Sx.iBeq_f, Sx.iBne_t, Sx.iBne_f, Nat.ble_eq, Nat.beq_eq, Sx.Cont.n] at q1 q2; omega
 ·have e : rE W n A no (AV m) = 1 := by unfold rE; rw [q1, q3]; rfl
  have e2 : rN W n A no (AV m) = n := by unfold rN; rw [e]; rfl
  have e3 : rA W n A no (AV m) = A := by unfold rA; rw [e]; rfl
  rw [e, e2, e3]; exact (by repeat' (first | exact True.intro | exact rfl | refine ⟨?_, ?_⟩))
 have eE : rE W n A no (AV m) = bif rCk W (W.hg (iSub 1048575 no)) (AV m) A then 0 else 23 := by unfold rE; rw [q1, q3]; rfl
 have eA : rA W n A no (AV m) = bif iBeq (rE W n A no (AV m)) 0 then rLo W (W.hg (iSub 1048575 no)) A ++ [no :: tabI (fnA (AV m)) 32] ++ rHi W (W.hg (iSub 1048575 no)) A else A := rfl
 simp only [Bool.and_eq_true, Bool.or_eq_true, Sx.iLt_t, Sx.iLt_f, Sx.iLe_t, Sx.iLe_f, Sx.iEq_t, Sx.iEq_f, Sx.iBeq_t, Sx.iBeq_f, Sx.iBne_t, Sx.iBne_f, Nat.ble_eq, Nat.beq_eq, Sx.Cont.n] at q1 q2 q3
 have hg : 0 ≤ W.hg (iSub 1048575 no) ∧ W.hg (iSub 1048575 no) ≤ 20 := hg_le hw _
 obtain ⟨H, hH⟩ : ∃ H, W.hg (iSub 1048575 no) = H := ⟨_, rfl⟩
 rw [hH] at hg eE eA
 obtain ⟨E, hE⟩ : ∃ E : Nat → Bool, ∀ x, eqv (AV (W.cm H (iSub 1048575 ((A.getD x []).getD 0 0)) (AV m))) (AV (hK (A.getD x []))) = E x := ⟨_, fun _ => rfl⟩
 simp only [hH, hE, eK, h2]
 refine Sx.if_true (by simp only [Bool.and_eq_true, Bool.or_eq_true, Sx.iLt_t, Sx.iLt_f, Sx.iLe_t, Sx.iLe_f, Sx.iEq_t, Sx.iEq_f, Sx.iBeq_t, Sx.iBeq_f, Sx.iBne_t, Sx.iBne_f, Nat.ble_eq, Nat.beq_eq, Sx.Cont.n, Sx.app, Sx.nAdd, Sx.nSub, Sx.nMul, Sx.nPow, Sx.nDiv, Sx.nMod, Sx.iAdd, Sx.iSub, Sx.iMul, Sx.iNeg, Sx.iPow, Sx.iOf]; omega) (Sx.if_true (by simp only [Bool.and_eq_true, Bool.or_eq_true, Sx.iLt_t, Sx.iLt_f, Sx.iLe_t, Sx.iLe_f, Sx.iEq_t, Sx.iEq_f, Sx.iBeq_t, Sx.iBeq_f, Sx.iBne_t, Sx.iBne_f, Nat.ble_eq, Nat.beq_eq, Sx.Cont.n, Sx.app, Sx.nAdd, Sx.nSub, Sx.nMul, Sx.nPow, Sx.nDiv, Sx.nMod, Sx.iAdd, Sx.iSub, Sx.iMul, Sx.iNeg, Sx.iPow, Sx.iOf]; omega) ⟨⟨0, ⟨Nat.zero_le _, rfl⟩, (by repeat' (first | exact True.intro | exact rfl | refine ⟨?_, ?_⟩))⟩, fun x ⟨c1, c2⟩ => ?_⟩)
 have hn : (iOf x).toNat = x := by simp only [Sx.app, Sx.nAdd, Sx.nSub, Sx.nMul, Sx.nPow, Sx.nDiv, Sx.nMod, Sx.iAdd, Sx.iSub, Sx.iMul, Sx.iNeg, Sx.iPow, Sx.iOf, Int.toNat_natCast]
 rw [hn]
 refine Sx.if_both (fun d => ?_) (fun d => ?_)
 ·simp only [Bool.and_eq_true, Bool.or_eq_true, Sx.iLt_t, Sx.iLt_f, Sx.iLe_t, Sx.iLe_f, Sx.iEq_t, Sx.iEq_f, Sx.iBeq_t, Sx.iBeq_f, Sx.iBne_t, Sx.iBne_f, Nat.ble_eq, Nat.beq_eq, Sx.Cont.n, Sx.app, Sx.nAdd, Sx.nSub, Sx.nMul, Sx.nPow, Sx.nDiv, Sx.nMod, Sx.iAdd, Sx.iSub, Sx.iMul, Sx.iNeg, Sx.iPow, Sx.iOf] at d
  have hx : x < A.length := by omega
  have hb : x.blt A.length = true := by rw [Nat.blt_eq]; exact hx
  have w1 : IntKind.i64.wrap (iAdd (iOf x) 1) = iOf (x + 1) := by simp only [Sx.app, Sx.nAdd, Sx.nSub, Sx.nMul, Sx.nPow, Sx.nDiv, Sx.nMod, Sx.iAdd, Sx.iSub, Sx.iMul, Sx.iNeg, Sx.iPow, Sx.iOf]; rw [IntKind.wrap_i64]; omega
  obtain ⟨y1, y2, y3⟩ := okA_at h1 hx
  have sL := rLo_next (W := W) (H := H) hx
  have sC := rCk_next (W := W) (H := H) (a := AV m) hx
  have sF := rCk_at (W := W) (H := H) (a := AV m) hx
  have sl := rLo_len (W := W) (H := H) (A := A) x
  rw [c2, Bool.true_and] at sC
  rw [show eqv (AV (W.cm H (pl8 (A.getD x [])) (AV m))) (AV (hK (A.getD x []))) = E x from hE x] at sC sF
  rw [show W.hg (pl8 (A.getD x [])) = W.hg (iSub 1048575 ((A.getD x []).getD 0 0)) from rfl] at sC sF sL
  rw [norm33 _ y1, hb, w1]
  generalize W.hg (iSub 1048575 ((A.getD x []).getD 0 0)) = P at *
  have hidx : (iLe 0 (iOf x) && true) = true := by simp only [Bool.and_eq_true, Bool.or_eq_true, Sx.iLt_t, Sx.iLt_f, Sx.iLe_t, Sx.iLe_f, Sx.iEq_t, Sx.iEq_f, Sx.iBeq_t, Sx.iBeq_f, Sx.iBne_t, Sx.iBne_f, Nat.ble_eq, Nat.beq_eq, Sx.Cont.n, Sx.app, Sx.nAdd, Sx.nSub, Sx.nMul, Sx.nPow, Sx.nDiv, Sx.nMod, Sx.iAdd, Sx.iSub, Sx.iMul, Sx.iNeg, Sx.iPow, Sx.iOf]; exact ⟨by omega, trivial⟩
  have hp0 : (iLe 0 (iSub 1048575 ((A.getD x []).getD 0 0)) && iLe (iSub 1048575 ((A.getD x []).getD 0 0)) 1048575) = true := by simp only [Bool.and_eq_true, Bool.or_eq_true, Sx.iLt_t, Sx.iLt_f, Sx.iLe_t, Sx.iLe_f, Sx.iEq_t, Sx.iEq_f, Sx.iBeq_t, Sx.iBeq_f, Sx.iBne_t, Sx.iBne_f, Nat.ble_eq, Nat.beq_eq, Sx.Cont.n, Sx.app, Sx.nAdd, Sx.nSub, Sx.nMul, Sx.nPow, Sx.nDiv, Sx.nMod, Sx.iAdd, Sx.iSub, Sx.iMul, Sx.iNeg, Sx.iPow, Sx.iOf]; omega
  have hsz : ((nMul (nAdd (rLo W H (List.take x A)).length 1) 40).ble 140737488355328 && (nAdd (rLo W H (List.take x A)).length 1).ble 9223372036854775807) = true := by simp only [Bool.and_eq_true, Bool.or_eq_true, Sx.iLt_t, Sx.iLt_f, Sx.iLe_t, Sx.iLe_f, Sx.iEq_t, Sx.iEq_f, Sx.iBeq_t, Sx.iBeq_f, Sx.iBne_t, Sx.iBne_f, Nat.ble_eq, Nat.beq_eq, Sx.Cont.n, Sx.app, Sx.nAdd, Sx.nSub, Sx.nMul, Sx.nPow, Sx.nDiv, Sx.nMod, Sx.iAdd, Sx.iSub, Sx.iMul, Sx.iNeg, Sx.iPow, Sx.iOf]; omega
  refine Sx.if_true hidx (Sx.if_true rfl (Sx.if_true rfl (Sx.if_true (by simp only [Bool.and_eq_true, Bool.or_eq_true, Sx.iLt_t, Sx.iLt_f, Sx.iLe_t, Sx.iLe_f, Sx.iEq_t, Sx.iEq_f, Sx.iBeq_t, Sx.iBeq_f, Sx.iBne_t, Sx.iBne_f, Nat.ble_eq, Nat.beq_eq, Sx.Cont.n, Sx.app, Sx.nAdd, Sx.nSub, Sx.nMul, Sx.nPow, Sx.nDiv, Sx.nMod, Sx.iAdd, Sx.iSub, Sx.iMul, Sx.iNeg, Sx.iPow, Sx.iOf]; omega) (Sx.if_true hp0 (Sx.if_both (fun p => ?_) (fun p => ?_))))))
  ·rw [p] at sL sC
   refine Sx.if_true (by rw [Bool.and_true]; simp only [Bool.and_eq_true, Bool.or_eq_true, Sx.iLt_t, Sx.iLt_f, Sx.iLe_t, Sx.iLe_f, Sx.iEq_t, Sx.iEq_f, Sx.iBeq_t, Sx.iBeq_f, Sx.iBne_t, Sx.iBne_f, Nat.ble_eq, Nat.beq_eq, Sx.Cont.n]; omega) (Sx.if_true hidx (Sx.if_true rfl (Sx.if_true rfl (Sx.if_both (fun e => ?_) (fun e => ?_)))))
   ·have e : E x = false := by simpa using e
    have eE : rE W n A no (AV m) = 23 := by rw [eE, sF p e]; rfl
    have e2 : rN W n A no (AV m) = n := by unfold rN; rw [eE]; rfl
    have e3 : rA W n A no (AV m) = A := by rw [eA, eE]; rfl
    rw [eE, e2, e3]; exact (by repeat' (first | exact True.intro | exact rfl | refine ⟨?_, ?_⟩))
   ·have e : E x = true := by simpa using e
    rw [e] at sC
    refine Sx.if_true hp0 (Sx.if_true p (Sx.if_true hidx (Sx.if_true rfl (Sx.if_true hsz ⟨x + 1, ⟨hx, sC⟩, by simp only [Sx.app, Sx.nAdd, Sx.nSub, Sx.nMul, Sx.nPow, Sx.nDiv, Sx.nMod, Sx.iAdd, Sx.iSub, Sx.iMul, Sx.iNeg, Sx.iPow, Sx.iOf]; omega, ?_⟩))))
    refine ⟨(by repeat' (first | exact True.intro | exact rfl | refine ⟨?_, ?_⟩)), ?_, (by repeat' (first | exact True.intro | exact rfl | refine ⟨?_, ?_⟩))⟩
    rw [sL]; exact rfl
  ·rw [p] at sL sC
   refine Sx.if_true hp0 (Sx.if_false p ⟨x + 1, ⟨hx, sC⟩, by simp only [Sx.app, Sx.nAdd, Sx.nSub, Sx.nMul, Sx.nPow, Sx.nDiv, Sx.nMod, Sx.iAdd, Sx.iSub, Sx.iMul, Sx.iNeg, Sx.iPow, Sx.iOf]; omega, ?_⟩)
   refine ⟨(by repeat' (first | exact True.intro | exact rfl | refine ⟨?_, ?_⟩)), ?_, (by repeat' (first | exact True.intro | exact rfl | refine ⟨?_, ?_⟩))⟩
   rw [sL, cond_false, List.append_nil]
 ·simp only [Bool.and_eq_true, Bool.or_eq_true, Sx.iLt_t, Sx.iLt_f, Sx.iLe_t, Sx.iLe_f, Sx.iEq_t, Sx.iEq_f, Sx.iBeq_t, Sx.iBeq_f, Sx.iBne_t, Sx.iBne_f, Nat.ble_eq, Nat.beq_eq, Sx.Cont.n, Sx.app, Sx.nAdd, Sx.nSub, Sx.nMul, Sx.nPow, Sx.nDiv, Sx.nMod, Sx.iAdd, Sx.iSub, Sx.iMul, Sx.iNeg, Sx.iPow, Sx.iOf] at d
  obtain rfl : x = A.length := by omega
  rw [List.take_length] at c2
  have sl := rLo_len (W := W) (H := H) (A := A) A.length
  rw [List.take_length] at sl ⊢
  have eE : rE W n A no (AV m) = 0 := by rw [eE, c2]; rfl
  have eN : rN W n A no (AV m) = n + 1 := by unfold rN; rw [eE]; rfl
  rw [eE] at eA
  have eA : rA W n A no (AV m) = rLo W H A ++ [no :: tabI (fnA (AV m)) 32] ++ rHi W H A := eA
  rw [eE, eN, eA]
  refine Sx.if_true (by simp only [Bool.and_eq_true, Bool.or_eq_true, Sx.iLt_t, Sx.iLt_f, Sx.iLe_t, Sx.iLe_f, Sx.iEq_t, Sx.iEq_f, Sx.iBeq_t, Sx.iBeq_f, Sx.iBne_t, Sx.iBne_f, Nat.ble_eq, Nat.beq_eq, Sx.Cont.n, Sx.app, Sx.nAdd, Sx.nSub, Sx.nMul, Sx.nPow, Sx.nDiv, Sx.nMod, Sx.iAdd, Sx.iSub, Sx.iMul, Sx.iNeg, Sx.iPow, Sx.iOf]; omega) ⟨⟨0, Nat.zero_le _, (by repeat' (first | exact True.intro | exact rfl | refine ⟨?_, ?_⟩)), ?_, (by repeat' (first | exact True.intro | exact rfl | refine ⟨?_, ?_⟩))⟩, fun x hx => ?_⟩
  ·rw [fn_tab]
   show Cont.structs KK (rLo W H A ++ [no :: tabI m 32]) = Cont.structs KK ((rLo W H A ++ [no :: tabI m 32]) ++ [])
   rw [List.append_nil]
  have hn : (iOf x).toNat = x := by simp only [Sx.app, Sx.nAdd, Sx.nSub, Sx.nMul, Sx.nPow, Sx.nDiv, Sx.nMod, Sx.iAdd, Sx.iSub, Sx.iMul, Sx.iNeg, Sx.iPow, Sx.iOf, Int.toNat_natCast]
  rw [hn]
  refine Sx.if_both (fun d => ?_) (fun d => ?_)
  ·simp only [Bool.and_eq_true, Bool.or_eq_true, Sx.iLt_t, Sx.iLt_f, Sx.iLe_t, Sx.iLe_f, Sx.iEq_t, Sx.iEq_f, Sx.iBeq_t, Sx.iBeq_f, Sx.iBne_t, Sx.iBne_f, Nat.ble_eq, Nat.beq_eq, Sx.Cont.n, Sx.app, Sx.nAdd, Sx.nSub, Sx.nMul, Sx.nPow, Sx.nDiv, Sx.nMod, Sx.iAdd, Sx.iSub, Sx.iMul, Sx.iNeg, Sx.iPow, Sx.iOf] at d
   have hx : x < A.length := by omega
   have hb : x.blt A.length = true := by rw [Nat.blt_eq]; exact hx
   have w1 : IntKind.i64.wrap (iAdd (iOf x) 1) = iOf (x + 1) := by simp only [Sx.app, Sx.nAdd, Sx.nSub, Sx.nMul, Sx.nPow, Sx.nDiv, Sx.nMod, Sx.iAdd, Sx.iSub, Sx.iMul, Sx.iNeg, Sx.iPow, Sx.iOf]; rw [IntKind.wrap_i64]; omega
   obtain ⟨y1, y2, y3⟩ := okA_at h1 hx
   have sR := rHi_next (W := W) (H := H) hx
   have sh := rHi_len (W := W) (H := H) (A := A) x
   rw [show W.hg (pl8 (A.getD x [])) = W.hg (iSub 1048575 ((A.getD x []).getD 0 0)) from rfl] at sR
   rw [norm33 _ y1, hb, w1]
   generalize W.hg (iSub 1048575 ((A.getD x []).getD 0 0)) = P at *
   have hidx : (iLe 0 (iOf x) && true) = true := by simp only [Bool.and_eq_true, Bool.or_eq_true, Sx.iLt_t, Sx.iLt_f, Sx.iLe_t, Sx.iLe_f, Sx.iEq_t, Sx.iEq_f, Sx.iBeq_t, Sx.iBeq_f, Sx.iBne_t, Sx.iBne_f, Nat.ble_eq, Nat.beq_eq, Sx.Cont.n, Sx.app, Sx.nAdd, Sx.nSub, Sx.nMul, Sx.nPow, Sx.nDiv, Sx.nMod, Sx.iAdd, Sx.iSub, Sx.iMul, Sx.iNeg, Sx.iPow, Sx.iOf]; exact ⟨by omega, trivial⟩
   refine Sx.if_true hidx (Sx.if_true rfl (Sx.if_true rfl (Sx.if_true (by simp only [Bool.and_eq_true, Bool.or_eq_true, Sx.iLt_t, Sx.iLt_f, Sx.iLe_t, Sx.iLe_f, Sx.iEq_t, Sx.iEq_f, Sx.iBeq_t, Sx.iBeq_f, Sx.iBne_t, Sx.iBne_f, Nat.ble_eq, Nat.beq_eq, Sx.Cont.n, Sx.app, Sx.nAdd, Sx.nSub, Sx.nMul, Sx.nPow, Sx.nDiv, Sx.nMod, Sx.iAdd, Sx.iSub, Sx.iMul, Sx.iNeg, Sx.iPow, Sx.iOf]; omega) (Sx.if_true (by simp only [Bool.and_eq_true, Bool.or_eq_true, Sx.iLt_t, Sx.iLt_f, Sx.iLe_t, Sx.iLe_f, Sx.iEq_t, Sx.iEq_f, Sx.iBeq_t, Sx.iBeq_f, Sx.iBne_t, Sx.iBne_f, Nat.ble_eq, Nat.beq_eq, Sx.Cont.n, Sx.app, Sx.nAdd, Sx.nSub, Sx.nMul, Sx.nPow, Sx.nDiv, Sx.nMod, Sx.iAdd, Sx.iSub, Sx.iMul, Sx.iNeg, Sx.iPow, Sx.iOf]; omega) (Sx.if_both (fun p => ?_) (fun p => ?_))))))
   ·rw [p] at sR
    refine Sx.if_true hidx (Sx.if_true rfl (Sx.if_true (by simp only [Bool.and_eq_true, Bool.or_eq_true, Sx.iLt_t, Sx.iLt_f, Sx.iLe_t, Sx.iLe_f, Sx.iEq_t, Sx.iEq_f, Sx.iBeq_t, Sx.iBeq_f, Sx.iBne_t, Sx.iBne_f, Nat.ble_eq, Nat.beq_eq, Sx.Cont.n, Sx.app, Sx.nAdd, Sx.nSub, Sx.nMul, Sx.nPow, Sx.nDiv, Sx.nMod, Sx.iAdd, Sx.iSub, Sx.iMul, Sx.iNeg, Sx.iPow, Sx.iOf, List.length_append, List.length_cons, List.length_nil]; omega) ⟨x + 1, hx, by simp only [Sx.app, Sx.nAdd, Sx.nSub, Sx.nMul, Sx.nPow, Sx.nDiv, Sx.nMod, Sx.iAdd, Sx.iSub, Sx.iMul, Sx.iNeg, Sx.iPow, Sx.iOf]; omega, ?_⟩))
    refine ⟨(by repeat' (first | exact True.intro | exact rfl | refine ⟨?_, ?_⟩)), ?_, (by repeat' (first | exact True.intro | exact rfl | refine ⟨?_, ?_⟩))⟩
    rw [sR]
    show Cont.structs KK (((rLo W H A ++ [no :: tabI (fnA (AV m)) 32]) ++ rHi W H (List.take x A)) ++ [A.getD x []]) = Cont.structs KK ((rLo W H A ++ [no :: tabI (fnA (AV m)) 32]) ++ (rHi W H (List.take x A) ++ [A.getD x []]))
    rw [List.append_assoc]
   ·rw [p] at sR
    refine ⟨x + 1, hx, by simp only [Sx.app, Sx.nAdd, Sx.nSub, Sx.nMul, Sx.nPow, Sx.nDiv, Sx.nMod, Sx.iAdd, Sx.iSub, Sx.iMul, Sx.iNeg, Sx.iPow, Sx.iOf]; omega, ?_⟩
    refine ⟨(by repeat' (first | exact True.intro | exact rfl | refine ⟨?_, ?_⟩)), ?_, (by repeat' (first | exact True.intro | exact rfl | refine ⟨?_, ?_⟩))⟩
    rw [sR, cond_false, List.append_nil]
  ·simp only [Bool.and_eq_true, Bool.or_eq_true, Sx.iLt_t, Sx.iLt_f, Sx.iLe_t, Sx.iLe_f, Sx.iEq_t, Sx.iEq_f, Sx.iBeq_t, Sx.iBeq_f, Sx.iBne_t, Sx.iBne_f, Nat.ble_eq, Nat.beq_eq, Sx.Cont.n, Sx.app, Sx.nAdd, Sx.nSub, Sx.nMul, Sx.nPow, Sx.nDiv, Sx.nMod, Sx.iAdd, Sx.iSub, Sx.iMul, Sx.iNeg, Sx.iPow, Sx.iOf] at d
   obtain rfl : x = A.length := by omega
   rw [List.take_length]
   have w2 : IntKind.i64.wrap (iAdd no 1) = n + 1 := by simp only [Sx.app, Sx.nAdd, Sx.nSub, Sx.nMul, Sx.nPow, Sx.nDiv, Sx.nMod, Sx.iAdd, Sx.iSub, Sx.iMul, Sx.iNeg, Sx.iPow, Sx.iOf]; rw [IntKind.wrap_i64]; omega
   rw [w2]; exact (by repeat' (first | exact True.intro | exact rfl | refine ⟨?_, ?_⟩))
theorem wpc_radd (O : OO) (R : OB) (W : OW) (n : Int) (A : List (List Int)) (no : Int) (m : Nat → Int) (F : FO O) (hr : R = bO) (hw : W = wO O) (h0 : (iLe 0 n && iLe n 1048576) = true) (h1 : (okA O A) = true) (h2 : (O.isH (AV m)) = true) (h3 : (Nat.ble A.length 1000) = true) : wpcI Tryd.prog (spD2 O R W) Tryd.f14.ntmps [⟨Nat, [0, 1, 5, 7], [(8, 62, .structs KK [])], fun B k => [(8, .row B), (9, .v (.int .i64 (k : Nat)))], fun B k => [(B, .own 62 (.structs KK (rLo W (W.hg (1048575 - no)) (A.take k))))], fun k => k ≤ A.length ∧ rCk W (W.hg (1048575 - no)) (AV m) (A.take k) = true, fun k => A.length - k, 0⟩, ⟨Nat, [0, 1, 5, 7], [(8, 62, .structs KK [])], fun B k => [(8, .row B), (11, .v (.int .i64 (k : Nat)))], fun B k => [(B, .own 62 (.structs KK (rLo W (W.hg (1048575 - no)) A ++ [no :: tabI (fnA (AV m)) 32] ++ rHi W (W.hg (1048575 - no)) (A.take k))))], fun k => k ≤ A.length, fun k => A.length - k, 0⟩] (bodyOf Tryd.f14) 0 64 (envP (mks [.obj 57 [.v, .roS KK], .v, .v] [.node [.v (.int .i64 n), .structs A], .v (.int .i64 no), .v (.agg (AV m))] 0).1 0) (mks [.obj 57 [.v, .roS KK], .v, .v] [.node [.v (.int .i64 n), .structs A], .v (.int .i64 no), .v (.agg (AV m))] 0).2 (retP Tryd.prog Tryd.f14.results.toList 2 (⟨[.v (.int .i64 (rE W n A no (AV m)))], [(0, .blk 57 [.v (.int .i64 (rN W n A no (AV m))), .row 2]), (2, .ro (.structs KK (rA W n A no (AV m))))]⟩ : Post)) :=
 Eq.mpr (by kernel_rfl) (vc_radd O R W n A no m F hr hw h0 h1 h2 h3)
theorem ok_radd (I : Sx.Interp) (O : OO) (hO : O = oo) (R : OB) (hR : R = bO) (W : OW) (hW : W = wO O) : Sx.SpecOK I Tryd.prog 14 (pspec [.obj 57 [.v, .roS KK], .v, .v] true (g_radd O R W)) := by
 refine spec_pI (spD2_ok I O hO R hR W hW) (by kernel_rfl) (fun ds => match ds with | [.node [.v (.int .i64 n), .structs A], .v (.int .i64 no), .v (.agg a)] => [⟨Nat, [0, 1, 5, 7], [(8, 62, .structs KK [])], fun B k => [(8, .row B), (9, .v (.int .i64 (k : Nat)))], fun B k => [(B, .own 62 (.structs KK (rLo W (W.hg (1048575 - no)) (A.take k))))], fun k => k ≤ A.length ∧ rCk W (W.hg (1048575 - no)) a (A.take k) = true, fun k => A.length - k, 0⟩, ⟨Nat, [0, 1, 5, 7], [(8, 62, .structs KK [])], fun B k => [(8, .row B), (11, .v (.int .i64 (k : Nat)))], fun B k => [(B, .own 62 (.structs KK (rLo W (W.hg (1048575 - no)) A ++ [no :: tabI (fnA a) 32] ++ rHi W (W.hg (1048575 - no)) (A.take k))))], fun k => k ≤ A.length, fun k => A.length - k, 0⟩] | _ => []) Tryd.func14 (by kernel_rfl) (by kernel_rfl) rfl Tryd.ntmps14 (by decide) ?_ ?_
 ·intro ds p bs F h
  unfold g_radd at h
  split at h
  ·rename_i n A no a
   simp only [Option.some.injEq, Prod.mk.injEq] at h
   obtain ⟨_, _, rfl⟩ := h
   kernel_rfl
  ·cases h
 ·intro ds bs F hl h
  unfold g_radd at h
  split at h
  ·rename_i n A no a
   simp only [Option.some.injEq, Prod.mk.injEq, Bool.and_eq_true] at h
   obtain ⟨⟨⟨⟨h0, h1⟩, h2⟩, h3⟩, _, rfl⟩ := h
   obtain ⟨m, rfl⟩ := isH_AV (by subst hO; exact h2 : isHa a = true)
   exact wpc_radd O R W n A no m (fo_oo O hO) hR hW (by first | exact h0 | (simp only [Bool.and_eq_true]; exact h0)) (by first | exact h1 | (simp only [Bool.and_eq_true]; exact h1)) (by first | exact h2 | (simp only [Bool.and_eq_true]; exact h2)) (by first | exact h3 | (simp only [Bool.and_eq_true]; exact h3))
  ·cases h
def g_rget (O : OO) (R : OB) (W : OW) (ds : List Dt) : Option (Bool × List Bool × (List Bool → Post)) := match ds with
 | [.node [.v (.int .i64 n), .structs A], .v (.int .i64 no)] => some ((iLe 0 n && iLe n 1048576) && (okA O A) && (Nat.ble A.length 1000) && (iLe (-9223372036854775808) no), [], fun _ => ⟨[.v (.agg (AV (rGF W n no A))), .v (.bool (rGB W n no A))], []⟩)
 | _ => none
set_option maxHeartbeats 4000000 in
theorem vc_rget (O : OO) (R : OB) (W : OW) (n : Int) (A : List (List Int)) (no : Int) (F : FO O) (hr : R = bO) (hw : W = wO O) (h0 : (iLe 0 n && iLe n 1048576) = true) (h1 : (okA O A) = true) (h3 : (Nat.ble A.length 1000) = true) (h2 : (iLe (-9223372036854775808) no) = true) :
 If (iLt no 0) ((Value.agg (Array.mk (List.replicate 32 (Value.int .u8 0))) = Value.agg (AV (rGF W n no A)) ∧ Value.bool false = Value.bool (rGB W n no A)) ∧ True ∧ True) (If (iLe n
  no) ((Value.agg (Array.mk (List.replicate 32 (Value.int .u8 0))) = Value.agg (AV (rGF W n no A)) ∧ Value.bool false = Value.bool (rGB W n no A)) ∧ True ∧ True) (If (iLe (iNeg
  1048576) no && iLe no 1048576) ((∃ (x : Nat), (x ≤ A.length ∧ rFi W A (iSub 1048575 no) A.length 0 = rFi W A (iSub 1048575 no) (nSub A.length x) x) ∧ (Value.int .i64 0 = Value.int
  .i64 (iOf x) ∧ Value.int .i64 no = Value.int .i64 no ∧ Value.int .i64 (iSub 1048575 no) = Value.int .i64 (iSub 1048575 no) ∧ True) ∧ Array.mk (List.replicate 32 (Value.int .u8 0)) =
  Array.mk (List.replicate 32 (Value.int .u8 0)) ∧ Value.int .i64 n = Value.int .i64 n ∧ Cont.structs (KK) A = Cont.structs (KK) A ∧ True) ∧ ∀ (x : Nat), x ≤ A.length ∧ rFi W A (iSub
  1048575 no) A.length 0 = rFi W A (iSub 1048575 no) (nSub A.length x) x → If (iLt (iOf x) (iOf (Cont.structs KK A).n)) (If (iLe 0 (iOf x) && (iOf x).toNat.blt A.length) (If ((iOf
  x).toNat.blt A.length) (If (true && Nat.beq 33 33 && (iOf x).toNat.blt A.length) (If (iLe (iNeg 1048576) ((A.getD (iOf x).toNat []).getD 0 0) && iLe ((A.getD (iOf x).toNat []).getD
  0 0) 1048576) (If (iLe 0 (iSub 1048575 ((A.getD (iOf x).toNat []).getD 0 0)) && iLe (iSub 1048575 ((A.getD (iOf x).toNat []).getD 0 0)) 1048575) (If (iBeq ((iSub 1048575 ((A.getD
  (iOf x).toNat []).getD 0 0)).fdiv (iPow 2 (W.hg (iSub 1048575 ((A.getD (iOf x).toNat []).getD 0 0))).toNat)) ((iSub 1048575 no).fdiv (iPow 2 (W.hg (iSub 1048575 ((A.getD (iOf
  x).toNat []).getD 0 0))).toNat))) (If (iLe 0 (iOf x) && (iOf x).toNat.blt A.length) (If ((iOf x).toNat.blt A.length) (If (true && Nat.beq 33 33 && (iOf x).toNat.blt A.length) (If
  (iLe 0 (iSub 1048575 ((A.getD (iOf x).toNat []).getD 0 0)) && iLe (iSub 1048575 ((A.getD (iOf x).toNat []).getD 0 0)) 1048575) (If (iLe 0 (W.hg (iSub 1048575 ((A.getD (iOf x).toNat
  []).getD 0 0))) && iLe (W.hg (iSub 1048575 ((A.getD (iOf x).toNat []).getD 0 0))) 20 && O.isH (AV (hK (A.getD (iOf x).toNat [])))) ((Value.agg (AV (W.cm (W.hg (iSub 1048575 ((A.getD
  (iOf x).toNat []).getD 0 0))) (iSub 1048575 no) (AV (hK (A.getD (iOf x).toNat [])))) ) = Value.agg (AV (rGF W n no A)) ∧ Value.bool true = Value.bool (rGB W n no A)) ∧ True ∧ True)
  False) False) False) False) False) (∃ (x' : Nat), (x' ≤ A.length ∧ rFi W A (iSub 1048575 no) A.length 0 = rFi W A (iSub 1048575 no) (nSub A.length x') x') ∧ (nSub A.length x').succ
  ≤ nSub A.length x ∧ (Value.int .i64 (IntKind.i64.wrap (iAdd (iOf x) 1)) = Value.int .i64 (iOf x') ∧ Value.int .i64 no = Value.int .i64 no ∧ Value.int .i64 (iSub 1048575 no) =
  Value.int .i64 (iSub 1048575 no) ∧ True) ∧ Array.mk (List.replicate 32 (Value.int .u8 0)) = Array.mk (List.replicate 32 (Value.int .u8 0)) ∧ Value.int .i64 n = Value.int .i64 n ∧
  Cont.structs (KK) A = Cont.structs (KK) A ∧ True)) False) False) False) False) False) ((Value.agg (Array.mk (List.replicate 32 (Value.int .u8 0))) = Value.agg (AV (rGF W n no A)) ∧
  Value.bool false = Value.bool (rGB W n no A)) ∧ True ∧ True)) False)) := by
 simp only [Bool.and_eq_true, Bool.or_eq_true, Sx.iLt_t, Sx.iLt_f, Sx.iLe_t, Sx.iLe_f, Sx.iEq_t, Sx.iEq_f, Sx.iBeq_t, Sx.iBeq_f, Sx.iBne_t, Sx.iBne_f, Nat.ble_eq, Nat.beq_eq, Sx.Cont.n] at h0
 have h3' := Nat.le_of_ble_eq_true h3
 have zz : rGB W n no A = false → (Array.mk (List.replicate 32 (Value.int IntKind.u8 0)) : Array Value) = AV (rGF W n no A) := fun h => by
  have e : rGF W n no A = fun _ => 0 := by funext i; unfold rGF; rw [h]; rfl
  rw [e]; rfl
 refine Sx.if_both (fun h => ?_) (fun h => Sx.if_both (fun h4 => ?_) (fun h4 => ?_))
 ·have hb : rGB W n no A = false := by unfold rGB; rw [h]; rfl
  rw [hb, zz hb]; exact ⟨⟨rfl, rfl⟩, trivial, trivial⟩
 ·have hb : rGB W n no A = false := by unfold rGB; rw [h, h4]; rfl
  rw [hb, zz hb]; exact ⟨⟨rfl, rfl⟩, trivial, trivial⟩
 have hgB : rGB W n no A = Nat.blt (rFi W A (iSub 1048575 no) A.length 0) A.length := by unfold rGB; rw [h, h4]; rfl
 have hgF : rGF W n no A = fun i => bif rGB W n no A then W.cm (W.hg (pl8 (A.getD (rFi W A (iSub 1048575 no) A.length 0) []))) (iSub 1048575 no) (AV (hK (A.getD (rFi W A (iSub 1048575 no) A.length 0) []))) i else 0 := rfl
 simp only [Bool.and_eq_true, Bool.or_eq_true, Sx.iLt_t, Sx.iLt_f, Sx.iLe_t, Sx.iLe_f, Sx.iEq_t, Sx.iEq_f, Sx.iBeq_t, Sx.iBeq_f, Sx.iBne_t, Sx.iBne_f, Nat.ble_eq, Nat.beq_eq, Sx.Cont.n] at h h4
 refine Sx.if_true (by simp only [Sx.app, Sx.nAdd, Sx.nSub, Sx.nMul, Sx.nPow, Sx.nDiv, Sx.nMod, Sx.iAdd, Sx.iSub, Sx.iMul, Sx.iNeg, Sx.iPow, Sx.iOf, Bool.and_eq_true, Bool.or_eq_true, Sx.iLt_t, Sx.iLt_f, Sx.iLe_t, Sx.iLe_f, Sx.iEq_t, Sx.iEq_f, Sx.iBeq_t, Sx.iBeq_f, Sx.iBne_t, Sx.iBne_f, Nat.ble_eq, Nat.beq_eq, Sx.Cont.n]; omega) ⟨⟨0, ⟨Nat.zero_le _, rfl⟩, (by repeat' (first | exact True.intro | exact rfl | refine ⟨?_, ?_⟩))⟩, fun x ⟨c1, c2⟩ => ?_⟩
 have hn : (iOf x).toNat = x := by simp only [Sx.app, Sx.nAdd, Sx.nSub, Sx.nMul, Sx.nPow, Sx.nDiv, Sx.nMod, Sx.iAdd, Sx.iSub, Sx.iMul, Sx.iNeg, Sx.iPow, Sx.iOf, Int.toNat_natCast]
 rw [hn]
 refine Sx.if_both (fun d => ?_) (fun d => ?_)
 ·simp only [Bool.and_eq_true, Bool.or_eq_true, Sx.iLt_t, Sx.iLt_f, Sx.iLe_t, Sx.iLe_f, Sx.iEq_t, Sx.iEq_f, Sx.iBeq_t, Sx.iBeq_f, Sx.iBne_t, Sx.iBne_f, Nat.ble_eq, Nat.beq_eq, Sx.Cont.n, Sx.app, Sx.nAdd, Sx.nSub, Sx.nMul, Sx.nPow, Sx.nDiv, Sx.nMod, Sx.iAdd, Sx.iSub, Sx.iMul, Sx.iNeg, Sx.iPow, Sx.iOf] at d
  have hx : x < A.length := by omega
  have hb : x.blt A.length = true := by rw [Nat.blt_eq]; exact hx
  have w1 : IntKind.i64.wrap (iAdd (iOf x) 1) = iOf (x + 1) := by simp only [Sx.app, Sx.nAdd, Sx.nSub, Sx.nMul, Sx.nPow, Sx.nDiv, Sx.nMod, Sx.iAdd, Sx.iSub, Sx.iMul, Sx.iNeg, Sx.iPow, Sx.iOf]; rw [IntKind.wrap_i64]; omega
  obtain ⟨y1, y2, y3⟩ := okA_at h1 hx
  have hP : 0 ≤ W.hg (iSub 1048575 ((A.getD x []).getD 0 0)) ∧ W.hg (iSub 1048575 ((A.getD x []).getD 0 0)) ≤ 20 := hg_le hw _
  have st : rFi W A (iSub 1048575 no) (nSub A.length x) x = bif iBeq ((iSub 1048575 ((A.getD x []).getD 0 0)).fdiv (iPow 2 (W.hg (iSub 1048575 ((A.getD x []).getD 0 0))).toNat)) ((iSub 1048575 no).fdiv (iPow 2 (W.hg (iSub 1048575 ((A.getD x []).getD 0 0))).toNat)) then x else rFi W A (iSub 1048575 no) (nSub A.length (x + 1)) (x + 1) := by
   rw [show nSub A.length x = nSub A.length (x + 1) + 1 by simp only [Sx.app, Sx.nAdd, Sx.nSub, Sx.nMul, Sx.nPow, Sx.nDiv, Sx.nMod, Sx.iAdd, Sx.iSub, Sx.iMul, Sx.iNeg, Sx.iPow, Sx.iOf]; omega]; rfl
  rw [hb, w1, y3]
  have hidx : (iLe 0 (iOf x) && true) = true := by simp only [Bool.and_eq_true, Bool.or_eq_true, Sx.iLt_t, Sx.iLt_f, Sx.iLe_t, Sx.iLe_f, Sx.iEq_t, Sx.iEq_f, Sx.iBeq_t, Sx.iBeq_f, Sx.iBne_t, Sx.iBne_f, Nat.ble_eq, Nat.beq_eq, Sx.Cont.n, Sx.app, Sx.nAdd, Sx.nSub, Sx.nMul, Sx.nPow, Sx.nDiv, Sx.nMod, Sx.iAdd, Sx.iSub, Sx.iMul, Sx.iNeg, Sx.iPow, Sx.iOf]; exact ⟨by omega, trivial⟩
  have hp0 : (iLe 0 (iSub 1048575 ((A.getD x []).getD 0 0)) && iLe (iSub 1048575 ((A.getD x []).getD 0 0)) 1048575) = true := by simp only [Bool.and_eq_true, Bool.or_eq_true, Sx.iLt_t, Sx.iLt_f, Sx.iLe_t, Sx.iLe_f, Sx.iEq_t, Sx.iEq_f, Sx.iBeq_t, Sx.iBeq_f, Sx.iBne_t, Sx.iBne_f, Nat.ble_eq, Nat.beq_eq, Sx.Cont.n, Sx.app, Sx.nAdd, Sx.nSub, Sx.nMul, Sx.nPow, Sx.nDiv, Sx.nMod, Sx.iAdd, Sx.iSub, Sx.iMul, Sx.iNeg, Sx.iPow, Sx.iOf]; omega
  refine Sx.if_true hidx (Sx.if_true rfl (Sx.if_true rfl (Sx.if_true (by simp only [Bool.and_eq_true, Bool.or_eq_true, Sx.iLt_t, Sx.iLt_f, Sx.iLe_t, Sx.iLe_f, Sx.iEq_t, Sx.iEq_f, Sx.iBeq_t, Sx.iBeq_f, Sx.iBne_t, Sx.iBne_f, Nat.ble_eq, Nat.beq_eq, Sx.Cont.n, Sx.app, Sx.nAdd, Sx.nSub, Sx.nMul, Sx.nPow, Sx.nDiv, Sx.nMod, Sx.iAdd, Sx.iSub, Sx.iMul, Sx.iNeg, Sx.iPow, Sx.iOf]; omega) (Sx.if_true hp0 (Sx.if_both (fun p => ?_) (fun p => ?_))))))
  ·rw [p] at st
   have c3 : rFi W A (iSub 1048575 no) A.length 0 = x := c2.trans st
   rw [c3] at hgB hgF
   have hgB : rGB W n no A = true := hgB.trans hb
   rw [hgB] at hgF
   rw [hgB, hgF]
   exact Sx.if_true hidx (Sx.if_true rfl (Sx.if_true rfl (Sx.if_true hp0 (Sx.if_true (by rw [Bool.and_true]; simp only [Bool.and_eq_true, Bool.or_eq_true, Sx.iLt_t, Sx.iLt_f, Sx.iLe_t, Sx.iLe_f, Sx.iEq_t, Sx.iEq_f, Sx.iBeq_t, Sx.iBeq_f, Sx.iBne_t, Sx.iBne_f, Nat.ble_eq, Nat.beq_eq, Sx.Cont.n]; omega) ⟨⟨rfl, rfl⟩, trivial, trivial⟩))))
  ·rw [p] at st
   exact ⟨x + 1, ⟨hx, c2.trans st⟩, by simp only [Sx.app, Sx.nAdd, Sx.nSub, Sx.nMul, Sx.nPow, Sx.nDiv, Sx.nMod, Sx.iAdd, Sx.iSub, Sx.iMul, Sx.iNeg, Sx.iPow, Sx.iOf]; omega, (by repeat' (first | exact True.intro | exact rfl | refine ⟨?_, ?_⟩))⟩
 ·simp only [Bool.and_eq_true, Bool.or_eq_true, Sx.iLt_t, Sx.iLt_f, Sx.iLe_t, Sx.iLe_f, Sx.iEq_t, Sx.iEq_f, Sx.iBeq_t, Sx.iBeq_f, Sx.iBne_t, Sx.iBne_f, Nat.ble_eq, Nat.beq_eq, Sx.Cont.n, Sx.app, Sx.nAdd, Sx.nSub, Sx.nMul, Sx.nPow, Sx.nDiv, Sx.nMod, Sx.iAdd, Sx.iSub, Sx.iMul, Sx.iNeg, Sx.iPow, Sx.iOf] at d
  obtain rfl : x = A.length := by omega
  have st : rFi W A (iSub 1048575 no) (nSub A.length A.length) A.length = A.length := by
   rw [show nSub A.length A.length = 0 by simp only [Sx.app, Sx.nAdd, Sx.nSub, Sx.nMul, Sx.nPow, Sx.nDiv, Sx.nMod, Sx.iAdd, Sx.iSub, Sx.iMul, Sx.iNeg, Sx.iPow, Sx.iOf]; omega]; rfl
  have hb : rGB W n no A = false := by
   rw [hgB, c2, st, Bool.eq_false_iff, Ne, Nat.blt_eq]; omega
  rw [hb, zz hb]; exact ⟨⟨rfl, rfl⟩, trivial, trivial⟩
theorem wpc_rget (O : OO) (R : OB) (W : OW) (n : Int) (A : List (List Int)) (no : Int) (F : FO O) (hr : R = bO) (hw : W = wO O) (h0 : (iLe 0 n && iLe n 1048576) = true) (h1 : (okA O A) = true) (h3 : (Nat.ble A.length 1000) = true) (h2 : (iLe (-9223372036854775808) no) = true) : wpcI Tryd.prog (spD2 O R W) Tryd.f20.ntmps [⟨Nat, [0, 1, 4, 6], [], fun B k => [(7, .v (.int .i64 (k : Nat)))], fun B k => [], fun k => k ≤ A.length ∧ rFi W A (1048575 - no) A.length 0 = rFi W A (1048575 - no) (A.length - k) k, fun k => A.length - k, 0⟩] (bodyOf Tryd.f20) 0 64 (envP (mks [.robj 57 [.v, .roS KK], .v] [.node [.v (.int .i64 n), .structs A], .v (.int .i64 no)] 0).1 0) (mks [.robj 57 [.v, .roS KK], .v] [.node [.v (.int .i64 n), .structs A], .v (.int .i64 no)] 0).2 (retP Tryd.prog Tryd.f20.results.toList 2 (⟨[.v (.agg (AV (rGF W n no A))), .v (.bool (rGB W n no A))], []⟩ : Post)) :=
 Eq.mpr (by kernel_rfl) (vc_rget O R W n A no F hr hw h0 h1 h3 h2)
theorem ok_rget (I : Sx.Interp) (O : OO) (hO : O = oo) (R : OB) (hR : R = bO) (W : OW) (hW : W = wO O) : Sx.SpecOK I Tryd.prog 20 (pspec [.robj 57 [.v, .roS KK], .v] false (g_rget O R W)) := by
 refine spec_pI (spD2_ok I O hO R hR W hW) (by kernel_rfl) (fun ds => match ds with | [.node [.v (.int .i64 n), .structs A], .v (.int .i64 no)] => [⟨Nat, [0, 1, 4, 6], [], fun B k => [(7, .v (.int .i64 (k : Nat)))], fun B k => [], fun k => k ≤ A.length ∧ rFi W A (1048575 - no) A.length 0 = rFi W A (1048575 - no) (A.length - k) k, fun k => A.length - k, 0⟩] | _ => []) Tryd.func20 (by kernel_rfl) (by kernel_rfl) rfl Tryd.ntmps20 (by decide) ?_ ?_
 ·intro ds p bs F h
  unfold g_rget at h
  split at h
  ·rename_i n A no
   simp only [Option.some.injEq, Prod.mk.injEq] at h
   obtain ⟨_, _, rfl⟩ := h
   kernel_rfl
  ·cases h
 ·intro ds bs F hl h
  unfold g_rget at h
  split at h
  ·rename_i n A no
   simp only [Option.some.injEq, Prod.mk.injEq, Bool.and_eq_true] at h
   obtain ⟨⟨⟨⟨h0, h1⟩, h3⟩, h2⟩, _, rfl⟩ := h
   exact wpc_rget O R W n A no (fo_oo O hO) hR hW (by first | exact h0 | (simp only [Bool.and_eq_true]; exact h0)) (by first | exact h1 | (simp only [Bool.and_eq_true]; exact h1)) (by first | exact h3 | (simp only [Bool.and_eq_true]; exact h3)) (by first | exact h2 | (simp only [Bool.and_eq_true]; exact h2))
  ·cases h
def g_rbytes (O : OO) (R : OB) (W : OW) (ds : List Dt) : Option (Bool × List Bool × (List Bool → Post)) := match ds with
 | [.node [.v (.int .i64 n), .structs A]] => some ((iLe 0 n && iLe n 1048576) && (okA O A) && (Nat.ble A.length 1000), [], fun _ => ⟨[.row 2], [(2, .own 5 (.ints .u8 (R.row n ++ rBy A A.length)))]⟩)
 | _ => none
set_option maxHeartbeats 4000000 in
theorem vc_rbytes (O : OO) (R : OB) (W : OW) (n : Int) (A : List (List Int)) (F : FO O) (hr : R = bO) (hw : W = wO O) (h0 : (iLe 0 n && iLe n 1048576) = true) (h1 : (okA O A) = true) (h3 : (Nat.ble A.length 1000) = true) :
 If (Nat.ble 0 1000000 && iLe n 9223372036854775807) ((∃ (x : Nat), x ≤ A.length ∧ (Value.int .i64 0 = Value.int .i64 (iOf x) ∧ True) ∧ EqI (bif iLt n 0 then [] else app [] (R.row
  n)) (app (R.row n) (rBy A x)) ∧ Value.int .i64 n = Value.int .i64 n ∧ Cont.structs (KK) A = Cont.structs (KK) A ∧ True) ∧ ∀ (x : Nat), x ≤ A.length → If (iLt (iOf x) (iOf
  (Cont.structs KK A).n)) (If (iLe 0 (iOf x) && (iOf x).toNat.blt A.length) (If ((iOf x).toNat.blt A.length) (If (true && Nat.beq 33 33 && (iOf x).toNat.blt A.length) (If ((app (R.row
  n) (rBy A x)).length.ble 1000000 && O.isH (AV (hK (A.getD (iOf x).toNat [])))) (∃ (x' : Nat), x' ≤ A.length ∧ (nSub A.length x').succ ≤ nSub A.length x ∧ (Value.int .i64
  (IntKind.i64.wrap (iAdd (iOf x) 1)) = Value.int .i64 (iOf x') ∧ True) ∧ EqI (app (app (R.row n) (rBy A x)) (tabI (fnA (AV (hK (A.getD (iOf x).toNat [])))) 32)) (app (R.row n) (rBy A
  x')) ∧ Value.int .i64 n = Value.int .i64 n ∧ Cont.structs (KK) A = Cont.structs (KK) A ∧ True) False) False) False) False) (True ∧ EqI (app (R.row n) (rBy A x)) (app (R.row n) (rBy
  A A.length)) ∧ True)) False := by
 simp only [Bool.and_eq_true, Bool.or_eq_true, Sx.iLt_t, Sx.iLt_f, Sx.iLe_t, Sx.iLe_f, Sx.iEq_t, Sx.iEq_f, Sx.iBeq_t, Sx.iBeq_f, Sx.iBne_t, Sx.iBne_f, Nat.ble_eq, Nat.beq_eq, Sx.Cont.n] at h0
 have h3' := Nat.le_of_ble_eq_true h3
 have hr0 := row_len hr n
 refine Sx.if_true (by simp only [Bool.and_eq_true, Bool.or_eq_true, Sx.iLt_t, Sx.iLt_f, Sx.iLe_t, Sx.iLe_f, Sx.iEq_t, Sx.iEq_f, Sx.iBeq_t, Sx.iBeq_f, Sx.iBne_t, Sx.iBne_f, Nat.ble_eq, Nat.beq_eq, Sx.Cont.n]; omega) ⟨⟨0, Nat.zero_le _, ⟨rfl, trivial⟩, ?_, rfl, rfl, trivial⟩, fun x hx => ?_⟩
 ·rw [show iLt n 0 = false by simp only [Bool.and_eq_true, Bool.or_eq_true, Sx.iLt_t, Sx.iLt_f, Sx.iLe_t, Sx.iLe_f, Sx.iEq_t, Sx.iEq_f, Sx.iBeq_t, Sx.iBeq_f, Sx.iBne_t, Sx.iBne_f, Nat.ble_eq, Nat.beq_eq, Sx.Cont.n]; omega]
  show [] ++ R.row n = R.row n ++ []
  rw [List.append_nil, List.nil_append]
 have hn : (iOf x).toNat = x := by simp only [Sx.app, Sx.nAdd, Sx.nSub, Sx.nMul, Sx.nPow, Sx.nDiv, Sx.nMod, Sx.iAdd, Sx.iSub, Sx.iMul, Sx.iNeg, Sx.iPow, Sx.iOf, Int.toNat_natCast]
 rw [hn]
 have hl := rBy_len (A := A) x
 refine Sx.if_both (fun d => ?_) (fun d => ?_)
 ·simp only [Bool.and_eq_true, Bool.or_eq_true, Sx.iLt_t, Sx.iLt_f, Sx.iLe_t, Sx.iLe_f, Sx.iEq_t, Sx.iEq_f, Sx.iBeq_t, Sx.iBeq_f, Sx.iBne_t, Sx.iBne_f, Nat.ble_eq, Nat.beq_eq, Sx.Cont.n, Sx.app, Sx.nAdd, Sx.nSub, Sx.nMul, Sx.nPow, Sx.nDiv, Sx.nMod, Sx.iAdd, Sx.iSub, Sx.iMul, Sx.iNeg, Sx.iPow, Sx.iOf] at d
  have hx : x < A.length := by omega
  have hb : x.blt A.length = true := by rw [Nat.blt_eq]; exact hx
  have w1 : IntKind.i64.wrap (iAdd (iOf x) 1) = iOf (x + 1) := by simp only [Sx.app, Sx.nAdd, Sx.nSub, Sx.nMul, Sx.nPow, Sx.nDiv, Sx.nMod, Sx.iAdd, Sx.iSub, Sx.iMul, Sx.iNeg, Sx.iPow, Sx.iOf]; rw [IntKind.wrap_i64]; omega
  obtain ⟨y1, y2, y3⟩ := okA_at h1 hx
  rw [hb, w1, y3]
  refine Sx.if_true (by simp only [Bool.and_eq_true, Bool.or_eq_true, Sx.iLt_t, Sx.iLt_f, Sx.iLe_t, Sx.iLe_f, Sx.iEq_t, Sx.iEq_f, Sx.iBeq_t, Sx.iBeq_f, Sx.iBne_t, Sx.iBne_f, Nat.ble_eq, Nat.beq_eq, Sx.Cont.n, Sx.app, Sx.nAdd, Sx.nSub, Sx.nMul, Sx.nPow, Sx.nDiv, Sx.nMod, Sx.iAdd, Sx.iSub, Sx.iMul, Sx.iNeg, Sx.iPow, Sx.iOf]; exact ⟨by omega, trivial⟩) (Sx.if_true rfl (Sx.if_true rfl (Sx.if_true (by rw [Bool.and_true, Nat.ble_eq]; simp only [Sx.app, Sx.nAdd, Sx.nSub, Sx.nMul, Sx.nPow, Sx.nDiv, Sx.nMod, Sx.iAdd, Sx.iSub, Sx.iMul, Sx.iNeg, Sx.iPow, Sx.iOf, List.length_append]; omega) ⟨x + 1, hx, by simp only [Sx.app, Sx.nAdd, Sx.nSub, Sx.nMul, Sx.nPow, Sx.nDiv, Sx.nMod, Sx.iAdd, Sx.iSub, Sx.iMul, Sx.iNeg, Sx.iPow, Sx.iOf]; omega, ⟨rfl, trivial⟩, ?_, rfl, rfl, trivial⟩)))
  rw [rBy_next hx, fn_tab]
  show (R.row n ++ rBy A x) ++ _ = R.row n ++ (rBy A x ++ _)
  rw [List.append_assoc]
 ·simp only [Bool.and_eq_true, Bool.or_eq_true, Sx.iLt_t, Sx.iLt_f, Sx.iLe_t, Sx.iLe_f, Sx.iEq_t, Sx.iEq_f, Sx.iBeq_t, Sx.iBeq_f, Sx.iBne_t, Sx.iBne_f, Nat.ble_eq, Nat.beq_eq, Sx.Cont.n, Sx.app, Sx.nAdd, Sx.nSub, Sx.nMul, Sx.nPow, Sx.nDiv, Sx.nMod, Sx.iAdd, Sx.iSub, Sx.iMul, Sx.iNeg, Sx.iPow, Sx.iOf] at d
  obtain rfl : x = A.length := by omega
  exact ⟨trivial, rfl, trivial⟩
theorem wpc_rbytes (O : OO) (R : OB) (W : OW) (n : Int) (A : List (List Int)) (F : FO O) (hr : R = bO) (hw : W = wO O) (h0 : (iLe 0 n && iLe n 1048576) = true) (h1 : (okA O A) = true) (h3 : (Nat.ble A.length 1000) = true) : wpcI Tryd.prog (spD2 O R W) Tryd.f24.ntmps [⟨Nat, [0], [(3, 5, .ints .u8 [])], fun B k => [(3, .row B), (4, .v (.int .i64 (k : Nat)))], fun B k => [(B, .own 5 (.ints .u8 (R.row n ++ rBy A k)))], fun k => k ≤ A.length, fun k => A.length - k, 0⟩] (bodyOf Tryd.f24) 0 64 (envP (mks [.robj 57 [.v, .roS KK]] [.node [.v (.int .i64 n), .structs A]] 0).1 0) (mks [.robj 57 [.v, .roS KK]] [.node [.v (.int .i64 n), .structs A]] 0).2 (retP Tryd.prog Tryd.f24.results.toList 2 (⟨[.row 2], [(2, .own 5 (.ints .u8 (R.row n ++ rBy A A.length)))]⟩ : Post)) :=
 Eq.mpr (by kernel_rfl) (vc_rbytes O R W n A F hr hw h0 h1 h3)
theorem ok_rbytes (I : Sx.Interp) (O : OO) (hO : O = oo) (R : OB) (hR : R = bO) (W : OW) (hW : W = wO O) : Sx.SpecOK I Tryd.prog 24 (pspec [.robj 57 [.v, .roS KK]] false (g_rbytes O R W)) := by
 refine spec_pI (spD2_ok I O hO R hR W hW) (by kernel_rfl) (fun ds => match ds with | [.node [.v (.int .i64 n), .structs A]] => [⟨Nat, [0], [(3, 5, .ints .u8 [])], fun B k => [(3, .row B), (4, .v (.int .i64 (k : Nat)))], fun B k => [(B, .own 5 (.ints .u8 (R.row n ++ rBy A k)))], fun k => k ≤ A.length, fun k => A.length - k, 0⟩] | _ => []) Tryd.func24 (by kernel_rfl) (by kernel_rfl) rfl Tryd.ntmps24 (by decide) ?_ ?_
 ·intro ds p bs F h
  unfold g_rbytes at h
  split at h
  ·rename_i n A
   simp only [Option.some.injEq, Prod.mk.injEq] at h
   obtain ⟨_, _, rfl⟩ := h
   kernel_rfl
  ·cases h
 ·intro ds bs F hl h
  unfold g_rbytes at h
  split at h
  ·rename_i n A
   simp only [Option.some.injEq, Prod.mk.injEq, Bool.and_eq_true] at h
   obtain ⟨⟨⟨h0, h1⟩, h3⟩, _, rfl⟩ := h
   exact wpc_rbytes O R W n A (fo_oo O hO) hR hW (by first | exact h0 | (simp only [Bool.and_eq_true]; exact h0)) (by first | exact h1 | (simp only [Bool.and_eq_true]; exact h1)) (by first | exact h3 | (simp only [Bool.and_eq_true]; exact h3))
  ·cases h
def g_rlast (O : OO) (R : OB) (W : OW) (ds : List Dt) : Option (Bool × List Bool × (List Bool → Post)) := match ds with
 | [.v (.int .i64 n), .v (.int .i64 h)] => some ((iLe 0 n && iLe n 1048576) && (iLe 0 h && iLe h 20), [], fun _ => ⟨[.v (.int .i64 (rLast n h))], []⟩)
 | _ => none
set_option maxHeartbeats 4000000 in
theorem vc_rlast (O : OO) (R : OB) (W : OW) (n h : Int) (F : FO O) (hr : R = bO) (hw : W = wO O) (h0 : (iLe 0 n && iLe n 1048576) = true) (h1 : (iLe 0 h && iLe h 20) = true) :
 (∃ (x : Int), LastI W n h x ∧ (Value.int .i64 (IntKind.i64.wrap (iSub n 1)) = Value.int .i64 (iSub (iSub n 1) x) ∧ Value.int .i64 n = Value.int .i64 n ∧ Value.int .i64 h = Value.int
  .i64 h ∧ True) ∧ True) ∧ ∀ (x : Int), LastI W n h x → If (iLe 0 (iSub (iSub n 1) x)) (If (iLt (IntKind.i64.wrap (iAdd h 2)) 0) False (If (iLe (IntKind.i64.wrap (iSub n
  (IntKind.i64.wrap (iMul 1 (iPow 2 (min (IntKind.i64.wrap (iAdd h 2)).toNat IntKind.i64.bits)))))) (iSub (iSub n 1) x)) (If (iLe (iNeg 1048576) (iSub (iSub n 1) x) && iLe (iSub (iSub
  n 1) x) 1048576) (If (iLe 0 (iSub 1048575 (iSub (iSub n 1) x)) && iLe (iSub 1048575 (iSub (iSub n 1) x)) 1048575) (If (iBeq (W.hg (iSub 1048575 (iSub (iSub n 1) x))) h) (Value.int
  .i64 (iSub (iSub n 1) x) = Value.int .i64 (rLast n h) ∧ True ∧ True) (∃ (x' : Int), LastI W n h x' ∧ (iSub n x').toNat.succ ≤ (iSub n x).toNat ∧ (Value.int .i64 (IntKind.i64.wrap
  (iSub (iSub (iSub n 1) x) 1)) = Value.int .i64 (iSub (iSub n 1) x') ∧ Value.int .i64 n = Value.int .i64 n ∧ Value.int .i64 h = Value.int .i64 h ∧ True) ∧ True)) False) False)
  (Value.int .i64 (iNeg 1) = Value.int .i64 (rLast n h) ∧ True ∧ True))) (Value.int .i64 (iNeg 1) = Value.int .i64 (rLast n h) ∧ True ∧ True) := by
 simp only [Bool.and_eq_true, Bool.or_eq_true, Sx.iLt_t, Sx.iLt_f, Sx.iLe_t, Sx.iLe_f, Sx.iEq_t, Sx.iEq_f, Sx.iBeq_t, Sx.iBeq_f, Sx.iBne_t, Sx.iBne_f, Nat.ble_eq, Nat.beq_eq, Sx.Cont.n] at h0 h1
 obtain ⟨k, rfl⟩ : ∃ k : Nat, h = (k : Int) := ⟨h.toNat, by omega⟩
 have hk : k ≤ 20 := by omega
 have hn1 : IntKind.i64.wrap (iSub n 1) = iSub (iSub n 1) 0 := by simp only [Sx.app, Sx.nAdd, Sx.nSub, Sx.nMul, Sx.nPow, Sx.nDiv, Sx.nMod, Sx.iAdd, Sx.iSub, Sx.iMul, Sx.iNeg, Sx.iPow, Sx.iOf]; rw [IntKind.wrap_i64]; omega
 have w2 : IntKind.i64.wrap (iAdd (k : Int) 2) = ((k + 2 : Nat) : Int) := by simp only [Sx.app, Sx.nAdd, Sx.nSub, Sx.nMul, Sx.nPow, Sx.nDiv, Sx.nMod, Sx.iAdd, Sx.iSub, Sx.iMul, Sx.iNeg, Sx.iPow, Sx.iOf]; rw [IntKind.wrap_i64]; omega
 have hp : (2 : Int) ^ (k + 2) ≤ 2 ^ 22 := by exact_mod_cast Nat.pow_le_pow_right (show 0 < 2 by decide) (show k + 2 ≤ 22 by omega)
 have hp0 := pw (k + 2)
 have p1 : (2 : Int) ^ (k + 1) ≤ 2 ^ (k + 2) := by have e : (2 : Int) ^ (k + 2) = 2 * 2 ^ (k + 1) := pw1 (k + 1); have := pw (k + 1); omega
 have wp : IntKind.i64.wrap (iMul 1 (iPow 2 (min (k + 2) IntKind.i64.bits))) = 2 ^ (k + 2) := by
  rw [Nat.min_eq_left (show k + 2 ≤ IntKind.i64.bits by show k + 2 ≤ 64; omega)]
  simp only [Sx.app, Sx.nAdd, Sx.nSub, Sx.nMul, Sx.nPow, Sx.nDiv, Sx.nMod, Sx.iAdd, Sx.iSub, Sx.iMul, Sx.iNeg, Sx.iPow, Sx.iOf, Int.one_mul]
  rw [IntKind.wrap_i64]; omega
 have wn : IntKind.i64.wrap (iSub n (2 ^ (k + 2))) = n - 2 ^ (k + 2) := by simp only [Sx.app, Sx.nAdd, Sx.nSub, Sx.nMul, Sx.nPow, Sx.nDiv, Sx.nMod, Sx.iAdd, Sx.iSub, Sx.iMul, Sx.iNeg, Sx.iPow, Sx.iOf]; rw [IntKind.wrap_i64]; omega
 refine ⟨⟨0, ⟨⟨by omega, by omega⟩, fun i i0 i1 => absurd i1 (by omega)⟩, ⟨congrArg _ hn1, rfl, rfl, trivial⟩, trivial⟩, fun x hx => ?_⟩
 rw [w2, Int.toNat_natCast, wp, wn]
 obtain ⟨⟨l0, l1⟩, l2⟩ := hx
 have none : ∀ b : Int, (b = 1048576 ∨ 1048576 - n + 2 ^ (k + 1) ≤ b) → b ≤ 1048576 - n + x → rLast n (k : Int) = -1 := fun b hb hbx => last_none hw h0 hk hb fun y y0 y1 => by
  have := l2 (y - (1048576 - n)) (by omega) (by omega)
  rwa [show 1048576 - n + (y - (1048576 - n)) = y by omega] at this
 clear wp wn w2
 generalize (2 : Int) ^ (k + 2) = Q at *
 refine Sx.if_both (fun d => ?_) (fun d => ?_)
 ·simp only [Bool.and_eq_true, Bool.or_eq_true, Sx.iLt_t, Sx.iLt_f, Sx.iLe_t, Sx.iLe_f, Sx.iEq_t, Sx.iEq_f, Sx.iBeq_t, Sx.iBeq_f, Sx.iBne_t, Sx.iBne_f, Nat.ble_eq, Nat.beq_eq, Sx.Cont.n, Sx.app, Sx.nAdd, Sx.nSub, Sx.nMul, Sx.nPow, Sx.nDiv, Sx.nMod, Sx.iAdd, Sx.iSub, Sx.iMul, Sx.iNeg, Sx.iPow, Sx.iOf] at d
  refine Sx.if_false (by simp only [Bool.and_eq_true, Bool.or_eq_true, Sx.iLt_t, Sx.iLt_f, Sx.iLe_t, Sx.iLe_f, Sx.iEq_t, Sx.iEq_f, Sx.iBeq_t, Sx.iBeq_f, Sx.iBne_t, Sx.iBne_f, Nat.ble_eq, Nat.beq_eq, Sx.Cont.n]; omega) (Sx.if_both (fun d2 => ?_) (fun d2 => ?_))
  ·simp only [Bool.and_eq_true, Bool.or_eq_true, Sx.iLt_t, Sx.iLt_f, Sx.iLe_t, Sx.iLe_f, Sx.iEq_t, Sx.iEq_f, Sx.iBeq_t, Sx.iBeq_f, Sx.iBne_t, Sx.iBne_f, Nat.ble_eq, Nat.beq_eq, Sx.Cont.n, Sx.app, Sx.nAdd, Sx.nSub, Sx.nMul, Sx.nPow, Sx.nDiv, Sx.nMod, Sx.iAdd, Sx.iSub, Sx.iMul, Sx.iNeg, Sx.iPow, Sx.iOf] at d2
   have e1 : iSub 1048575 (iSub (iSub n 1) x) = 1048576 - n + x := by simp only [Sx.app, Sx.nAdd, Sx.nSub, Sx.nMul, Sx.nPow, Sx.nDiv, Sx.nMod, Sx.iAdd, Sx.iSub, Sx.iMul, Sx.iNeg, Sx.iPow, Sx.iOf]; omega
   rw [e1]
   refine Sx.if_true (by simp only [Bool.and_eq_true, Bool.or_eq_true, Sx.iLt_t, Sx.iLt_f, Sx.iLe_t, Sx.iLe_f, Sx.iEq_t, Sx.iEq_f, Sx.iBeq_t, Sx.iBeq_f, Sx.iBne_t, Sx.iBne_f, Nat.ble_eq, Nat.beq_eq, Sx.Cont.n, Sx.app, Sx.nAdd, Sx.nSub, Sx.nMul, Sx.nPow, Sx.nDiv, Sx.nMod, Sx.iAdd, Sx.iSub, Sx.iMul, Sx.iNeg, Sx.iPow, Sx.iOf]; omega) (Sx.if_true (by simp only [Bool.and_eq_true, Bool.or_eq_true, Sx.iLt_t, Sx.iLt_f, Sx.iLe_t, Sx.iLe_f, Sx.iEq_t, Sx.iEq_f, Sx.iBeq_t, Sx.iBeq_f, Sx.iBne_t, Sx.iBne_f, Nat.ble_eq, Nat.beq_eq, Sx.Cont.n]; omega) (Sx.if_both (fun e => ?_) (fun e => ?_)))
   ·simp only [Bool.and_eq_true, Bool.or_eq_true, Sx.iLt_t, Sx.iLt_f, Sx.iLe_t, Sx.iLe_f, Sx.iEq_t, Sx.iEq_f, Sx.iBeq_t, Sx.iBeq_f, Sx.iBne_t, Sx.iBne_f, Nat.ble_eq, Nat.beq_eq, Sx.Cont.n] at e
    have := last_at hw h0 hk (x := 1048576 - n + x) (by omega) (by omega) e fun y y0 y1 => by
     have := l2 (y - (1048576 - n)) (by omega) (by omega)
     rwa [show 1048576 - n + (y - (1048576 - n)) = y by omega] at this
    rw [this]
    exact ⟨congrArg _ (by simp only [Sx.app, Sx.nAdd, Sx.nSub, Sx.nMul, Sx.nPow, Sx.nDiv, Sx.nMod, Sx.iAdd, Sx.iSub, Sx.iMul, Sx.iNeg, Sx.iPow, Sx.iOf]; omega), trivial, trivial⟩
   ·simp only [Bool.and_eq_true, Bool.or_eq_true, Sx.iLt_t, Sx.iLt_f, Sx.iLe_t, Sx.iLe_f, Sx.iEq_t, Sx.iEq_f, Sx.iBeq_t, Sx.iBeq_f, Sx.iBne_t, Sx.iBne_f, Nat.ble_eq, Nat.beq_eq, Sx.Cont.n] at e
    have w3 : IntKind.i64.wrap (iSub (iSub (iSub n 1) x) 1) = iSub (iSub n 1) (x + 1) := by simp only [Sx.app, Sx.nAdd, Sx.nSub, Sx.nMul, Sx.nPow, Sx.nDiv, Sx.nMod, Sx.iAdd, Sx.iSub, Sx.iMul, Sx.iNeg, Sx.iPow, Sx.iOf]; rw [IntKind.wrap_i64]; omega
    refine ⟨x + 1, ⟨⟨by omega, by omega⟩, fun i i0 i1 => ?_⟩, by simp only [Sx.app, Sx.nAdd, Sx.nSub, Sx.nMul, Sx.nPow, Sx.nDiv, Sx.nMod, Sx.iAdd, Sx.iSub, Sx.iMul, Sx.iNeg, Sx.iPow, Sx.iOf]; omega, ⟨congrArg _ w3, rfl, rfl, trivial⟩, trivial⟩
    by_cases q : i = x
    ·subst q; exact e
    ·exact l2 i i0 (by omega)
  ·simp only [Bool.and_eq_true, Bool.or_eq_true, Sx.iLt_t, Sx.iLt_f, Sx.iLe_t, Sx.iLe_f, Sx.iEq_t, Sx.iEq_f, Sx.iBeq_t, Sx.iBeq_f, Sx.iBne_t, Sx.iBne_f, Nat.ble_eq, Nat.beq_eq, Sx.Cont.n, Sx.app, Sx.nAdd, Sx.nSub, Sx.nMul, Sx.nPow, Sx.nDiv, Sx.nMod, Sx.iAdd, Sx.iSub, Sx.iMul, Sx.iNeg, Sx.iPow, Sx.iOf] at d2
   rw [none (1048576 - n + x) (.inr (by omega)) (Int.le_refl _)]
   exact ⟨rfl, trivial, trivial⟩
 ·simp only [Bool.and_eq_true, Bool.or_eq_true, Sx.iLt_t, Sx.iLt_f, Sx.iLe_t, Sx.iLe_f, Sx.iEq_t, Sx.iEq_f, Sx.iBeq_t, Sx.iBeq_f, Sx.iBne_t, Sx.iBne_f, Nat.ble_eq, Nat.beq_eq, Sx.Cont.n, Sx.app, Sx.nAdd, Sx.nSub, Sx.nMul, Sx.nPow, Sx.nDiv, Sx.nMod, Sx.iAdd, Sx.iSub, Sx.iMul, Sx.iNeg, Sx.iPow, Sx.iOf] at d
  rw [none 1048576 (.inl rfl) (by omega)]
  exact ⟨rfl, trivial, trivial⟩
theorem wpc_rlast (O : OO) (R : OB) (W : OW) (n h : Int) (F : FO O) (hr : R = bO) (hw : W = wO O) (h0 : (iLe 0 n && iLe n 1048576) = true) (h1 : (iLe 0 h && iLe h 20) = true) : wpcI Tryd.prog (spD2 O R W) Tryd.f43.ntmps [⟨Int, [0, 1], [], fun B j => [(5, .v (.int .i64 (n - 1 - j)))], fun B j => [], fun j => LastI W n h j, fun j => (n - j).toNat, 0⟩] (bodyOf Tryd.f43) 0 64 (envP (mks [.v, .v] [.v (.int .i64 n), .v (.int .i64 h)] 0).1 0) (mks [.v, .v] [.v (.int .i64 n), .v (.int .i64 h)] 0).2 (retP Tryd.prog Tryd.f43.results.toList 0 (⟨[.v (.int .i64 (rLast n h))], []⟩ : Post)) :=
 Eq.mpr (by kernel_rfl) (vc_rlast O R W n h F hr hw h0 h1)
theorem ok_rlast (I : Sx.Interp) (O : OO) (hO : O = oo) (R : OB) (hR : R = bO) (W : OW) (hW : W = wO O) : Sx.SpecOK I Tryd.prog 43 (pspec [.v, .v] false (g_rlast O R W)) := by
 refine spec_pI (spD2_ok I O hO R hR W hW) (by kernel_rfl) (fun ds => match ds with | [.v (.int .i64 n), .v (.int .i64 h)] => [⟨Int, [0, 1], [], fun B j => [(5, .v (.int .i64 (n - 1 - j)))], fun B j => [], fun j => LastI W n h j, fun j => (n - j).toNat, 0⟩] | _ => []) Tryd.func43 (by kernel_rfl) (by kernel_rfl) rfl Tryd.ntmps43 (by decide) ?_ ?_
 ·intro ds p bs F h
  unfold g_rlast at h
  split at h
  ·rename_i n h
   simp only [Option.some.injEq, Prod.mk.injEq] at h
   obtain ⟨_, _, rfl⟩ := h
   kernel_rfl
  ·cases h
 ·intro ds bs F hl h
  unfold g_rlast at h
  split at h
  ·rename_i n h
   simp only [Option.some.injEq, Prod.mk.injEq, Bool.and_eq_true] at h
   obtain ⟨⟨h0, h1⟩, _, rfl⟩ := h
   exact wpc_rlast O R W n h (fo_oo O hO) hR hW (by first | exact h0 | (simp only [Bool.and_eq_true]; exact h0)) (by first | exact h1 | (simp only [Bool.and_eq_true]; exact h1))
  ·cases h
def spD3 (O : OO) (R : OB) (W : OW) (f : FuncId) : Option Sx.Spec := match f with
 | 10 => some (pspec [.v, .v] false (g_rscr O R W))
 | 12 => some (pspec [] true (g_rnew O R W))
 | 16 => some (pspec [.robj 57 [.v, .roS KK]] false (g_rnext O R W))
 | 18 => some (pspec [.robj 57 [.v, .roS KK]] false (g_rsize O R W))
 | 14 => some (pspec [.obj 57 [.v, .roS KK], .v, .v] true (g_radd O R W))
 | 20 => some (pspec [.robj 57 [.v, .roS KK], .v] false (g_rget O R W))
 | 24 => some (pspec [.robj 57 [.v, .roS KK]] false (g_rbytes O R W))
 | 43 => some (pspec [.v, .v] false (g_rlast O R W))
 | f => spD2 O R W f
theorem spD3_ok (I : Sx.Interp) (O : OO) (hO : O = oo) (R : OB) (hR : R = bO) (W : OW) (hW : W = wO O) : ∀ f s, spD3 O R W f = some s → Sx.SpecOK I Tryd.prog f s := by
 intro f s h
 unfold spD3 at h
 split at h
 · cases h; exact ok_rscr I O hO R hR W hW
 · cases h; exact ok_rnew I O hO R hR W hW
 · cases h; exact ok_rnext I O hO R hR W hW
 · cases h; exact ok_rsize I O hO R hR W hW
 · cases h; exact ok_radd I O hO R hR W hW
 · cases h; exact ok_rget I O hO R hR W hW
 · cases h; exact ok_rbytes I O hO R hR W hW
 · cases h; exact ok_rlast I O hO R hR W hW
 ·exact spD2_ok I O hO R hR W hW _ s h
end Go.Proofs.YtebffdgghkomjaaDoor
