/- A channel's state as bytes: sheet's Bytes and Read, by the symbolic machine (printed by genSb.py; VCs by VcTool). -/
import Derived.Test.YtgekiddgdjeaiaaGreatRd2
namespace Go.Proofs.YtgekiddgdjeaiaaGreat
open Go.RowKit Go.Lib Ckp Cfd Cpd Sx
open IntKind (i64 u64 u8 i32 u32)
set_option linter.unusedVariables false
set_option linter.unusedSimpArgs false
set_option maxRecDepth 1000000
set_option maxHeartbeats 4000000
def ad4 (lo hi n : Int) : Bool := bif iLt n lo then true else iLt hi n
def akk (p : Int → Bool) (l : List Int) : Int := match l.findIdx? p with
 | some i => (i : Int)
 | none => -1
def uh (lo hi : Int) (l : List Int) : Bool := l.all fun n => !(ad4 lo hi n)
def qj (R : OB) (l : List Int) : List Int := l.flatMap R.row
def apf (R : OB) (x : List Int) : List Int := qj R [x.getD 0 0, x.getD 1 0, x.getD 2 0, x.getD 4 0] ++ aln (x.getD 3 0)
def lq (R : OB) (l : List (List Int)) : List Int := l.flatMap (apf R)
def ap9 (x : List Int) : Bool := uh 0 9223372036854775807 [x.getD 0 0, x.getD 1 0, x.getD 2 0, x.getD 4 0]
def abg (l : List (List Int)) : Bool := l.all ap9
def stB (R : OB) (no h0 h1 rt : Int) (l : List (List Int)) : List Int :=
 bif uh 0 9223372036854775807 [no, h0, h1, rt, (l.length : Int)] then (bif abg l then qj R [no, h0, h1, rt, (l.length : Int)] ++ lq R l else []) else []
def cdL (R : OB) (l : List Int) : List Int := R.nR (R.nR (R.nR (R.nR l)))
def nxO (R : OB) (l : List Int) (no : Bool) : Bool := bif R.nOk l then no else true
def cdO (R : OB) (l : List Int) (no : Bool) : Bool := nxO R (R.nR (R.nR (R.nR l))) (nxO R (R.nR (R.nR l)) (nxO R (R.nR l) (nxO R l no)))
def cdX (R : OB) (l : List Int) (no : Bool) : List Int := [R.nV l, R.nV (R.nR l), R.nV (R.nR (R.nR l)), apo R (cdL R l) (cdO R l no), R.nV (R.nR (R.nR (R.nR l)))]
def sdF (R : OB) : Nat → List Int → Bool → List (List Int) → List Int × Bool × List (List Int)
 | 0, l, no, L => (l, no, L)
 | k + 1, l, no, L => bif no then (l, no, L) else sdF R k (aec (cdL R l) (cdO R l no)) (ae9 (cdL R l) (cdO R l no)) (L ++ [cdX R l no])
def hdL (R : OB) (b : List Int) : List Int := R.nR (cdL R b)
def hdO (R : OB) (b : List Int) : Bool := nxO R (cdL R b) (cdO R b false)
def hdN (R : OB) (b : List Int) : Int := R.nV (cdL R b)
def snE (R : OB) (b : List Int) : List Int × Bool × List (List Int) := sdF R (hdN R b).toNat (hdL R b) (hdO R b) []
def pqB (l : List (List Int)) : Bool := l.all fun x => inU (x.getD 3 0) 18446744073709551616 && Nat.beq x.length 5
def xn (R : OB) (b : List Int) : Bool := bif (snE R b).2.1 then false else Nat.beq (snE R b).1.length 0
def snC (R : OB) (b : List Int) : List (List Int) := bif xn R b then (snE R b).2.2 else []
def aia (R : OB) (b : List Int) : Int := bif xn R b then R.nV b else 0
def ah7 (R : OB) (b : List Int) : Int := bif xn R b then R.nV (R.nR b) else 0
def ah9 (R : OB) (b : List Int) : Int := bif xn R b then R.nV (R.nR (R.nR b)) else 0
def ah2 (R : OB) (b : List Int) : Int := bif xn R b then R.nV (R.nR (R.nR (R.nR b))) else 0

theorem a5j {p : Int → Bool} {l : List Int} {x : Nat} (hx : x < l.length) (hb : ∀ k, k < x → p (l.getD k 0) = false) (h : p (l.getD x 0) = true) : akk p l = (x : Int) := by
 have e : l.findIdx? p = some x := by
  rw [List.findIdx?_eq_some_iff_getElem]
  refine ⟨hx, ?_, fun j hj => ?_⟩
  ·rw [List.getD_eq_getElem?_getD, List.getElem?_eq_getElem hx] at h; exact h
  ·have := hb j hj
   rw [List.getD_eq_getElem?_getD, List.getElem?_eq_getElem (by omega)] at this
   simpa using this
 unfold akk
 rw [e]
theorem a6f {p : Int → Bool} {l : List Int} (hb : ∀ k, k < l.length → p (l.getD k 0) = false) : akk p l = -1 := by
 have e : l.findIdx? p = none := by
  rw [List.findIdx?_eq_none_iff]
  intro x hx
  obtain ⟨k, hk, rfl⟩ := List.getElem_of_mem hx
  have := hb k hk
  rw [List.getD_eq_getElem?_getD, List.getElem?_eq_getElem hk] at this
  exact this
 unfold akk
 rw [e]
theorem a94 (lo hi : Int) (l : List Int) : (!(iLe 0 (akk (ad4 lo hi) l))) = uh lo hi l := by
 unfold akk
 cases h : l.findIdx? (ad4 lo hi) with
 | none =>
  rw [List.findIdx?_eq_none_iff] at h
  symm
  show _ = true
  unfold uh
  rw [List.all_eq_true]
  intro x hx
  rw [h x hx]; rfl
 | some i =>
  rw [List.findIdx?_eq_some_iff_getElem] at h
  obtain ⟨hi', h1, _⟩ := h
  have e : iLe 0 (i : Int) = true := by simp only [Bz, Sx.af.n]; omega
  simp only [e, Bool.not_true]
  symm
  rw [Bool.eq_false_iff]
  intro hc
  have := List.all_eq_true.1 hc _ (List.getElem_mem hi')
  rw [h1] at this
  cases this
theorem ay8 {x : Nat} (h : x ≤ 1000000) : i64.wrap ((x : Int) + 1) = ((x + 1 : Nat) : Int) := by rw [IntKind.wrap_i64]; omega
theorem a8x {lo hi : Int} {l : List Int} : uh lo hi l = true ↔ ∀ x ∈ l, lo ≤ x ∧ x ≤ hi := by
 unfold uh ad4
 rw [List.all_eq_true]
 refine ⟨fun h x hx => ?_, fun h x hx => ?_⟩
 ·have := h x hx
  cases a : iLt x lo
  ·rw [a] at this
   have c : iLt hi x = false := by simpa using this
   simp only [Bz, Sx.af.n] at a c
   omega
  ·rw [a] at this; cases this
 ·obtain ⟨h1, h2⟩ := h x hx
  rw [show iLt x lo = false by simp only [Bz, Sx.af.n]; omega, show iLt hi x = false by simp only [Bz, Sx.af.n]; omega]; rfl
theorem be5 {l : List Int} (h : uh 0 9223372036854775807 l = true) {x : Nat} (hx : x < l.length) : 0 ≤ l.getD x 0 ∧ l.getD x 0 ≤ 9223372036854775807 := by
 rw [List.getD_eq_getElem?_getD, List.getElem?_eq_getElem hx]
 exact a8x.1 h _ (List.getElem_mem hx)
theorem aa2 {R : OB} (hr : R = bO) : ∀ l : List Int, (qj R l).length ≤ 10 * l.length
 | [] => Nat.le_refl _
 | x :: l => by
  have := aa2 hr l
  have h := aml hr x
  show (R.row x ++ qj R l).length ≤ _
  rw [zlA, List.length_cons]; omega
theorem abm {α : Type} {l : List α} {x : Nat} (d : α) (h : x < l.length) : l.take (x + 1) = l.take x ++ [l.getD x d] := by
 rw [List.take_add_one, List.getD_eq_getElem?_getD, List.getElem?_eq_getElem h]; rfl
theorem a0e (R : OB) {l : List Int} {x : Nat} (h : x < l.length) : qj R (l.take (x + 1)) = qj R (l.take x) ++ R.row (l.getD x 0) := by
 rw [abm 0 h]; unfold qj; rw [List.flatMap_append]; simp
theorem bcz {l : List (List Int)} (h : pqB l = true) {x : Nat} (hx : x < l.length) : inU ((l.getD x []).getD 3 0) 18446744073709551616 = true := by
 have e : l.getD x [] = l[x] := by rw [List.getD_eq_getElem?_getD, List.getElem?_eq_getElem hx]; rfl
 have := List.all_eq_true.1 h _ (List.getElem_mem hx)
 rw [zaT] at this
 rw [e]
 exact this.1
theorem a5p {R : OB} (hr : R = bO) (x : List Int) : (apf R x).length ≤ 48 := by
 have := aa2 hr [x.getD 0 0, x.getD 1 0, x.getD 2 0, x.getD 4 0]
 unfold apf
 rw [zlA]
 simp only [List.length_cons, List.length_nil, aln] at *
 omega
theorem ajd {R : OB} (hr : R = bO) : ∀ l : List (List Int), (lq R l).length ≤ 48 * l.length
 | [] => Nat.le_refl _
 | x :: l => by
  have := ajd hr l
  have h := a5p hr x
  show (apf R x ++ lq R l).length ≤ _
  rw [zlA, List.length_cons]; omega
theorem arj (R : OB) {l : List (List Int)} {x : Nat} (h : x < l.length) : lq R (l.take (x + 1)) = lq R (l.take x) ++ apf R (l.getD x []) := by
 rw [abm [] h]; unfold lq; rw [List.flatMap_append]; simp
theorem aoc {l : List (List Int)} {x : Nat} (h : x < l.length) : abg (l.take (x + 1)) = (abg (l.take x) && ap9 (l.getD x [])) := by
 rw [abm [] h]; unfold abg; rw [List.all_append]; simp
theorem arq {l : List (List Int)} {x : Nat} (h : x < l.length) (hb : ap9 (l.getD x []) = false) : abg l = false := by
 rw [List.getD_eq_getElem?_getD, List.getElem?_eq_getElem h] at hb
 unfold abg
 rw [List.all_eq_false]
 exact ⟨_, List.getElem_mem h, by rw [show ap9 l[x] = false from hb]; decide⟩
theorem nRl {R : OB} (hr : R = bO) (l : List Int) : (R.nR l).length ≤ l.length := by
 subst hr
 show (bif (o5 l 10 0 0).1 then l.drop (o5 l 10 0 0).2.2 else []).length ≤ _
 cases (o5 l 10 0 0).1
 ·exact Nat.zero_le _
 ·rw [cond_true, List.length_drop]; omega
theorem aws {l : List Int} : ∀ (g i : Nat) (a : Int), (o5 l g i a).1 = true → i < l.length ∧ i < (o5 l g i a).2.2
 | 0, i, a, h => by simp [o5] at h
 | g + 1, i, a, h => by
  unfold o5 at h ⊢
  cases w : wrF l i
  ·have hw := (a7r.1 w).1
   rw [w, cond_false] at h
   rw [cond_false]
   cases t : iLt (dgt l i) 128
   ·rw [t, cond_false] at h
    rw [cond_false]
    have := aws g (i + 1) _ h
    omega
   ·exact ⟨hw, by rw [cond_true]; show i < i + 1; omega⟩
  ·rw [w, cond_true] at h; cases h
theorem boz {R : OB} (hr : R = bO) {l : List Int} (h : R.nOk l = true) : (R.nR l).length < l.length := by
 subst hr
 have h : (o5 l 10 0 0).1 = true := h
 have := aws 10 0 0 h
 show (bif (o5 l 10 0 0).1 then l.drop (o5 l 10 0 0).2.2 else []).length < _
 rw [h, cond_true, List.length_drop]; omega
theorem aoj (l : List Int) (no : Bool) : (aec l no).length ≤ l.length := by
 unfold aec
 cases avl l no
 ·rw [cond_false, List.length_drop]; omega
 ·exact Nat.zero_le _
theorem amj {R : OB} (hr : R = bO) (l : List Int) : (cdL R l).length ≤ l.length := by
 have j0 := nRl hr l
 have j1 := nRl hr (R.nR l)
 have j2 := nRl hr (R.nR (R.nR l))
 have j3 := nRl hr (R.nR (R.nR (R.nR l)))
 unfold cdL
 omega
theorem akr {R : OB} (hr : R = bO) (l : List Int) : 1 + (aec (cdL R l) (cdO R l false)).length ≤ l.length + (bif ae9 (cdL R l) (cdO R l false) then 1 else 0) := by
 have h1 := aoj (cdL R l) (cdO R l false)
 have h2 := amj hr l
 cases c : ae9 (cdL R l) (cdO R l false)
 ·have a : cdO R l false = false := by
   unfold ae9 at c
   cases d : avl (cdL R l) (cdO R l false)
   ·rw [d] at c; exact c
   ·rw [d] at c; cases c
  have ok : R.nOk l = true := by
   unfold cdO nxO at a
   cases o : R.nOk l
   ·rw [o] at a
    revert a
    cases R.nOk (R.nR (R.nR (R.nR l))) <;> cases R.nOk (R.nR (R.nR l)) <;> cases R.nOk (R.nR l) <;> simp
   ·rfl
  have j := boz hr ok
  have j1 := nRl hr (R.nR l)
  have j2 := nRl hr (R.nR (R.nR l))
  have j3 := nRl hr (R.nR (R.nR (R.nR l)))
  have e : cdL R l = R.nR (R.nR (R.nR (R.nR l))) := rfl
  rw [← e] at j3
  show 1 + _ ≤ l.length + 0
  omega
 ·show 1 + _ ≤ l.length + 1
  omega
theorem bl8 (n d : Int) (i : Nat) : -9223372036854775808 ≤ orD n d i ∧ orD n d i ≤ 9223372036854775807 := by
 unfold orD; rw [IntKind.wrap_i64]; omega
theorem ba1 {l : List Int} : ∀ (g i : Nat) (a : Int), -9223372036854775808 ≤ (o5 l g i a).2.1 ∧ (o5 l g i a).2.1 ≤ 9223372036854775807
 | 0, i, a => by simp [o5]
 | g + 1, i, a => by
  unfold o5
  cases wrF l i
  ·cases iLt (dgt l i) 128
   ·exact ba1 g (i + 1) _
   ·exact bl8 _ _ _
  ·simp
theorem nVr {R : OB} (hr : R = bO) (l : List Int) : -9223372036854775808 ≤ R.nV l ∧ R.nV l ≤ 9223372036854775807 := by
 subst hr; exact ba1 10 0 0

def avs (O : OO) (R : OB) (ds : List Dt) : zG := match ds with
 | [.v (.int .i64 n), .node [.v (.int .i64 lo)], .node [.v (.int .i64 hi)]] => some (true, [], fun _ => ⟨[.v (.bool (ad4 lo hi n))], []⟩)
 | _ => none
theorem bj8 (O : OO) (R : OB) (n lo hi : Int) (F : FO O) (hr : R = bO) :
 If (iLt n lo) (vB true = vB (ad4 lo hi n) ∧ True ∧ True) (vB (iLt hi n) = vB (ad4 lo hi n) ∧ True ∧ True) := by
 unfold ad4
 exact ae (fun h => ⟨by rw [h]; rfl, trivial, trivial⟩) (fun h => ⟨by rw [h]; rfl, trivial, trivial⟩)
theorem bj9 (I : Sx.Interp) (O : OO) (hO : O = oo) (R : OB) (hR : R = bO) : ag I Tryz.prog 78 (au [.v, .robj 3 [.v], .robj 3 [.v]] false (avs O R)) := by
 refine o8 (ahf I O hO R hR) (by kernel_rfl) (fun _ => []) Tryz.func78 (by kernel_rfl) (by kernel_rfl) rfl Tryz.ntmps78 (by decide) ?_ ?_
 ·intro ds p bs F h
  unfold avs at h
  split at h
  ·rename_i n lo hi
   simp only [zsI, zpI] at h
   obtain ⟨_, _, rfl⟩ := h
   kernel_rfl
  ·cases h
 ·intro ds bs F hl h
  unfold avs at h
  split at h
  ·rename_i n lo hi
   simp only [zsI, zpI, zaT] at h
   obtain ⟨_, _, rfl⟩ := h
   exact Eq.mpr (by kernel_rfl) (bj8 O R n lo hi (dn O hO) hR )
  ·cases h
def bmt (O : OO) (R : OB) (f : FuncId) : Option Sx.Spec := match f with
 | 78 => some (au [.v, .robj 3 [.v], .robj 3 [.v]] false (avs O R))
 | f => bf5 O R f
theorem a2i (I : Sx.Interp) (O : OO) (hO : O = oo) (R : OB) (hR : R = bO) : ∀ f s, bmt O R f = some s → ag I Tryz.prog f s := by
 intro f s h
 unfold bmt at h
 split at h
 · cases h; exact bj9 I O hO R hR
 ·exact ahf I O hO R hR _ s h
def asx (O : OO) (R : OB) (ds : List Dt) : zG := match ds with
 | [.ints l, .node [.node [.v (.int .i64 lo)], .node [.v (.int .i64 hi)]]] => some ((Nat.ble l.length 1000), [], fun _ => ⟨[.v (.int .i64 (akk (ad4 lo hi) l))], []⟩)
 | _ => none
theorem bj6 (O : OO) (R : OB) (l : List Int) (lo hi : Int) (F : FO O) (hr : R = bO) (h1 : (Nat.ble l.length 1000) = true) :
 (∃ (x : Nat), (x ≤ l.length ∧ ∀ (k : Nat), k.succ ≤ x → ad4 lo hi (l.getD k 0) = false) ∧ (vI 0 = vI (iOf x) ∧ SV.fn (Fn.func 78) [SV.ptr 1 0, SV.ptr 2 0] = SV.fn (Fn.func 78) [SV.ptr 1 0, SV.ptr 2 0] ∧ vI (iOf l.length) = vI (iOf l.length) ∧ True) ∧ EqI l l ∧ vI lo = vI lo ∧ vI hi = vI hi ∧ True) ∧ ∀ (x : Nat), (x ≤ l.length ∧ ∀ (k : Nat), k.succ ≤ x → ad4 lo hi (l.getD k 0) = false) → If (iLt (iOf x) (iOf (af.ints .i64 l).n)) (If (iLe 0 (iOf x) && (iOf x).toNat.blt l.length) (If (true && Nat.beq 1 1 && (iOf x).toNat.blt l.length) (If (ad4 lo hi (l.getD (iOf x).toNat 0)) (vI (iOf x) = vI (akk (ad4 lo hi) l) ∧ True ∧ True) (∃ (x' : Nat), (x' ≤ l.length ∧ ∀ (k : Nat), k.succ ≤ x' → ad4 lo hi (l.getD k 0) = false) ∧ (iy l.length x').succ ≤ iy l.length x ∧ (vI (i64.wrap (dh (iOf x) 1)) = vI (iOf x') ∧ SV.fn (Fn.func 78) [SV.ptr 1 0, SV.ptr 2 0] = SV.fn (Fn.func 78) [SV.ptr 1 0, SV.ptr 2 0] ∧ vI (iOf l.length) = vI (iOf l.length) ∧ True) ∧ EqI l l ∧ vI lo = vI lo ∧ vI hi = vI hi ∧ True)) False) False) (vI (abn 1) = vI (akk (ad4 lo hi) l) ∧ True ∧ True) := by
 simp only [zUn]
 have hm := zbL h1
 refine ⟨⟨0, ⟨Nat.zero_le _, fun k hk => absurd hk (Nat.not_succ_le_zero _)⟩, (by repeat' (first | exact True.intro | exact rfl | refine ⟨?_, ?_⟩))⟩, fun x hx => ae (fun h => ?_) (fun h => ?_)⟩
 ·simp only [Bz, Sx.af.n] at h
  have hlt : x < l.length := by omega
  have hbl : x.blt l.length = true := by rw [Nat.blt_eq]; exact hlt
  refine ziT (by simp only [Bz, Sx.af.n, hbl, and_true, ztN]; omega) (ziT (by simp only [hbl, ztN]; rfl) (ae (fun hc => ?_) (fun hc => ?_)))
  ·simp only [ztN] at hc
   exact ⟨by rw [a5j hlt (fun k hk => hx.2 k hk) hc], trivial, trivial⟩
  ·simp only [ztN] at hc
   exact ⟨x + 1, ⟨hlt, fun k hk => by
    rcases Nat.lt_or_ge k x with h' | h'
    ·exact hx.2 k h'
    ·have : k = x := by omega
     rw [this]; exact hc⟩, by omega, ⟨by rw [ay8 (by omega)], (by repeat' (first | exact True.intro | exact rfl | refine ⟨?_, ?_⟩))⟩, (by repeat' (first | exact True.intro | exact rfl | refine ⟨?_, ?_⟩))⟩
 ·simp only [Bz, Sx.af.n] at h
  have hx2 : x = l.length := by omega
  subst hx2
  exact ⟨by rw [a6f (fun k hk => hx.2 k hk)], trivial, trivial⟩
theorem bfx (I : Sx.Interp) (O : OO) (hO : O = oo) (R : OB) (hR : R = bO) : ag I Tryz.prog 106 (au [.ro .i64, .fn 78 [.robj 3 [.v], .robj 3 [.v]]] false (asx O R)) := by
 refine o8 (a2i I O hO R hR) (by kernel_rfl) (fun ds => match ds with | [.ints l, .node [.node [.v (.int .i64 lo)], .node [.v (.int .i64 hi)]]] => [⟨Nat, [0, 1, 7], [], fun B j => [(8, .v (.int .i64 (j : Int)))], fun B j => [], fun j => j ≤ l.length ∧ ∀ k, k < j → ad4 lo hi (l.getD k 0) = false, fun j => l.length - j, 0⟩] | _ => []) Tryz.func106 (by kernel_rfl) (by kernel_rfl) rfl Tryz.ntmps106 (by decide) ?_ ?_
 ·intro ds p bs F h
  unfold asx at h
  split at h
  ·rename_i l lo hi
   simp only [zsI, zpI] at h
   obtain ⟨_, _, rfl⟩ := h
   kernel_rfl
  ·cases h
 ·intro ds bs F hl h
  unfold asx at h
  split at h
  ·rename_i l lo hi
   simp only [zsI, zpI, zaT] at h
   obtain ⟨h1, _, rfl⟩ := h
   exact Eq.mpr (by kernel_rfl) (bj6 O R l lo hi (dn O hO) hR (by first | exact h1 | (simp only [zaT]; exact h1)))
  ·cases h
def bm4 (O : OO) (R : OB) (f : FuncId) : Option Sx.Spec := match f with
 | 106 => some (au [.ro .i64, .fn 78 [.robj 3 [.v], .robj 3 [.v]]] false (asx O R))
 | f => bmt O R f
theorem a2g (I : Sx.Interp) (O : OO) (hO : O = oo) (R : OB) (hR : R = bO) : ∀ f s, bm4 O R f = some s → ag I Tryz.prog f s := by
 intro f s h
 unfold bm4 at h
 split at h
 · cases h; exact bfx I O hO R hR
 ·exact a2i I O hO R hR _ s h
def atl (O : OO) (R : OB) (ds : List Dt) : zG := match ds with
 | [.ints l, .node [.node [.v (.int .i64 lo)], .node [.v (.int .i64 hi)]]] => some ((Nat.ble l.length 1000), [], fun _ => ⟨[.v (.bool (iLe 0 (akk (ad4 lo hi) l)))], []⟩)
 | _ => none
theorem bfp (O : OO) (R : OB) (l : List Int) (lo hi : Int) (F : FO O) (hr : R = bO) (h1 : (Nat.ble l.length 1000) = true) :
 If (l.length.ble 1000) (vB (iLe 0 (akk (ad4 lo hi) l)) = vB (iLe 0 (akk (ad4 lo hi) l)) ∧ True ∧ True) False := by
 exact ziT h1 ⟨rfl, trivial, trivial⟩
theorem bgg (I : Sx.Interp) (O : OO) (hO : O = oo) (R : OB) (hR : R = bO) : ag I Tryz.prog 77 (au [.ro .i64, .fn 78 [.robj 3 [.v], .robj 3 [.v]]] false (atl O R)) := by
 refine o8 (a2g I O hO R hR) (by kernel_rfl) (fun _ => []) Tryz.func77 (by kernel_rfl) (by kernel_rfl) rfl Tryz.ntmps77 (by decide) ?_ ?_
 ·intro ds p bs F h
  unfold atl at h
  split at h
  ·rename_i l lo hi
   simp only [zsI, zpI] at h
   obtain ⟨_, _, rfl⟩ := h
   kernel_rfl
  ·cases h
 ·intro ds bs F hl h
  unfold atl at h
  split at h
  ·rename_i l lo hi
   simp only [zsI, zpI, zaT] at h
   obtain ⟨h1, _, rfl⟩ := h
   exact Eq.mpr (by kernel_rfl) (bfp O R l lo hi (dn O hO) hR (by first | exact h1 | (simp only [zaT]; exact h1)))
  ·cases h
def bl6 (O : OO) (R : OB) (f : FuncId) : Option Sx.Spec := match f with
 | 77 => some (au [.ro .i64, .fn 78 [.robj 3 [.v], .robj 3 [.v]]] false (atl O R))
 | f => bm4 O R f
theorem a2k (I : Sx.Interp) (O : OO) (hO : O = oo) (R : OB) (hR : R = bO) : ∀ f s, bl6 O R f = some s → ag I Tryz.prog f s := by
 intro f s h
 unfold bl6 at h
 split at h
 · cases h; exact bgg I O hO R hR
 ·exact a2g I O hO R hR _ s h
def a3c (O : OO) (R : OB) (ds : List Dt) : zG := match ds with
 | [.v (.int .i64 lo), .v (.int .i64 hi), .ints l] => some ((Nat.ble l.length 1000), [], fun _ => ⟨[.v (.bool (uh lo hi l))], []⟩)
 | _ => none
theorem bl0 (O : OO) (R : OB) (lo hi : Int) (l : List Int) (F : FO O) (hr : R = bO) (h1 : (Nat.ble l.length 1000) = true) :
 If (l.length.ble 1000) ((vB !iLe 0 (akk (ad4 lo hi) l)) = vB (uh lo hi l) ∧ True ∧ True) False := by
 exact ziT h1 ⟨by rw [a94], trivial, trivial⟩
theorem bmq (I : Sx.Interp) (O : OO) (hO : O = oo) (R : OB) (hR : R = bO) : ag I Tryz.prog 43 (au [.v, .v, .ro .i64] false (a3c O R)) := by
 refine o8 (a2k I O hO R hR) (by kernel_rfl) (fun _ => []) Tryz.func43 (by kernel_rfl) (by kernel_rfl) rfl Tryz.ntmps43 (by decide) ?_ ?_
 ·intro ds p bs F h
  unfold a3c at h
  split at h
  ·rename_i lo hi l
   simp only [zsI, zpI] at h
   obtain ⟨_, _, rfl⟩ := h
   kernel_rfl
  ·cases h
 ·intro ds bs F hl h
  unfold a3c at h
  split at h
  ·rename_i lo hi l
   simp only [zsI, zpI, zaT] at h
   obtain ⟨h1, _, rfl⟩ := h
   exact Eq.mpr (by kernel_rfl) (bl0 O R lo hi l (dn O hO) hR (by first | exact h1 | (simp only [zaT]; exact h1)))
  ·cases h
def boh (O : OO) (R : OB) (f : FuncId) : Option Sx.Spec := match f with
 | 43 => some (au [.v, .v, .ro .i64] false (a3c O R))
 | 64 => some (au [.ro .u8, .v] false (auq O R))
 | 49 => some (au [.obj 108 [.ro .u8, .v]] true (asu O R))
 | f => bl6 O R f
theorem a2w (I : Sx.Interp) (O : OO) (hO : O = oo) (R : OB) (hR : R = bO) : ∀ f s, boh O R f = some s → ag I Tryz.prog f s := by
 intro f s h
 unfold boh at h
 split at h
 · cases h; exact bmq I O hO R hR
 · cases h; exact be9 I O hO R hR
 · cases h; exact bh6 I O hO R hR
 ·exact a2k I O hO R hR _ s h
def anb (O : OO) (R : OB) (ds : List Dt) : zG := match ds with
 | [.ints l, .node [.ints b]] => some ((Nat.ble b.length 990000) && (Nat.ble l.length 100) && (uh 0 9223372036854775807 l), [], fun _ => ⟨[], [(1, .blk 43 [.row 3]), (3, .ro (.ints .u8 (b ++ qj R l)))]⟩)
 | _ => none
theorem a90 (O : OO) (R : OB) (l b : List Int) (F : FO O) (hr : R = bO) (h0 : (Nat.ble b.length 990000) = true) (h1 : (Nat.ble l.length 100) = true) (h2 : (uh 0 9223372036854775807 l) = true) :
 (∃ (x : Nat), x ≤ l.length ∧ (vI 0 = vI (iOf x) ∧ vI (iOf l.length) = vI (iOf l.length) ∧ True) ∧ EqI b (app b (qj R (List.take x l))) ∧ EqI l l ∧ True) ∧ ∀ (x : Nat), x ≤ l.length → If (iLt (iOf x) (iOf (af.ints .i64 l).n)) (If (iLe 0 (iOf x) && (iOf x).toNat.blt l.length) (If (true && Nat.beq 1 1 && (iOf x).toNat.blt l.length) (If ((app b (qj R (List.take x l))).length.ble 1000000 && iLe (l.getD (iOf x).toNat 0) 9223372036854775807) (∃ (x' : Nat), x' ≤ l.length ∧ (iy l.length x').succ ≤ iy l.length x ∧ (vI (i64.wrap (dh (iOf x) 1)) = vI (iOf x') ∧ vI (iOf l.length) = vI (iOf l.length) ∧ True) ∧ EqI (bif iLt (l.getD (iOf x).toNat 0) 0 then app b (qj R (List.take x l)) else app (app b (qj R (List.take x l))) (R.row (l.getD (iOf x).toNat 0))) (app b (qj R (List.take x' l))) ∧ EqI l l ∧ True) False) False) False) (True ∧ EqI (app b (qj R (List.take x l))) (app b (qj R l)) ∧ True) := by
 have h0' := zbL h0
 have h1' := zbL h1
 have ha := fun x hx => be5 h2 (x := x) hx
 refine ⟨⟨0, Nat.zero_le _, ⟨rfl, rfl, trivial⟩, by simp [EqI, qj, zUn], rfl, trivial⟩, fun x hx => ?_⟩
 have hn : (iOf x).toNat = x := by simp only [zUn, ztN]
 rw [hn]
 refine ae (fun d => ?_) (fun d => ?_)
 ·simp only [Bz, Sx.af.n, zUn] at d
  have hx' : x < l.length := by omega
  have hb : x.blt l.length = true := by rw [Nat.blt_eq]; exact hx'
  obtain ⟨a1, a2⟩ := ha x hx'
  have w1 : i64.wrap (dh (iOf x) 1) = iOf (x + 1) := by simp only [zUn]; rw [IntKind.wrap_i64]; omega
  have hl := aa2 hr (List.take x l)
  rw [List.length_take] at hl
  rw [hb, w1]
  refine ziT (by simp only [Bz, Sx.af.n, zUn]; exact ⟨by omega, trivial⟩) (ziT rfl (ziT (by simp only [zUn, Bz, Sx.af.n, zlA]; omega) ⟨x + 1, hx', by simp only [zUn]; omega, ⟨rfl, rfl, trivial⟩, ?_, rfl, trivial⟩))
  rw [show iLt (l.getD x 0) 0 = false by simp only [Bz, Sx.af.n]; omega]
  show b ++ qj R (l.take x) ++ R.row (l.getD x 0) = b ++ qj R (l.take (x + 1))
  rw [a0e R hx', List.append_assoc]
 ·simp only [Bz, Sx.af.n, zUn] at d
  obtain rfl : x = l.length := by omega
  exact ⟨trivial, by rw [List.take_length], trivial⟩
theorem bet (I : Sx.Interp) (O : OO) (hO : O = oo) (R : OB) (hR : R = bO) : ag I Tryz.prog 62 (au [.ro .i64, .obj 43 [.ro .u8]] true (anb O R)) := by
 refine o8 (a2w I O hO R hR) (by kernel_rfl) (fun ds => match ds with | [.ints l, .node [.ints b]] => [⟨Nat, [1, 5, 6], [(100001, 5, .ints .u8 [])], fun B j => [(7, .v (.int .i64 (j : Nat)))], fun B j => [(1, .blk 43 [.row B]), (B, .ro (.ints .u8 (b ++ qj R (l.take j))))], fun j => j ≤ l.length, fun j => l.length - j, 0⟩] | _ => []) Tryz.func62 (by kernel_rfl) (by kernel_rfl) rfl Tryz.ntmps62 (by decide) ?_ ?_
 ·intro ds p bs F h
  unfold anb at h
  split at h
  ·rename_i l b
   simp only [zsI, zpI] at h
   obtain ⟨_, _, rfl⟩ := h
   kernel_rfl
  ·cases h
 ·intro ds bs F hl h
  unfold anb at h
  split at h
  ·rename_i l b
   simp only [zsI, zpI, zaT] at h
   obtain ⟨⟨⟨h0, h1⟩, h2⟩, _, rfl⟩ := h
   exact Eq.mpr (by kernel_rfl) (a90 O R l b (dn O hO) hR (by first | exact h0 | (simp only [zaT]; exact h0)) (by first | exact h1 | (simp only [zaT]; exact h1)) (by first | exact h2 | (simp only [zaT]; exact h2)))
  ·cases h
def blf (O : OO) (R : OB) (f : FuncId) : Option Sx.Spec := match f with
 | 62 => some (au [.ro .i64, .obj 43 [.ro .u8]] true (anb O R))
 | f => boh O R f
theorem auv (I : Sx.Interp) (O : OO) (hO : O = oo) (R : OB) (hR : R = bO) : ∀ f s, blf O R f = some s → ag I Tryz.prog f s := by
 intro f s h
 unfold blf at h
 split at h
 · cases h; exact bet I O hO R hR
 ·exact a2w I O hO R hR _ s h
def aee (O : OO) (R : OB) (ds : List Dt) : zG := match ds with
 | [.node [.v (.int .i64 no), .v (.int .i64 h0), .v (.int .i64 h1), .structs l, .v (.int .i64 rt)]] => some ((Nat.ble l.length 1000) && (pqB l), [], fun _ => ⟨[.row 1], [(1, .ro (.ints .u8 (stB R no h0 h1 rt l)))]⟩)
 | _ => none
theorem a05 (O : OO) (R : OB) (no h0 h1 rt : Int) (l : List (List Int)) (F : FO O) (hr : R = bO) (g0 : (Nat.ble l.length 1000) = true) (g1 : (pqB l) = true) :
 let T1 := qj R [no, h0, h1, rt, iOf l.length]; let T2 := vI no = vI no ∧ vI h0 = vI h0 ∧ vI h1 = vI h1 ∧ vI rt = vI rt; let T3 := True ∧ EqI [] (stB R no h0 h1 rt l) ∧ True; If
  (!uh 0 9223372036854775807 [no, h0, h1, rt, iOf l.length]) T3 (If (Nat.ble 0 990000 && Nat.ble 5 100 && uh 0 9223372036854775807 [no, h0, h1, rt, iOf l.length]) ((∃ (x : Nat),
  (x ≤ l.length ∧ abg (List.take x l) = true) ∧ (vI 0 = vI (iOf x) ∧ SV.fn (Fn.func 62) [SV.ptr 1152 0] = SV.fn (Fn.func 62) [SV.ptr
  1152 0] ∧ vI (iOf l.length) = vI (iOf l.length) ∧ True) ∧ EqI (app [] T1) (app T1 (lq R (List.take x l))) ∧ T2 ∧ cS l = cS l ∧ True) ∧ ∀ (x : Nat), let T4 := app (app T1 (lq R (List.take x l))) (qj R [(l.getD (iOf x).toNat []).getD 0 0, (l.getD (iOf x).toNat []).getD 1 0, (l.getD (iOf x).toNat []).getD 2 0, (l.getD (iOf x).toNat []).getD 4 0]);
  x ≤ l.length ∧ abg (List.take x l) = true → If (iLt (iOf x) (iOf (cS l).n)) (If (iLe 0 (iOf x) && (iOf x).toNat.blt l.length) (If (true && Nat.beq 5 5 && (iOf x).toNat.blt
  l.length) (If (!uh 0 9223372036854775807 [(l.getD (iOf x).toNat []).getD 0 0, (l.getD (iOf x).toNat []).getD 1 0, (l.getD (iOf x).toNat []).getD 2 0, (l.getD (iOf x).toNat
  []).getD 4 0]) T3 (If ((app T1 (lq R (List.take x l))).length.ble 990000 && Nat.ble 4 100 && uh 0 9223372036854775807 [(l.getD (iOf x).toNat []).getD 0 0, (l.getD (iOf x).toNat
  []).getD 1 0, (l.getD (iOf x).toNat []).getD 2 0, (l.getD (iOf x).toNat []).getD 4 0]) (If (T4.length.ble 1000000 && inU ((l.getD (iOf x).toNat []).getD 3 0) 18446744073709551616)
  (∃ (x' : Nat), (x' ≤ l.length ∧ abg (List.take x' l) = true) ∧ (iy l.length x').succ ≤ iy l.length x ∧ (vI (i64.wrap (dh (iOf x) 1)) = vI (iOf x') ∧ SV.fn (Fn.func
  62) [SV.ptr 1152 0] = SV.fn (Fn.func 62) [SV.ptr 1152 0] ∧ vI (iOf l.length) = vI (iOf l.length) ∧ True) ∧ EqI (app T4 (aln ((l.getD
  (iOf x).toNat []).getD 3 0))) (app T1 (lq R (List.take x' l))) ∧ T2 ∧ cS l = cS l ∧ True) False) False)) False) False) (True ∧ EqI (app T1 (lq R (List.take x l))) (stB R no h0
  h1 rt l) ∧ True)) False) := by
 conv => zeta
 have g0' := zbL g0
 refine ae (fun d => ?_) (fun d => ?_)
 ·have d : uh 0 9223372036854775807 [no, h0, h1, rt, iOf l.length] = false := by simpa using d
  refine ⟨trivial, ?_, trivial⟩
  unfold stB
  rw [show uh 0 9223372036854775807 [no, h0, h1, rt, (l.length : Int)] = false from d]; rfl
 have d : uh 0 9223372036854775807 [no, h0, h1, rt, iOf l.length] = true := by simpa using d
 have hst : stB R no h0 h1 rt l = bif abg l then qj R [no, h0, h1, rt, (l.length : Int)] ++ lq R l else [] := by
  unfold stB
  rw [show uh 0 9223372036854775807 [no, h0, h1, rt, (l.length : Int)] = true from d]; rfl
 have hh := aa2 hr [no, h0, h1, rt, iOf l.length]
 simp only [List.length_cons, List.length_nil] at hh
 obtain ⟨H, hH⟩ : ∃ H, qj R [no, h0, h1, rt, iOf l.length] = H := ⟨_, rfl⟩
 have hst : stB R no h0 h1 rt l = bif abg l then H ++ lq R l else [] := by rw [hst, ← hH]; rfl
 rw [hH] at hh
 rw [hH, d]
 refine ziT rfl ⟨⟨0, ⟨Nat.zero_le _, rfl⟩, ⟨rfl, rfl, rfl, trivial⟩, by simp [EqI, lq, zUn], ⟨rfl, rfl, rfl, rfl⟩, rfl, trivial⟩, fun x ⟨x1, x2⟩ => ?_⟩
 have hn : (iOf x).toNat = x := by simp only [zUn, ztN]
 rw [hn]
 refine ae (fun e => ?_) (fun e => ?_)
 ·simp only [Bz, Sx.af.n, zUn] at e
  have hx' : x < l.length := by omega
  have hb : x.blt l.length = true := by rw [Nat.blt_eq]; exact hx'
  have w1 : i64.wrap (dh (iOf x) 1) = iOf (x + 1) := by simp only [zUn]; rw [IntKind.wrap_i64]; omega
  obtain ⟨y, hy⟩ : ∃ y, l.getD x [] = y := ⟨_, rfl⟩
  have hq : inU (y.getD 3 0) 18446744073709551616 = true := by rw [← hy]; exact bcz g1 hx'
  have hcl := ajd hr (l.take x)
  rw [List.length_take] at hcl
  have hrl := aa2 hr [y.getD 0 0, y.getD 1 0, y.getD 2 0, y.getD 4 0]
  simp only [List.length_cons, List.length_nil] at hrl
  have hsn := arj R hx'
  have hok := aoc hx'
  rw [hy] at hsn hok
  have hcy : apf R y = qj R [y.getD 0 0, y.getD 1 0, y.getD 2 0, y.getD 4 0] ++ aln (y.getD 3 0) := rfl
  have hky : ap9 y = uh 0 9223372036854775807 [y.getD 0 0, y.getD 1 0, y.getD 2 0, y.getD 4 0] := rfl
  rw [hb, w1, hy]
  refine ziT (by simp only [Bz, Sx.af.n, zUn]; exact ⟨by omega, trivial⟩) (ziT rfl (ae (fun f => ?_) (fun f => ?_)))
  ·have f : ap9 y = false := by rw [hky]; simpa using f
   refine ⟨trivial, ?_, trivial⟩
   rw [hst, arq hx' (hy ▸ f)]; rfl
  ·have f : ap9 y = true := by rw [hky]; simpa using f
   rw [← hky, f]
   refine ziT (by simp only [zUn, Bz, Sx.af.n, zlA]; refine ⟨⟨by omega, by decide⟩, trivial⟩) (ziT (by rw [hq, Bool.and_true]; simp only [zUn, Bz, Sx.af.n, zlA]; omega) ⟨x + 1, ⟨hx', by rw [hok, x2, f]; rfl⟩, by simp only [zUn]; omega, ⟨rfl, rfl, rfl, trivial⟩, ?_, ⟨rfl, rfl, rfl, rfl⟩, rfl, trivial⟩)
   show H ++ lq R (l.take x) ++ qj R _ ++ aln _ = H ++ lq R (l.take (x + 1))
   rw [hsn, hcy, List.append_assoc, List.append_assoc]
 ·simp only [Bz, Sx.af.n, zUn] at e
  obtain rfl : x = l.length := by omega
  rw [List.take_length] at x2 ⊢
  exact ⟨trivial, by rw [hst, x2]; rfl, trivial⟩
theorem aor (I : Sx.Interp) (O : OO) (hO : O = oo) (R : OB) (hR : R = bO) : ag I Tryz.prog 28 (au [.agg [.v, .v, .v, .roS [.i64, .i64, .i64, .u64, .i64], .v]] true (aee O R)) := by
 refine zn (auv I O hO R hR) (by kernel_rfl) (fun ds => match ds with | [.node [.v (.int .i64 no), .v (.int .i64 h0), .v (.int .i64 h1), .structs l, .v (.int .i64 rt)]] => [⟨Nat, [1, 4, 5, 30, 31], [(100004, 5, .ints .u8 [])], fun B j => [(32, .v (.int .i64 (j : Nat)))], fun B j => [(1152, .blk 43 [.row B]), (B, .ro (.ints .u8 (qj R [no, h0, h1, rt, (l.length : Int)] ++ lq R (l.take j))))], fun j => j ≤ l.length ∧ abg (l.take j) = true, fun j => l.length - j, 0⟩] | _ => []) (fun ds => match ds with | [.node [.v (.int .i64 no), .v (.int .i64 h0), .v (.int .i64 h1), .structs l, .v (.int .i64 rt)]] => [(2, 5, .ints .u8 [])] | _ => []) Tryz.func28 (by kernel_rfl) (by kernel_rfl) rfl Tryz.ntmps28 (by decide) ?_ ?_
 ·intro ds p bs F h
  unfold aee at h
  split at h
  ·rename_i no h0 h1 l rt
   simp only [zsI, zpI] at h
   obtain ⟨_, _, rfl⟩ := h
   kernel_rfl
  ·cases h
 ·intro ds bs F hl h
  unfold aee at h
  split at h
  ·rename_i no h0 h1 l rt
   simp only [zsI, zpI, zaT] at h
   obtain ⟨⟨g0, g1⟩, _, rfl⟩ := h
   exact Eq.mpr (by kernel_rfl) (a05 O R no h0 h1 rt l (dn O hO) hR (by first | exact g0 | (simp only [zaT]; exact g0)) (by first | exact g1 | (simp only [zaT]; exact g1)))
  ·cases h
def agu (O : OO) (R : OB) (ds : List Dt) : zG := match ds with
 | [.ints b] => some ((Nat.ble b.length 1000000), [], fun _ => ⟨[.agg [.v (.int .i64 (aia R b)), .v (.int .i64 (ah7 R b)), .v (.int .i64 (ah9 R b)), .row 1, .v (.int .i64 (ah2 R b))], .v (.bool (xn R b))], [(1, .own 41 (.structs [.i64, .i64, .i64, .u64, .i64] (snC R b)))]⟩)
 | _ => none
theorem a4d (O : OO) (R : OB) (b : List Int) (F : FO O) (hr : R = bO) (h0 : (Nat.ble b.length 1000000) = true) :
 let T1 := vI 0 = vI (aia R b) ∧ vI 0 = vI (ah7 R b) ∧ vI 0 = vI (ah9 R b) ∧ vI 0 = vI (ah2 R b); let T2 := vI (R.nV b) = vI (R.nV b) ∧ vI (R.nV (R.nR b)) = vI (R.nV (R.nR b)) ∧ vI (R.nV (R.nR (R.nR b))) = vI (R.nV (R.nR (R.nR b))) ∧ vI (R.nV (R.nR (R.nR (R.nR b)))) = vI (R.nV (R.nR (R.nR (R.nR b))));
  let T3 := vI (R.nV b) = vI (aia R b) ∧ vI (R.nV (R.nR b)) = vI (ah7 R b) ∧ vI (R.nV (R.nR (R.nR b))) = vI (ah9 R b) ∧ vI (R.nV (R.nR (R.nR (R.nR b)))) = vI (ah2 R b); If
  (b.length.ble 1000000) (If (b.length.ble 1000000) (If ((R.nR b).length.ble 1000000) (If ((R.nR (R.nR b)).length.ble 1000000) (If ((R.nR (R.nR (R.nR b))).length.ble 1000000) (If
  ((R.nR (R.nR (R.nR (R.nR b)))).length.ble 1000000) ((∃ (x : Int × List Int × Bool × List (List Int)), (sdF R x.1.toNat x.2.1 x.snd.2.1 x.snd.2.2 = sdF R (hdN R b).toNat (hdL R b)
  (hdO R b) [] ∧ (iLe (abn 9223372036854775808) x.1 && iLe x.1 9223372036854775807) = true ∧ ay x.snd.2.2.length x.2.1.length ≤ ay b.length (bif x.snd.2.1 then 1 else 0)) ∧ (vI
  (R.nV (R.nR (R.nR (R.nR (R.nR b))))) = vI x.1 ∧ vB false = vB false ∧ True) ∧ vB (bif R.nOk (R.nR (R.nR (R.nR (R.nR b)))) then bif R.nOk (R.nR (R.nR (R.nR b))) then bif R.nOk (R.nR
  (R.nR b)) then bif R.nOk (R.nR b) then bif R.nOk b then false else true else true else true else true else true) = vB x.snd.2.1 ∧ EqI (R.nR (R.nR (R.nR (R.nR (R.nR b))))) x.2.1 ∧ T2
  ∧ cS [] = cS x.snd.2.2 ∧ EqI (R.nR (R.nR (R.nR (R.nR b)))) (R.nR (R.nR (R.nR (R.nR b)))) ∧ EqI (R.nR (R.nR (R.nR b))) (R.nR (R.nR (R.nR b))) ∧ EqI (R.nR (R.nR b)) (R.nR (R.nR b)) ∧
  EqI (R.nR b) (R.nR b) ∧ EqI b b ∧ Array.mk [vI 0, vI 0, vI 0, Value.slice none 0 0, vI 0] = Array.mk [vI 0, vI 0, vI 0, Value.slice none 0 0, vI 0] ∧ True) ∧ ∀ (x : Int × List Int ×
  Bool × List (List Int)), sdF R x.1.toNat x.2.1 x.snd.2.1 x.snd.2.2 = sdF R (hdN R b).toNat (hdL R b) (hdO R b) [] ∧ (iLe (abn 9223372036854775808) x.1 && iLe x.1
  9223372036854775807) = true ∧ ay x.snd.2.2.length x.2.1.length ≤ ay b.length (bif x.snd.2.1 then 1 else 0) → If (iLt 0 x.1) (If (!x.snd.2.1) (If (x.2.1.length.ble 1000000) (If
  ((R.nR x.2.1).length.ble 1000000) (If ((R.nR (R.nR x.2.1)).length.ble 1000000) (If ((R.nR (R.nR (R.nR x.2.1))).length.ble 1000000) (If ((R.nR (R.nR (R.nR (R.nR x.2.1)))).length.ble
  1000000) (If ((jd (ay x.snd.2.2.length 1) 40).ble 140737488355328 && (ay x.snd.2.2.length 1).ble 9223372036854775807) (∃ (x' : Int × List Int × Bool × List (List Int)), (sdF R
  x'.1.toNat x'.2.1 x'.snd.2.1 x'.snd.2.2 = sdF R (hdN R b).toNat (hdL R b) (hdO R b) [] ∧ (iLe (abn 9223372036854775808) x'.1 && iLe x'.1 9223372036854775807) = true ∧ ay
  x'.snd.2.2.length x'.2.1.length ≤ ay b.length (bif x'.snd.2.1 then 1 else 0)) ∧ x'.1.toNat.succ ≤ x.1.toNat ∧ (vI (i64.wrap (di x.1 1)) = vI x'.1 ∧ vB false = vB false ∧
  True) ∧ vB (ae9 (R.nR (R.nR (R.nR (R.nR x.2.1)))) (bif R.nOk (R.nR (R.nR (R.nR x.2.1))) then bif R.nOk (R.nR (R.nR x.2.1)) then bif R.nOk (R.nR x.2.1) then bif R.nOk x.2.1 then
  x.snd.2.1 else true else true else true else true)) = vB x'.snd.2.1 ∧ EqI (aec (R.nR (R.nR (R.nR (R.nR x.2.1)))) (bif R.nOk (R.nR (R.nR (R.nR x.2.1))) then bif R.nOk (R.nR (R.nR
  x.2.1)) then bif R.nOk (R.nR x.2.1) then bif R.nOk x.2.1 then x.snd.2.1 else true else true else true else true)) x'.2.1 ∧ T2 ∧ cS (app x.snd.2.2 [[R.nV x.2.1, R.nV (R.nR x.2.1),
  R.nV (R.nR (R.nR x.2.1)), apo R (R.nR (R.nR (R.nR (R.nR x.2.1)))) (bif R.nOk (R.nR (R.nR (R.nR x.2.1))) then bif R.nOk (R.nR (R.nR x.2.1)) then bif R.nOk (R.nR x.2.1) then bif
  R.nOk x.2.1 then x.snd.2.1 else true else true else true else true), R.nV (R.nR (R.nR (R.nR x.2.1)))]]) = cS x'.snd.2.2 ∧ EqI (R.nR (R.nR (R.nR (R.nR b)))) (R.nR (R.nR (R.nR (R.nR
  b)))) ∧ EqI (R.nR (R.nR (R.nR b))) (R.nR (R.nR (R.nR b))) ∧ EqI (R.nR (R.nR b)) (R.nR (R.nR b)) ∧ EqI (R.nR b) (R.nR b) ∧ EqI b b ∧ Array.mk [vI 0, vI 0, vI 0, Value.slice none 0 0,
  vI 0] = Array.mk [vI 0, vI 0, vI 0, Value.slice none 0 0, vI 0] ∧ True) False) False) False) False) False) False) (If (!!x.snd.2.1) ((T1 ∧ vB false = vB (xn R b)) ∧ True ∧ cS [] =
  cS (snC R b) ∧ True) (If (iLt 0 (iOf x.2.1.length)) ((T1 ∧ vB false = vB (xn R b)) ∧ True ∧ cS [] = cS (snC R b) ∧ True) ((T3 ∧ vB true = vB (xn R b)) ∧ True ∧ cS x.snd.2.2 = cS
  (snC R b) ∧ True)))) (If (!!x.snd.2.1) ((T1 ∧ vB false = vB (xn R b)) ∧ True ∧ cS [] = cS (snC R b) ∧ True) (If (iLt 0 (iOf x.2.1.length)) ((T1 ∧ vB false = vB (xn R b)) ∧ True
  ∧ cS [] = cS (snC R b) ∧ True) ((T3 ∧ vB true = vB (xn R b)) ∧ True ∧ cS x.snd.2.2 = cS (snC R b) ∧ True)))) False) False) False) False) False) False := by
 conv => zeta
 have h0' := zbL h0
 have k0 := nRl hr b
 have k1 := nRl hr (R.nR b)
 have k2 := nRl hr (R.nR (R.nR b))
 have k3 := nRl hr (R.nR (R.nR (R.nR b)))
 have k4 := nRl hr (R.nR (R.nR (R.nR (R.nR b))))
 have eO : (bif R.nOk (R.nR (R.nR (R.nR (R.nR b)))) then bif R.nOk (R.nR (R.nR (R.nR b))) then bif R.nOk (R.nR (R.nR b)) then bif R.nOk (R.nR b) then bif R.nOk b then false else true else true else true else true else true) = hdO R b := rfl
 have eL : R.nR (R.nR (R.nR (R.nR (R.nR b)))) = hdL R b := rfl
 have eN : R.nV (R.nR (R.nR (R.nR (R.nR b)))) = hdN R b := rfl
 obtain ⟨n1, n2⟩ := nVr hr (R.nR (R.nR (R.nR (R.nR b))))
 rw [eN] at n1 n2
 rw [eL] at k4
 rw [eO, eL, eN]
 have hE : sdF R (hdN R b).toNat (hdL R b) (hdO R b) [] = snE R b := rfl
 rw [hE]
 refine ziT h0 (ziT h0 (ziT (by rw [Nat.ble_eq]; omega) (ziT (by rw [Nat.ble_eq]; omega) (ziT (by rw [Nat.ble_eq]; omega) (ziT (by rw [Nat.ble_eq]; omega) ⟨⟨(hdN R b, hdL R b, hdO R b, []), ⟨hE, ?_, ?_⟩, ⟨rfl, rfl, trivial⟩, rfl, rfl, (by repeat' (first | exact True.intro | exact rfl | refine ⟨?_, ?_⟩))⟩, ?_⟩)))))
 ·simp only [Bz, Sx.af.n]; exact ⟨n1, n2⟩
 ·show 0 + (hdL R b).length ≤ _
  simp only [zUn]; omega
 rintro ⟨k, l, no, L⟩ ⟨c1, c2, c3⟩
 replace c1 : sdF R k.toNat l no L = snE R b := c1
 replace c2 : (iLe (-9223372036854775808) k && iLe k 9223372036854775807) = true := c2
 simp only [Bz, Sx.af.n] at c2
 replace c3 : L.length + l.length ≤ b.length + (bif no then 1 else 0) := c3
 dsimp only
 have j0 := nRl hr l
 have j1 := nRl hr (R.nR l)
 have j2 := nRl hr (R.nR (R.nR l))
 have j3 := nRl hr (R.nR (R.nR (R.nR l)))
 have fO : (bif R.nOk (R.nR (R.nR (R.nR l))) then bif R.nOk (R.nR (R.nR l)) then bif R.nOk (R.nR l) then bif R.nOk l then no else true else true else true else true) = cdO R l no := rfl
 have fL : R.nR (R.nR (R.nR (R.nR l))) = cdL R l := rfl
 have bad : no = true → xn R b = false := fun h => by
  subst h
  have e : snE R b = (l, true, L) := by rw [← c1]; cases k.toNat <;> rfl
  unfold xn
  rw [e]; rfl
 have ends : no = false → k ≤ 0 → snE R b = (l, false, L) := fun h h' => by subst h; rw [← c1, show k.toNat = 0 by omega]; rfl
 have errs : xn R b = false → (((Value.int i64 0 = Value.int i64 (aia R b) ∧ Value.int i64 0 = Value.int i64 (ah7 R b) ∧ Value.int i64 0 = Value.int i64 (ah9 R b) ∧ Value.int i64 0 = Value.int i64 (ah2 R b)) ∧ Value.bool false = Value.bool (xn R b)) ∧ True ∧ af.structs [i64, i64, i64, u64, i64] [] = af.structs [i64, i64, i64, u64, i64] (snC R b) ∧ True) := fun h => by
  unfold aia ah7 ah9 ah2 snC
  rw [h]; exact (by repeat' (first | exact True.intro | exact rfl | refine ⟨?_, ?_⟩))
 have j4 : (cdL R l).length ≤ l.length := amj hr l
 rw [fO, fL]
 refine ae (fun d => ?_) (fun d => ?_)
 ·simp only [Bz, Sx.af.n, zUn] at d
  refine ae (fun e => ?_) (fun e => ?_)
  ·have e : no = false := by simpa using e
   subst e
   have c3 : L.length + l.length ≤ b.length := c3
   have ek : k.toNat = (k - 1).toNat + 1 := by omega
   have u1 := aoj (cdL R l) (cdO R l false)
   have hs := akr hr l
   have w1 : i64.wrap (di k 1) = k - 1 := by simp only [zUn]; rw [IntKind.wrap_i64]; omega
   rw [w1]
   refine ziT (by rw [Nat.ble_eq]; omega) (ziT (by rw [Nat.ble_eq]; omega) (ziT (by rw [Nat.ble_eq]; omega) (ziT (by rw [Nat.ble_eq]; omega) (ziT (by rw [Nat.ble_eq]; omega) (ziT (by simp only [zUn, Bz, Sx.af.n]; omega) ⟨(k - 1, aec (cdL R l) (cdO R l false), ae9 (cdL R l) (cdO R l false), L ++ [cdX R l false]), ⟨?_, ?_, ?_⟩, ?_, ⟨rfl, rfl, trivial⟩, rfl, rfl, (by repeat' (first | exact True.intro | exact rfl | refine ⟨?_, ?_⟩))⟩)))))
   ·show sdF R (k - 1).toNat _ _ _ = snE R b
    rw [← c1, ek]; rfl
   ·simp only [Bz, Sx.af.n, zUn]; omega
   ·show (L ++ [cdX R l false]).length + (aec (cdL R l) (cdO R l false)).length ≤ b.length + (bif ae9 (cdL R l) (cdO R l false) then 1 else 0)
    rw [zlA, List.length_singleton]
    omega
   ·show ((k - 1).toNat).succ ≤ k.toNat
    omega
  ·have e : no = true := by simpa using e
   subst e
   exact ziT rfl (errs (bad rfl))
 ·simp only [Bz, Sx.af.n, zUn] at d
  refine ae (fun e => errs (bad (by simpa using e))) (fun e => ?_)
  have e : no = false := by simpa using e
  have hk := ends e (by omega)
  refine ae (fun f => errs ?_) (fun f => ?_)
  ·simp only [Bz, Sx.af.n, zUn] at f
   unfold xn
   rw [hk]
   show Nat.beq l.length 0 = false
   rw [Bool.eq_false_iff, Ne, Nat.beq_eq]; omega
  ·simp only [Bz, Sx.af.n, zUn] at f
   have h : xn R b = true := by
    unfold xn
    rw [hk]
    show Nat.beq l.length 0 = true
    rw [Nat.beq_eq]; omega
   unfold aia ah7 ah9 ah2 snC
   rw [h, hk]; exact (by repeat' (first | exact True.intro | exact rfl | refine ⟨?_, ?_⟩))
theorem asl (I : Sx.Interp) (O : OO) (hO : O = oo) (R : OB) (hR : R = bO) : ag I Tryz.prog 14 (au [.ro .u8] true (agu O R)) := by
 refine zn (auv I O hO R hR) (by kernel_rfl) (fun ds => match ds with | [.ints b] => [⟨Int × List Int × Bool × List (List Int), [2, 3, 4, 5], [(100004, 5, .ints .u8 []), (400005, 41, .structs [.i64, .i64, .i64, .u64, .i64] [])], fun B x => [(6, .v (.int .i64 x.1))], fun B x => [(256, .blk 108 [.row B, .v (.bool x.2.2.1)]), (B, .ro (.ints .u8 x.2.1)), (1024, .blk 39 [.v (.int .i64 (R.nV b)), .v (.int .i64 (R.nV (R.nR b))), .v (.int .i64 (R.nV (R.nR (R.nR b)))), .row (B + 1), .v (.int .i64 (R.nV (R.nR (R.nR (R.nR b)))))]), (B + 1, .own 41 (.structs [.i64, .i64, .i64, .u64, .i64] x.2.2.2))], fun x => sdF R x.1.toNat x.2.1 x.2.2.1 x.2.2.2 = snE R b ∧ (iLe (-9223372036854775808) x.1 && iLe x.1 9223372036854775807) = true ∧ x.2.2.2.length + x.2.1.length ≤ b.length + (bif x.2.2.1 then 1 else 0), fun x => x.1.toNat, 0⟩] | _ => []) (fun ds => match ds with | [.ints b] => [(400002, 41, .structs [.i64, .i64, .i64, .u64, .i64] [])] | _ => []) Tryz.func14 (by kernel_rfl) (by kernel_rfl) rfl Tryz.ntmps14 (by decide) ?_ ?_
 ·intro ds p bs F h
  unfold agu at h
  split at h
  ·rename_i b
   simp only [zsI, zpI] at h
   obtain ⟨_, _, rfl⟩ := h
   kernel_rfl
  ·cases h
 ·intro ds bs F hl h
  unfold agu at h
  split at h
  ·rename_i b
   simp only [zsI, zpI, zaT] at h
   obtain ⟨h0, _, rfl⟩ := h
   exact Eq.mpr (by kernel_rfl) (a4d O R b (dn O hO) hR (by first | exact h0 | (simp only [zaT]; exact h0)))
  ·cases h
def bo4 (O : OO) (R : OB) (f : FuncId) : Option Sx.Spec := match f with
 | 28 => some (au [.agg [.v, .v, .v, .roS [.i64, .i64, .i64, .u64, .i64], .v]] true (aee O R))
 | 14 => some (au [.ro .u8] true (agu O R))
 | f => blf O R f
theorem bhy (I : Sx.Interp) (O : OO) (hO : O = oo) (R : OB) (hR : R = bO) : ∀ f s, bo4 O R f = some s → ag I Tryz.prog f s := by
 intro f s h
 unfold bo4 at h
 split at h
 · cases h; exact aor I O hO R hR
 · cases h; exact asl I O hO R hR
 ·exact auv I O hO R hR _ s h
end Go.Proofs.YtgekiddgdjeaiaaGreat
