/- A channel's state as bytes: sheet's Bytes and Read, by the symbolic machine (printed by genSb.py; VCs by VcTool). -/
import Derived.Test.YtaohpdhhbnempaaRd2
namespace Go.Proofs.Ytaohpdhhbnempaa
open Go.RowKit Go.Lib Ckp Cfd Cpd Sx
set_option linter.unusedVariables false
set_option linter.unusedSimpArgs false
set_option maxRecDepth 1000000
def outQ (lo hi n : Int) : Bool := bif iLt n lo then true else iLt hi n
def idxQ (p : Int → Bool) (l : List Int) : Int := match l.findIdx? p with
 | some i => (i : Int)
 | none => -1
def allQ (lo hi : Int) (l : List Int) : Bool := l.all fun n => !(outQ lo hi n)
/-- Numbers' rows, one behind the other. -/
def rowsF (R : OB) (l : List Int) : List Int := l.flatMap R.row
def cdRow (R : OB) (x : List Int) : List Int := rowsF R [x.getD 0 0, x.getD 1 0, x.getD 2 0, x.getD 4 0] ++ u64B (x.getD 3 0)
def cdsF (R : OB) (l : List (List Int)) : List Int := l.flatMap (cdRow R)
def cdOk (x : List Int) : Bool := allQ 0 9223372036854775807 [x.getD 0 0, x.getD 1 0, x.getD 2 0, x.getD 4 0]
def cdsOk (l : List (List Int)) : Bool := l.all cdOk
/-- A state's bytes. -/
def stB (R : OB) (no h0 h1 rt : Int) (l : List (List Int)) : List Int :=
 bif allQ 0 9223372036854775807 [no, h0, h1, rt, (l.length : Int)] then (bif cdsOk l then rowsF R [no, h0, h1, rt, (l.length : Int)] ++ cdsF R l else []) else []
/-- What is left behind four numbers; has the reader failed?; a condition that is read. -/
def cdL (R : OB) (l : List Int) : List Int := R.nR (R.nR (R.nR (R.nR l)))
def nxO (R : OB) (l : List Int) (no : Bool) : Bool := bif R.nOk l then no else true
def cdO (R : OB) (l : List Int) (no : Bool) : Bool := nxO R (R.nR (R.nR (R.nR l))) (nxO R (R.nR (R.nR l)) (nxO R (R.nR l) (nxO R l no)))
def cdX (R : OB) (l : List Int) (no : Bool) : List Int := [R.nV l, R.nV (R.nR l), R.nV (R.nR (R.nR l)), u64V R (cdL R l) (cdO R l no), R.nV (R.nR (R.nR (R.nR l)))]
def sdF (R : OB) : Nat → List Int → Bool → List (List Int) → List Int × Bool × List (List Int)
 | 0, l, no, L => (l, no, L)
 | k + 1, l, no, L => bif no then (l, no, L) else sdF R k (u64R (cdL R l) (cdO R l no)) (u64N (cdL R l) (cdO R l no)) (L ++ [cdX R l no])
def hdL (R : OB) (b : List Int) : List Int := R.nR (cdL R b)
def hdO (R : OB) (b : List Int) : Bool := nxO R (cdL R b) (cdO R b false)
def hdN (R : OB) (b : List Int) : Int := R.nV (cdL R b)
def snE (R : OB) (b : List Int) : List Int × Bool × List (List Int) := sdF R (hdN R b).toNat (hdL R b) (hdO R b) []
def pqB (l : List (List Int)) : Bool := l.all fun x => inU (x.getD 3 0) 18446744073709551616 && Nat.beq x.length 5
def stOk (R : OB) (b : List Int) : Bool := bif (snE R b).2.1 then false else Nat.beq (snE R b).1.length 0
def snC (R : OB) (b : List Int) : List (List Int) := bif stOk R b then (snE R b).2.2 else []
def stNo (R : OB) (b : List Int) : Int := bif stOk R b then R.nV b else 0
def stH0 (R : OB) (b : List Int) : Int := bif stOk R b then R.nV (R.nR b) else 0
def stH1 (R : OB) (b : List Int) : Int := bif stOk R b then R.nV (R.nR (R.nR b)) else 0
def stRt (R : OB) (b : List Int) : Int := bif stOk R b then R.nV (R.nR (R.nR (R.nR b))) else 0

theorem idxQ_here {p : Int → Bool} {l : List Int} {x : Nat} (hx : x < l.length) (hb : ∀ k, k < x → p (l.getD k 0) = false) (h : p (l.getD x 0) = true) : idxQ p l = (x : Int) := by
 have e : l.findIdx? p = some x := by
  rw [List.findIdx?_eq_some_iff_getElem]
  refine ⟨hx, ?_, fun j hj => ?_⟩
  ·rw [List.getD_eq_getElem?_getD, List.getElem?_eq_getElem hx] at h; exact h
  ·have := hb j hj
   rw [List.getD_eq_getElem?_getD, List.getElem?_eq_getElem (by omega)] at this
   simpa using this
 unfold idxQ
 rw [e]
theorem idxQ_none {p : Int → Bool} {l : List Int} (hb : ∀ k, k < l.length → p (l.getD k 0) = false) : idxQ p l = -1 := by
 have e : l.findIdx? p = none := by
  rw [List.findIdx?_eq_none_iff]
  intro x hx
  obtain ⟨k, hk, rfl⟩ := List.getElem_of_mem hx
  have := hb k hk
  rw [List.getD_eq_getElem?_getD, List.getElem?_eq_getElem hk] at this
  exact this
 unfold idxQ
 rw [e]
theorem idxQ_all (lo hi : Int) (l : List Int) : (!(iLe 0 (idxQ (outQ lo hi) l))) = allQ lo hi l := by
 unfold idxQ
 cases h : l.findIdx? (outQ lo hi) with
 | none =>
  rw [List.findIdx?_eq_none_iff] at h
  symm
  show _ = true
  unfold allQ
  rw [List.all_eq_true]
  intro x hx
  rw [h x hx]; rfl
 | some i =>
  rw [List.findIdx?_eq_some_iff_getElem] at h
  obtain ⟨hi', h1, _⟩ := h
  have e : iLe 0 (i : Int) = true := by simp only [Sx.Bz, Sx.Cont.n]; omega
  simp only [e, Bool.not_true]
  symm
  rw [Bool.eq_false_iff]
  intro hc
  have := List.all_eq_true.1 hc _ (List.getElem_mem hi')
  rw [h1] at this
  cases this
theorem wrapQ_succ {x : Nat} (h : x ≤ 1000000) : IntKind.i64.wrap ((x : Int) + 1) = ((x + 1 : Nat) : Int) := by rw [IntKind.wrap_i64]; omega
theorem allQ_mem {lo hi : Int} {l : List Int} : allQ lo hi l = true ↔ ∀ x ∈ l, lo ≤ x ∧ x ≤ hi := by
 unfold allQ outQ
 rw [List.all_eq_true]
 refine ⟨fun h x hx => ?_, fun h x hx => ?_⟩
 ·have := h x hx
  cases a : iLt x lo
  ·rw [a] at this
   have c : iLt hi x = false := by simpa using this
   simp only [Sx.Bz, Sx.Cont.n] at a c
   omega
  ·rw [a] at this; cases this
 ·obtain ⟨h1, h2⟩ := h x hx
  rw [show iLt x lo = false by simp only [Sx.Bz, Sx.Cont.n]; omega, show iLt hi x = false by simp only [Sx.Bz, Sx.Cont.n]; omega]; rfl
theorem allQ_at {l : List Int} (h : allQ 0 9223372036854775807 l = true) {x : Nat} (hx : x < l.length) : 0 ≤ l.getD x 0 ∧ l.getD x 0 ≤ 9223372036854775807 := by
 rw [List.getD_eq_getElem?_getD, List.getElem?_eq_getElem hx]
 exact allQ_mem.1 h _ (List.getElem_mem hx)
theorem rowsF_len {R : OB} (hr : R = bO) : ∀ l : List Int, (rowsF R l).length ≤ 10 * l.length
 | [] => Nat.le_refl _
 | x :: l => by
  have := rowsF_len hr l
  have h := row_len hr x
  show (R.row x ++ rowsF R l).length ≤ _
  rw [List.length_append, List.length_cons]; omega
theorem take_snoc' {α : Type} {l : List α} {x : Nat} (d : α) (h : x < l.length) : l.take (x + 1) = l.take x ++ [l.getD x d] := by
 rw [List.take_add_one, List.getD_eq_getElem?_getD, List.getElem?_eq_getElem h]; rfl
theorem rowsF_snoc (R : OB) {l : List Int} {x : Nat} (h : x < l.length) : rowsF R (l.take (x + 1)) = rowsF R (l.take x) ++ R.row (l.getD x 0) := by
 rw [take_snoc' 0 h]; unfold rowsF; rw [List.flatMap_append]; simp
theorem pqB_at {l : List (List Int)} (h : pqB l = true) {x : Nat} (hx : x < l.length) : inU ((l.getD x []).getD 3 0) 18446744073709551616 = true := by
 have e : l.getD x [] = l[x] := by rw [List.getD_eq_getElem?_getD, List.getElem?_eq_getElem hx]; rfl
 have := List.all_eq_true.1 h _ (List.getElem_mem hx)
 rw [Bool.and_eq_true] at this
 rw [e]
 exact this.1
theorem cdRow_len {R : OB} (hr : R = bO) (x : List Int) : (cdRow R x).length ≤ 48 := by
 have := rowsF_len hr [x.getD 0 0, x.getD 1 0, x.getD 2 0, x.getD 4 0]
 unfold cdRow
 rw [List.length_append]
 simp only [List.length_cons, List.length_nil, u64B] at *
 omega
theorem cdsF_len {R : OB} (hr : R = bO) : ∀ l : List (List Int), (cdsF R l).length ≤ 48 * l.length
 | [] => Nat.le_refl _
 | x :: l => by
  have := cdsF_len hr l
  have h := cdRow_len hr x
  show (cdRow R x ++ cdsF R l).length ≤ _
  rw [List.length_append, List.length_cons]; omega
theorem cdsF_snoc (R : OB) {l : List (List Int)} {x : Nat} (h : x < l.length) : cdsF R (l.take (x + 1)) = cdsF R (l.take x) ++ cdRow R (l.getD x []) := by
 rw [take_snoc' [] h]; unfold cdsF; rw [List.flatMap_append]; simp
theorem cdsOk_snoc {l : List (List Int)} {x : Nat} (h : x < l.length) : cdsOk (l.take (x + 1)) = (cdsOk (l.take x) && cdOk (l.getD x [])) := by
 rw [take_snoc' [] h]; unfold cdsOk; rw [List.all_append]; simp
theorem cdsOk_bad {l : List (List Int)} {x : Nat} (h : x < l.length) (hb : cdOk (l.getD x []) = false) : cdsOk l = false := by
 rw [List.getD_eq_getElem?_getD, List.getElem?_eq_getElem h] at hb
 unfold cdsOk
 rw [List.all_eq_false]
 exact ⟨_, List.getElem_mem h, by rw [show cdOk l[x] = false from hb]; decide⟩
theorem nRl {R : OB} (hr : R = bO) (l : List Int) : (R.nR l).length ≤ l.length := by
 subst hr
 show (bif (numG l 10 0 0).1 then l.drop (numG l 10 0 0).2.2 else []).length ≤ _
 cases (numG l 10 0 0).1
 ·exact Nat.zero_le _
 ·rw [cond_true, List.length_drop]; omega
theorem numG_pos {l : List Int} : ∀ (g i : Nat) (a : Int), (numG l g i a).1 = true → i < l.length ∧ i < (numG l g i a).2.2
 | 0, i, a, h => by simp [numG] at h
 | g + 1, i, a, h => by
  unfold numG at h ⊢
  cases w : wrF l i
  ·have hw := (wr_f.1 w).1
   rw [w, cond_false] at h
   rw [cond_false]
   cases t : iLt (dgt l i) 128
   ·rw [t, cond_false] at h
    rw [cond_false]
    have := numG_pos g (i + 1) _ h
    omega
   ·exact ⟨hw, by rw [cond_true]; show i < i + 1; omega⟩
  ·rw [w, cond_true] at h; cases h
/-- A number that is read takes a byte at least. -/
theorem nR_lt {R : OB} (hr : R = bO) {l : List Int} (h : R.nOk l = true) : (R.nR l).length < l.length := by
 subst hr
 have h : (numG l 10 0 0).1 = true := h
 have := numG_pos 10 0 0 h
 show (bif (numG l 10 0 0).1 then l.drop (numG l 10 0 0).2.2 else []).length < _
 rw [h, cond_true, List.length_drop]; omega
theorem u64R_len (l : List Int) (no : Bool) : (u64R l no).length ≤ l.length := by
 unfold u64R
 cases u64K l no
 ·rw [cond_false, List.length_drop]; omega
 ·exact Nat.zero_le _
theorem cdL_len {R : OB} (hr : R = bO) (l : List Int) : (cdL R l).length ≤ l.length := by
 have j0 := nRl hr l
 have j1 := nRl hr (R.nR l)
 have j2 := nRl hr (R.nR (R.nR l))
 have j3 := nRl hr (R.nR (R.nR (R.nR l)))
 unfold cdL
 omega
theorem cd_shrink {R : OB} (hr : R = bO) (l : List Int) : 1 + (u64R (cdL R l) (cdO R l false)).length ≤ l.length + (bif u64N (cdL R l) (cdO R l false) then 1 else 0) := by
 have h1 := u64R_len (cdL R l) (cdO R l false)
 have h2 := cdL_len hr l
 cases c : u64N (cdL R l) (cdO R l false)
 ·have a : cdO R l false = false := by
   unfold u64N at c
   cases d : u64K (cdL R l) (cdO R l false)
   ·rw [d] at c; exact c
   ·rw [d] at c; cases c
  have ok : R.nOk l = true := by
   unfold cdO nxO at a
   cases o : R.nOk l
   ·rw [o] at a
    revert a
    cases R.nOk (R.nR (R.nR (R.nR l))) <;> cases R.nOk (R.nR (R.nR l)) <;> cases R.nOk (R.nR l) <;> simp
   ·rfl
  have j := nR_lt hr ok
  have j1 := nRl hr (R.nR l)
  have j2 := nRl hr (R.nR (R.nR l))
  have j3 := nRl hr (R.nR (R.nR (R.nR l)))
  have e : cdL R l = R.nR (R.nR (R.nR (R.nR l))) := rfl
  rw [← e] at j3
  show 1 + _ ≤ l.length + 0
  omega
 ·show 1 + _ ≤ l.length + 1
  omega
/-- A number that is read is an int. -/
theorem orD_nn (n d : Int) (i : Nat) : -9223372036854775808 ≤ orD n d i ∧ orD n d i ≤ 9223372036854775807 := by
 unfold orD; rw [IntKind.wrap_i64]; omega
theorem numG_r {l : List Int} : ∀ (g i : Nat) (a : Int), -9223372036854775808 ≤ (numG l g i a).2.1 ∧ (numG l g i a).2.1 ≤ 9223372036854775807
 | 0, i, a => by simp [numG]
 | g + 1, i, a => by
  unfold numG
  cases wrF l i
  ·cases iLt (dgt l i) 128
   ·exact numG_r g (i + 1) _
   ·exact orD_nn _ _ _
  ·simp
theorem nVr {R : OB} (hr : R = bO) (l : List Int) : -9223372036854775808 ≤ R.nV l ∧ R.nV l ≤ 9223372036854775807 := by
 subst hr; exact numG_r 10 0 0

def g_wit1 (O : OO) (R : OB) (ds : List Dt) : Option (Bool × List Bool × (List Bool → Post)) := match ds with
 | [.v (.int .i64 n), .node [.v (.int .i64 lo)], .node [.v (.int .i64 hi)]] => some (true, [], fun _ => ⟨[.v (.bool (outQ lo hi n))], []⟩)
 | _ => none
set_option maxHeartbeats 4000000 in
theorem vc_wit1 (O : OO) (R : OB) (n lo hi : Int) (F : FO O) (hr : R = bO) :
 If (iLt n lo) (Value.bool true = Value.bool (outQ lo hi n) ∧ True ∧ True) (Value.bool (iLt hi n) = Value.bool (outQ lo hi n) ∧ True ∧ True) := by
 unfold outQ
 exact Sx.if_both (fun h => ⟨by rw [h]; rfl, trivial, trivial⟩) (fun h => ⟨by rw [h]; rfl, trivial, trivial⟩)
theorem wpc_wit1 (O : OO) (R : OB) (n lo hi : Int) (F : FO O) (hr : R = bO) : wpcI Try.prog (spQ6 O R) Try.f84.ntmps [] (bodyOf Try.f84) 0 64 (envP (mks [.v, .robj 3 [.v], .robj 3 [.v]] [.v (.int .i64 n), .node [.v (.int .i64 lo)], .node [.v (.int .i64 hi)]] 0).1 0) (mks [.v, .robj 3 [.v], .robj 3 [.v]] [.v (.int .i64 n), .node [.v (.int .i64 lo)], .node [.v (.int .i64 hi)]] 0).2 (retP Try.prog Try.f84.results.toList 2 (⟨[.v (.bool (outQ lo hi n))], []⟩ : Post)) :=
 Eq.mpr (by kernel_rfl) (vc_wit1 O R n lo hi F hr)
theorem ok_wit1 (I : Sx.Interp) (O : OO) (hO : O = oo) (R : OB) (hR : R = bO) : Sx.SpecOK I Try.prog 84 (pspec [.v, .robj 3 [.v], .robj 3 [.v]] false (g_wit1 O R)) := by
 refine spec_pI (spQ6_ok I O hO R hR) (by kernel_rfl) (fun ds => match ds with | [.v (.int .i64 n), .node [.v (.int .i64 lo)], .node [.v (.int .i64 hi)]] => [] | _ => []) Try.func84 (by kernel_rfl) (by kernel_rfl) rfl Try.ntmps84 (by decide) ?_ ?_
 ·intro ds p bs F h
  unfold g_wit1 at h
  split at h
  ·rename_i n lo hi
   simp only [Option.some.injEq, Prod.mk.injEq] at h
   obtain ⟨_, _, rfl⟩ := h
   kernel_rfl
  ·cases h
 ·intro ds bs F hl h
  unfold g_wit1 at h
  split at h
  ·rename_i n lo hi
   simp only [Option.some.injEq, Prod.mk.injEq, Bool.and_eq_true] at h
   obtain ⟨_, _, rfl⟩ := h
   exact wpc_wit1 O R n lo hi (fo_oo O hO) hR 
  ·cases h
def spB0 (O : OO) (R : OB) (f : FuncId) : Option Sx.Spec := match f with
 | 84 => some (pspec [.v, .robj 3 [.v], .robj 3 [.v]] false (g_wit1 O R))
 | f => spQ6 O R f
theorem spB0_ok (I : Sx.Interp) (O : OO) (hO : O = oo) (R : OB) (hR : R = bO) : ∀ f s, spB0 O R f = some s → Sx.SpecOK I Try.prog f s := by
 intro f s h
 unfold spB0 at h
 split at h
 · cases h; exact ok_wit1 I O hO R hR
 ·exact spQ6_ok I O hO R hR _ s h
def g_widx (O : OO) (R : OB) (ds : List Dt) : Option (Bool × List Bool × (List Bool → Post)) := match ds with
 | [.ints l, .node [.node [.v (.int .i64 lo)], .node [.v (.int .i64 hi)]]] => some ((Nat.ble l.length 1000), [], fun _ => ⟨[.v (.int .i64 (idxQ (outQ lo hi) l))], []⟩)
 | _ => none
set_option maxHeartbeats 4000000 in
theorem vc_widx (O : OO) (R : OB) (l : List Int) (lo hi : Int) (F : FO O) (hr : R = bO) (h1 : (Nat.ble l.length 1000) = true) :
 (∃ (x : Nat), (x ≤ l.length ∧ ∀ (k : Nat), k.succ ≤ x → outQ lo hi (l.getD k 0) = false) ∧ (Value.int .i64 0 = Value.int .i64 (iOf x) ∧ SV.fn (Fn.func 84)
  [SV.ptr 1 0, SV.ptr 2 0] = SV.fn (Fn.func 84) [SV.ptr 1 0, SV.ptr 2 0] ∧ Value.int .i64 (iOf l.length) = Value.int .i64 (iOf l.length) ∧ True) ∧ EqI l l ∧
  Value.int .i64 lo = Value.int .i64 lo ∧ Value.int .i64 hi = Value.int .i64 hi ∧ True) ∧ ∀ (x : Nat), (x ≤ l.length ∧ ∀ (k : Nat), k.succ ≤ x → outQ lo hi (l.getD k 0) = false) → If
  (iLt (iOf x) (iOf (Cont.ints .i64 l).n)) (If (iLe 0 (iOf x) && (iOf x).toNat.blt l.length) (If (true && Nat.beq 1 1 && (iOf x).toNat.blt l.length) (If (outQ lo hi (l.getD (iOf
  x).toNat 0)) (Value.int .i64 (iOf x) = Value.int .i64 (idxQ (outQ lo hi) l) ∧ True ∧ True) (∃ (x' : Nat), (x' ≤ l.length ∧ ∀ (k : Nat), k.succ ≤ x' → outQ lo hi (l.getD k 0) =
  false) ∧ (nSub l.length x').succ ≤ nSub l.length x ∧ (Value.int .i64 (IntKind.i64.wrap (iAdd (iOf x) 1)) = Value.int .i64 (iOf x') ∧ SV.fn (Fn.func 84)
  [SV.ptr 1 0, SV.ptr 2 0] = SV.fn (Fn.func 84) [SV.ptr 1 0, SV.ptr 2 0] ∧ Value.int .i64 (iOf l.length) = Value.int .i64 (iOf l.length) ∧ True) ∧ EqI l l ∧
  Value.int .i64 lo = Value.int .i64 lo ∧ Value.int .i64 hi = Value.int .i64 hi ∧ True)) False) False) (Value.int .i64 (iNeg 1) = Value.int .i64 (idxQ (outQ lo hi) l) ∧ True ∧ True) := by
 simp only [Sx.app, Sx.nAdd, Sx.nSub, Sx.nMul, Sx.nPow, Sx.nDiv, Sx.nMod, Sx.iAdd, Sx.iSub, Sx.iMul, Sx.iNeg, Sx.iPow, Sx.iOf]
 have hm := Nat.le_of_ble_eq_true h1
 refine ⟨⟨0, ⟨Nat.zero_le _, fun k hk => absurd hk (Nat.not_succ_le_zero _)⟩, (by repeat' (first | exact True.intro | exact rfl | refine ⟨?_, ?_⟩))⟩, fun x hx => Sx.if_both (fun h => ?_) (fun h => ?_)⟩
 ·simp only [Sx.Bz, Sx.Cont.n] at h
  have hlt : x < l.length := by omega
  have hbl : x.blt l.length = true := by rw [Nat.blt_eq]; exact hlt
  refine Sx.if_true (by simp only [Sx.Bz, Sx.Cont.n, hbl, and_true, Int.toNat_natCast]; omega) (Sx.if_true (by simp only [hbl, Int.toNat_natCast]; rfl) (Sx.if_both (fun hc => ?_) (fun hc => ?_)))
  ·simp only [Int.toNat_natCast] at hc
   exact ⟨by rw [idxQ_here hlt (fun k hk => hx.2 k hk) hc], trivial, trivial⟩
  ·simp only [Int.toNat_natCast] at hc
   exact ⟨x + 1, ⟨hlt, fun k hk => by
    rcases Nat.lt_or_ge k x with h' | h'
    ·exact hx.2 k h'
    ·have : k = x := by omega
     rw [this]; exact hc⟩, by omega, ⟨by rw [wrapQ_succ (by omega)], (by repeat' (first | exact True.intro | exact rfl | refine ⟨?_, ?_⟩))⟩, (by repeat' (first | exact True.intro | exact rfl | refine ⟨?_, ?_⟩))⟩
 ·simp only [Sx.Bz, Sx.Cont.n] at h
  have hx2 : x = l.length := by omega
  subst hx2
  exact ⟨by rw [idxQ_none (fun k hk => hx.2 k hk)], trivial, trivial⟩
theorem wpc_widx (O : OO) (R : OB) (l : List Int) (lo hi : Int) (F : FO O) (hr : R = bO) (h1 : (Nat.ble l.length 1000) = true) : wpcI Try.prog (spB0 O R) Try.f100.ntmps [⟨Nat, [0, 1, 7], [], fun B j => [(8, .v (.int .i64 (j : Int)))], fun B j => [], fun j => j ≤ l.length ∧ ∀ k, k < j → outQ lo hi (l.getD k 0) = false, fun j => l.length - j, 0⟩] (bodyOf Try.f100) 0 64 (envP (mks [.ro .i64, .fn 84 [.robj 3 [.v], .robj 3 [.v]]] [.ints l, .node [.node [.v (.int .i64 lo)], .node [.v (.int .i64 hi)]]] 0).1 0) (mks [.ro .i64, .fn 84 [.robj 3 [.v], .robj 3 [.v]]] [.ints l, .node [.node [.v (.int .i64 lo)], .node [.v (.int .i64 hi)]]] 0).2 (retP Try.prog Try.f100.results.toList 3 (⟨[.v (.int .i64 (idxQ (outQ lo hi) l))], []⟩ : Post)) :=
 Eq.mpr (by kernel_rfl) (vc_widx O R l lo hi F hr h1)
theorem ok_widx (I : Sx.Interp) (O : OO) (hO : O = oo) (R : OB) (hR : R = bO) : Sx.SpecOK I Try.prog 100 (pspec [.ro .i64, .fn 84 [.robj 3 [.v], .robj 3 [.v]]] false (g_widx O R)) := by
 refine spec_pI (spB0_ok I O hO R hR) (by kernel_rfl) (fun ds => match ds with | [.ints l, .node [.node [.v (.int .i64 lo)], .node [.v (.int .i64 hi)]]] => [⟨Nat, [0, 1, 7], [], fun B j => [(8, .v (.int .i64 (j : Int)))], fun B j => [], fun j => j ≤ l.length ∧ ∀ k, k < j → outQ lo hi (l.getD k 0) = false, fun j => l.length - j, 0⟩] | _ => []) Try.func100 (by kernel_rfl) (by kernel_rfl) rfl Try.ntmps100 (by decide) ?_ ?_
 ·intro ds p bs F h
  unfold g_widx at h
  split at h
  ·rename_i l lo hi
   simp only [Option.some.injEq, Prod.mk.injEq] at h
   obtain ⟨_, _, rfl⟩ := h
   kernel_rfl
  ·cases h
 ·intro ds bs F hl h
  unfold g_widx at h
  split at h
  ·rename_i l lo hi
   simp only [Option.some.injEq, Prod.mk.injEq, Bool.and_eq_true] at h
   obtain ⟨h1, _, rfl⟩ := h
   exact wpc_widx O R l lo hi (fo_oo O hO) hR (by first | exact h1 | (simp only [Bool.and_eq_true]; exact h1))
  ·cases h
def spB1 (O : OO) (R : OB) (f : FuncId) : Option Sx.Spec := match f with
 | 100 => some (pspec [.ro .i64, .fn 84 [.robj 3 [.v], .robj 3 [.v]]] false (g_widx O R))
 | f => spB0 O R f
theorem spB1_ok (I : Sx.Interp) (O : OO) (hO : O = oo) (R : OB) (hR : R = bO) : ∀ f s, spB1 O R f = some s → Sx.SpecOK I Try.prog f s := by
 intro f s h
 unfold spB1 at h
 split at h
 · cases h; exact ok_widx I O hO R hR
 ·exact spB0_ok I O hO R hR _ s h
def g_whas (O : OO) (R : OB) (ds : List Dt) : Option (Bool × List Bool × (List Bool → Post)) := match ds with
 | [.ints l, .node [.node [.v (.int .i64 lo)], .node [.v (.int .i64 hi)]]] => some ((Nat.ble l.length 1000), [], fun _ => ⟨[.v (.bool (iLe 0 (idxQ (outQ lo hi) l)))], []⟩)
 | _ => none
set_option maxHeartbeats 4000000 in
theorem vc_whas (O : OO) (R : OB) (l : List Int) (lo hi : Int) (F : FO O) (hr : R = bO) (h1 : (Nat.ble l.length 1000) = true) :
 If (l.length.ble 1000) (Value.bool (iLe 0 (idxQ (outQ lo hi) l)) = Value.bool (iLe 0 (idxQ (outQ lo hi) l)) ∧ True ∧ True) False := by
 exact Sx.if_true h1 ⟨rfl, trivial, trivial⟩
theorem wpc_whas (O : OO) (R : OB) (l : List Int) (lo hi : Int) (F : FO O) (hr : R = bO) (h1 : (Nat.ble l.length 1000) = true) : wpcI Try.prog (spB1 O R) Try.f83.ntmps [] (bodyOf Try.f83) 0 64 (envP (mks [.ro .i64, .fn 84 [.robj 3 [.v], .robj 3 [.v]]] [.ints l, .node [.node [.v (.int .i64 lo)], .node [.v (.int .i64 hi)]]] 0).1 0) (mks [.ro .i64, .fn 84 [.robj 3 [.v], .robj 3 [.v]]] [.ints l, .node [.node [.v (.int .i64 lo)], .node [.v (.int .i64 hi)]]] 0).2 (retP Try.prog Try.f83.results.toList 3 (⟨[.v (.bool (iLe 0 (idxQ (outQ lo hi) l)))], []⟩ : Post)) :=
 Eq.mpr (by kernel_rfl) (vc_whas O R l lo hi F hr h1)
theorem ok_whas (I : Sx.Interp) (O : OO) (hO : O = oo) (R : OB) (hR : R = bO) : Sx.SpecOK I Try.prog 83 (pspec [.ro .i64, .fn 84 [.robj 3 [.v], .robj 3 [.v]]] false (g_whas O R)) := by
 refine spec_pI (spB1_ok I O hO R hR) (by kernel_rfl) (fun ds => match ds with | [.ints l, .node [.node [.v (.int .i64 lo)], .node [.v (.int .i64 hi)]]] => [] | _ => []) Try.func83 (by kernel_rfl) (by kernel_rfl) rfl Try.ntmps83 (by decide) ?_ ?_
 ·intro ds p bs F h
  unfold g_whas at h
  split at h
  ·rename_i l lo hi
   simp only [Option.some.injEq, Prod.mk.injEq] at h
   obtain ⟨_, _, rfl⟩ := h
   kernel_rfl
  ·cases h
 ·intro ds bs F hl h
  unfold g_whas at h
  split at h
  ·rename_i l lo hi
   simp only [Option.some.injEq, Prod.mk.injEq, Bool.and_eq_true] at h
   obtain ⟨h1, _, rfl⟩ := h
   exact wpc_whas O R l lo hi (fo_oo O hO) hR (by first | exact h1 | (simp only [Bool.and_eq_true]; exact h1))
  ·cases h
def spB2 (O : OO) (R : OB) (f : FuncId) : Option Sx.Spec := match f with
 | 83 => some (pspec [.ro .i64, .fn 84 [.robj 3 [.v], .robj 3 [.v]]] false (g_whas O R))
 | f => spB1 O R f
theorem spB2_ok (I : Sx.Interp) (O : OO) (hO : O = oo) (R : OB) (hR : R = bO) : ∀ f s, spB2 O R f = some s → Sx.SpecOK I Try.prog f s := by
 intro f s h
 unfold spB2 at h
 split at h
 · cases h; exact ok_whas I O hO R hR
 ·exact spB1_ok I O hO R hR _ s h
def g_wit (O : OO) (R : OB) (ds : List Dt) : Option (Bool × List Bool × (List Bool → Post)) := match ds with
 | [.v (.int .i64 lo), .v (.int .i64 hi), .ints l] => some ((Nat.ble l.length 1000), [], fun _ => ⟨[.v (.bool (allQ lo hi l))], []⟩)
 | _ => none
set_option maxHeartbeats 4000000 in
theorem vc_wit (O : OO) (R : OB) (lo hi : Int) (l : List Int) (F : FO O) (hr : R = bO) (h1 : (Nat.ble l.length 1000) = true) :
 If (l.length.ble 1000) ((Value.bool !iLe 0 (idxQ (outQ lo hi) l)) = Value.bool (allQ lo hi l) ∧ True ∧ True) False := by
 exact Sx.if_true h1 ⟨by rw [idxQ_all], trivial, trivial⟩
theorem wpc_wit (O : OO) (R : OB) (lo hi : Int) (l : List Int) (F : FO O) (hr : R = bO) (h1 : (Nat.ble l.length 1000) = true) : wpcI Try.prog (spB2 O R) Try.f47.ntmps [] (bodyOf Try.f47) 0 64 (envP (mks [.v, .v, .ro .i64] [.v (.int .i64 lo), .v (.int .i64 hi), .ints l] 0).1 0) (mks [.v, .v, .ro .i64] [.v (.int .i64 lo), .v (.int .i64 hi), .ints l] 0).2 (retP Try.prog Try.f47.results.toList 1 (⟨[.v (.bool (allQ lo hi l))], []⟩ : Post)) :=
 Eq.mpr (by kernel_rfl) (vc_wit O R lo hi l F hr h1)
theorem ok_wit (I : Sx.Interp) (O : OO) (hO : O = oo) (R : OB) (hR : R = bO) : Sx.SpecOK I Try.prog 47 (pspec [.v, .v, .ro .i64] false (g_wit O R)) := by
 refine spec_pI (spB2_ok I O hO R hR) (by kernel_rfl) (fun ds => match ds with | [.v (.int .i64 lo), .v (.int .i64 hi), .ints l] => [] | _ => []) Try.func47 (by kernel_rfl) (by kernel_rfl) rfl Try.ntmps47 (by decide) ?_ ?_
 ·intro ds p bs F h
  unfold g_wit at h
  split at h
  ·rename_i lo hi l
   simp only [Option.some.injEq, Prod.mk.injEq] at h
   obtain ⟨_, _, rfl⟩ := h
   kernel_rfl
  ·cases h
 ·intro ds bs F hl h
  unfold g_wit at h
  split at h
  ·rename_i lo hi l
   simp only [Option.some.injEq, Prod.mk.injEq, Bool.and_eq_true] at h
   obtain ⟨h1, _, rfl⟩ := h
   exact wpc_wit O R lo hi l (fo_oo O hO) hR (by first | exact h1 | (simp only [Bool.and_eq_true]; exact h1))
  ·cases h
def spB3 (O : OO) (R : OB) (f : FuncId) : Option Sx.Spec := match f with
 | 47 => some (pspec [.v, .v, .ro .i64] false (g_wit O R))
 | 48 => some (pspec [.ro .u8, .v] false (g_putu O R))
 | 49 => some (pspec [.obj 127 [.ro .u8, .v]] true (g_u64r O R))
 | f => spB2 O R f
theorem spB3_ok (I : Sx.Interp) (O : OO) (hO : O = oo) (R : OB) (hR : R = bO) : ∀ f s, spB3 O R f = some s → Sx.SpecOK I Try.prog f s := by
 intro f s h
 unfold spB3 at h
 split at h
 · cases h; exact ok_wit I O hO R hR
 · cases h; exact ok_putu I O hO R hR
 · cases h; exact ok_u64r I O hO R hR
 ·exact spB2_ok I O hO R hR _ s h
def g_stput (O : OO) (R : OB) (ds : List Dt) : Option (Bool × List Bool × (List Bool → Post)) := match ds with
 | [.ints l, .node [.ints b]] => some ((Nat.ble b.length 990000) && (Nat.ble l.length 100) && (allQ 0 9223372036854775807 l), [], fun _ => ⟨[], [(1, .blk 22 [.row 3]), (3, .ro (.ints .u8 (b ++ rowsF R l)))]⟩)
 | _ => none
set_option maxHeartbeats 4000000 in
theorem vc_stput (O : OO) (R : OB) (l b : List Int) (F : FO O) (hr : R = bO) (h0 : (Nat.ble b.length 990000) = true) (h1 : (Nat.ble l.length 100) = true) (h2 : (allQ 0 9223372036854775807 l) = true) :
 (∃ (x : Nat), x ≤ l.length ∧ (Value.int .i64 0 = Value.int .i64 (iOf x) ∧ Value.int .i64 (iOf l.length) = Value.int .i64 (iOf l.length) ∧ True) ∧ EqI b (app b (rowsF R (List.take x
  l))) ∧ EqI l l ∧ True) ∧ ∀ (x : Nat), x ≤ l.length → If (iLt (iOf x) (iOf (Cont.ints .i64 l).n)) (If (iLe 0 (iOf x) && (iOf x).toNat.blt l.length) (If (true && Nat.beq 1 1 && (iOf
  x).toNat.blt l.length) (If ((app b (rowsF R (List.take x l))).length.ble 1000000 && iLe (l.getD (iOf x).toNat 0) 9223372036854775807) (∃ (x' : Nat), x' ≤ l.length ∧ (nSub l.length
  x').succ ≤ nSub l.length x ∧ (Value.int .i64 (IntKind.i64.wrap (iAdd (iOf x) 1)) = Value.int .i64 (iOf x') ∧ Value.int .i64 (iOf l.length) = Value.int .i64 (iOf l.length) ∧ True) ∧
  EqI (bif iLt (l.getD (iOf x).toNat 0) 0 then app b (rowsF R (List.take x l)) else app (app b (rowsF R (List.take x l))) (R.row (l.getD (iOf x).toNat 0))) (app b (rowsF R (List.take
  x' l))) ∧ EqI l l ∧ True) False) False) False) (True ∧ EqI (app b (rowsF R (List.take x l))) (app b (rowsF R l)) ∧ True) := by
 have h0' := Nat.le_of_ble_eq_true h0
 have h1' := Nat.le_of_ble_eq_true h1
 have ha := fun x hx => allQ_at h2 (x := x) hx
 refine ⟨⟨0, Nat.zero_le _, ⟨rfl, rfl, trivial⟩, by simp [EqI, rowsF, Sx.app, Sx.nAdd, Sx.nSub, Sx.nMul, Sx.nPow, Sx.nDiv, Sx.nMod, Sx.iAdd, Sx.iSub, Sx.iMul, Sx.iNeg, Sx.iPow, Sx.iOf], rfl, trivial⟩, fun x hx => ?_⟩
 have hn : (iOf x).toNat = x := by simp only [Sx.app, Sx.nAdd, Sx.nSub, Sx.nMul, Sx.nPow, Sx.nDiv, Sx.nMod, Sx.iAdd, Sx.iSub, Sx.iMul, Sx.iNeg, Sx.iPow, Sx.iOf, Int.toNat_natCast]
 rw [hn]
 refine Sx.if_both (fun d => ?_) (fun d => ?_)
 ·simp only [Sx.Bz, Sx.Cont.n, Sx.app, Sx.nAdd, Sx.nSub, Sx.nMul, Sx.nPow, Sx.nDiv, Sx.nMod, Sx.iAdd, Sx.iSub, Sx.iMul, Sx.iNeg, Sx.iPow, Sx.iOf] at d
  have hx' : x < l.length := by omega
  have hb : x.blt l.length = true := by rw [Nat.blt_eq]; exact hx'
  obtain ⟨a1, a2⟩ := ha x hx'
  have w1 : IntKind.i64.wrap (iAdd (iOf x) 1) = iOf (x + 1) := by simp only [Sx.app, Sx.nAdd, Sx.nSub, Sx.nMul, Sx.nPow, Sx.nDiv, Sx.nMod, Sx.iAdd, Sx.iSub, Sx.iMul, Sx.iNeg, Sx.iPow, Sx.iOf]; rw [IntKind.wrap_i64]; omega
  have hl := rowsF_len hr (List.take x l)
  rw [List.length_take] at hl
  rw [hb, w1]
  refine Sx.if_true (by simp only [Sx.Bz, Sx.Cont.n, Sx.app, Sx.nAdd, Sx.nSub, Sx.nMul, Sx.nPow, Sx.nDiv, Sx.nMod, Sx.iAdd, Sx.iSub, Sx.iMul, Sx.iNeg, Sx.iPow, Sx.iOf]; exact ⟨by omega, trivial⟩) (Sx.if_true rfl (Sx.if_true (by simp only [Sx.app, Sx.nAdd, Sx.nSub, Sx.nMul, Sx.nPow, Sx.nDiv, Sx.nMod, Sx.iAdd, Sx.iSub, Sx.iMul, Sx.iNeg, Sx.iPow, Sx.iOf, Sx.Bz, Sx.Cont.n, List.length_append]; omega) ⟨x + 1, hx', by simp only [Sx.app, Sx.nAdd, Sx.nSub, Sx.nMul, Sx.nPow, Sx.nDiv, Sx.nMod, Sx.iAdd, Sx.iSub, Sx.iMul, Sx.iNeg, Sx.iPow, Sx.iOf]; omega, ⟨rfl, rfl, trivial⟩, ?_, rfl, trivial⟩))
  rw [show iLt (l.getD x 0) 0 = false by simp only [Sx.Bz, Sx.Cont.n]; omega]
  show b ++ rowsF R (l.take x) ++ R.row (l.getD x 0) = b ++ rowsF R (l.take (x + 1))
  rw [rowsF_snoc R hx', List.append_assoc]
 ·simp only [Sx.Bz, Sx.Cont.n, Sx.app, Sx.nAdd, Sx.nSub, Sx.nMul, Sx.nPow, Sx.nDiv, Sx.nMod, Sx.iAdd, Sx.iSub, Sx.iMul, Sx.iNeg, Sx.iPow, Sx.iOf] at d
  obtain rfl : x = l.length := by omega
  exact ⟨trivial, by rw [List.take_length], trivial⟩
theorem wpc_stput (O : OO) (R : OB) (l b : List Int) (F : FO O) (hr : R = bO) (h0 : (Nat.ble b.length 990000) = true) (h1 : (Nat.ble l.length 100) = true) (h2 : (allQ 0 9223372036854775807 l) = true) : wpcI Try.prog (spB3 O R) Try.f46.ntmps [⟨Nat, [1, 5, 6], [(100001, 5, .ints .u8 [])], fun B j => [(7, .v (.int .i64 (j : Nat)))], fun B j => [(1, .blk 22 [.row B]), (B, .ro (.ints .u8 (b ++ rowsF R (l.take j))))], fun j => j ≤ l.length, fun j => l.length - j, 0⟩] (bodyOf Try.f46) 0 64 (envP (mks [.ro .i64, .obj 22 [.ro .u8]] [.ints l, .node [.ints b]] 0).1 0) (mks [.ro .i64, .obj 22 [.ro .u8]] [.ints l, .node [.ints b]] 0).2 (retP Try.prog Try.f46.results.toList 3 (⟨[], [(1, .blk 22 [.row 3]), (3, .ro (.ints .u8 (b ++ rowsF R l)))]⟩ : Post)) :=
 Eq.mpr (by kernel_rfl) (vc_stput O R l b F hr h0 h1 h2)
theorem ok_stput (I : Sx.Interp) (O : OO) (hO : O = oo) (R : OB) (hR : R = bO) : Sx.SpecOK I Try.prog 46 (pspec [.ro .i64, .obj 22 [.ro .u8]] true (g_stput O R)) := by
 refine spec_pI (spB3_ok I O hO R hR) (by kernel_rfl) (fun ds => match ds with | [.ints l, .node [.ints b]] => [⟨Nat, [1, 5, 6], [(100001, 5, .ints .u8 [])], fun B j => [(7, .v (.int .i64 (j : Nat)))], fun B j => [(1, .blk 22 [.row B]), (B, .ro (.ints .u8 (b ++ rowsF R (l.take j))))], fun j => j ≤ l.length, fun j => l.length - j, 0⟩] | _ => []) Try.func46 (by kernel_rfl) (by kernel_rfl) rfl Try.ntmps46 (by decide) ?_ ?_
 ·intro ds p bs F h
  unfold g_stput at h
  split at h
  ·rename_i l b
   simp only [Option.some.injEq, Prod.mk.injEq] at h
   obtain ⟨_, _, rfl⟩ := h
   kernel_rfl
  ·cases h
 ·intro ds bs F hl h
  unfold g_stput at h
  split at h
  ·rename_i l b
   simp only [Option.some.injEq, Prod.mk.injEq, Bool.and_eq_true] at h
   obtain ⟨⟨⟨h0, h1⟩, h2⟩, _, rfl⟩ := h
   exact wpc_stput O R l b (fo_oo O hO) hR (by first | exact h0 | (simp only [Bool.and_eq_true]; exact h0)) (by first | exact h1 | (simp only [Bool.and_eq_true]; exact h1)) (by first | exact h2 | (simp only [Bool.and_eq_true]; exact h2))
  ·cases h
def spB4 (O : OO) (R : OB) (f : FuncId) : Option Sx.Spec := match f with
 | 46 => some (pspec [.ro .i64, .obj 22 [.ro .u8]] true (g_stput O R))
 | f => spB3 O R f
theorem spB4_ok (I : Sx.Interp) (O : OO) (hO : O = oo) (R : OB) (hR : R = bO) : ∀ f s, spB4 O R f = some s → Sx.SpecOK I Try.prog f s := by
 intro f s h
 unfold spB4 at h
 split at h
 · cases h; exact ok_stput I O hO R hR
 ·exact spB3_ok I O hO R hR _ s h
def g_stbytes (O : OO) (R : OB) (ds : List Dt) : Option (Bool × List Bool × (List Bool → Post)) := match ds with
 | [.node [.v (.int .i64 no), .v (.int .i64 h0), .v (.int .i64 h1), .structs l, .v (.int .i64 rt)]] => some ((Nat.ble l.length 1000) && (pqB l), [], fun _ => ⟨[.row 1], [(1, .ro (.ints .u8 (stB R no h0 h1 rt l)))]⟩)
 | _ => none
set_option maxHeartbeats 4000000 in
theorem vc_stbytes (O : OO) (R : OB) (no h0 h1 rt : Int) (l : List (List Int)) (F : FO O) (hr : R = bO) (g0 : (Nat.ble l.length 1000) = true) (g1 : (pqB l) = true) :
 If (!allQ 0 9223372036854775807 [no, h0, h1, rt, iOf l.length]) (True ∧ EqI [] (stB R no h0 h1 rt l) ∧ True) (If (Nat.ble 0 990000 && Nat.ble 5 100 && allQ 0 9223372036854775807
  [no, h0, h1, rt, iOf l.length]) ((∃ (x : Nat), (x ≤ l.length ∧ cdsOk (List.take x l) = true) ∧ (Value.int .i64 0 = Value.int .i64 (iOf x) ∧ SV.fn (Fn.func
  46) [SV.ptr 1152 0] = SV.fn (Fn.func 46) [SV.ptr 1152 0] ∧ Value.int .i64 (iOf l.length) = Value.int .i64 (iOf l.length) ∧ True) ∧
  EqI (app [] (rowsF R [no, h0, h1, rt, iOf l.length])) (app (rowsF R [no, h0, h1, rt, iOf l.length]) (cdsF R (List.take x l))) ∧ (Value.int .i64 no = Value.int .i64 no ∧ Value.int
  .i64 h0 = Value.int .i64 h0 ∧ Value.int .i64 h1 = Value.int .i64 h1 ∧ Value.int .i64 rt = Value.int .i64 rt) ∧ Cont.structs [.i64, .i64, .i64, .u64, .i64] l = Cont.structs [.i64,
  .i64, .i64, .u64, .i64] l ∧ True) ∧ ∀ (x : Nat), x ≤ l.length ∧ cdsOk (List.take x l) = true → If (iLt (iOf x) (iOf (Cont.structs [.i64, .i64, .i64, .u64, .i64] l).n)) (If (iLe 0
  (iOf x) && (iOf x).toNat.blt l.length) (If (true && Nat.beq 5 5 && (iOf x).toNat.blt l.length) (If (!allQ 0 9223372036854775807 [(l.getD (iOf x).toNat []).getD 0 0, (l.getD (iOf
  x).toNat []).getD 1 0, (l.getD (iOf x).toNat []).getD 2 0, (l.getD (iOf x).toNat []).getD 4 0]) (True ∧ EqI [] (stB R no h0 h1 rt l) ∧ True) (If ((app (rowsF R [no, h0, h1, rt, iOf
  l.length]) (cdsF R (List.take x l))).length.ble 990000 && Nat.ble 4 100 && allQ 0 9223372036854775807 [(l.getD (iOf x).toNat []).getD 0 0, (l.getD (iOf x).toNat []).getD 1 0,
  (l.getD (iOf x).toNat []).getD 2 0, (l.getD (iOf x).toNat []).getD 4 0]) (If ((app (app (rowsF R [no, h0, h1, rt, iOf l.length]) (cdsF R (List.take x l))) (rowsF R [(l.getD (iOf
  x).toNat []).getD 0 0, (l.getD (iOf x).toNat []).getD 1 0, (l.getD (iOf x).toNat []).getD 2 0, (l.getD (iOf x).toNat []).getD 4 0])).length.ble 1000000 && inU ((l.getD (iOf x).toNat
  []).getD 3 0) 18446744073709551616) (∃ (x' : Nat), (x' ≤ l.length ∧ cdsOk (List.take x' l) = true) ∧ (nSub l.length x').succ ≤ nSub l.length x ∧ (Value.int .i64 (IntKind.i64.wrap
  (iAdd (iOf x) 1)) = Value.int .i64 (iOf x') ∧ SV.fn (Fn.func 46) [SV.ptr 1152 0] = SV.fn (Fn.func 46) [SV.ptr 1152 0] ∧ Value.int
  .i64 (iOf l.length) = Value.int .i64 (iOf l.length) ∧ True) ∧ EqI (app (app (app (rowsF R [no, h0, h1, rt, iOf l.length]) (cdsF R (List.take x l))) (rowsF R [(l.getD (iOf x).toNat
  []).getD 0 0, (l.getD (iOf x).toNat []).getD 1 0, (l.getD (iOf x).toNat []).getD 2 0, (l.getD (iOf x).toNat []).getD 4 0])) (u64B ((l.getD (iOf x).toNat []).getD 3 0))) (app (rowsF
  R [no, h0, h1, rt, iOf l.length]) (cdsF R (List.take x' l))) ∧ (Value.int .i64 no = Value.int .i64 no ∧ Value.int .i64 h0 = Value.int .i64 h0 ∧ Value.int .i64 h1 = Value.int .i64 h1
  ∧ Value.int .i64 rt = Value.int .i64 rt) ∧ Cont.structs [.i64, .i64, .i64, .u64, .i64] l = Cont.structs [.i64, .i64, .i64, .u64, .i64] l ∧ True) False) False)) False) False) (True ∧
  EqI (app (rowsF R [no, h0, h1, rt, iOf l.length]) (cdsF R (List.take x l))) (stB R no h0 h1 rt l) ∧ True)) False) := by
 have g0' := Nat.le_of_ble_eq_true g0
 refine Sx.if_both (fun d => ?_) (fun d => ?_)
 ·have d : allQ 0 9223372036854775807 [no, h0, h1, rt, iOf l.length] = false := by simpa using d
  refine ⟨trivial, ?_, trivial⟩
  unfold stB
  rw [show allQ 0 9223372036854775807 [no, h0, h1, rt, (l.length : Int)] = false from d]; rfl
 have d : allQ 0 9223372036854775807 [no, h0, h1, rt, iOf l.length] = true := by simpa using d
 have hst : stB R no h0 h1 rt l = bif cdsOk l then rowsF R [no, h0, h1, rt, (l.length : Int)] ++ cdsF R l else [] := by
  unfold stB
  rw [show allQ 0 9223372036854775807 [no, h0, h1, rt, (l.length : Int)] = true from d]; rfl
 have hh := rowsF_len hr [no, h0, h1, rt, iOf l.length]
 simp only [List.length_cons, List.length_nil] at hh
 obtain ⟨H, hH⟩ : ∃ H, rowsF R [no, h0, h1, rt, iOf l.length] = H := ⟨_, rfl⟩
 have hst : stB R no h0 h1 rt l = bif cdsOk l then H ++ cdsF R l else [] := by rw [hst, ← hH]; rfl
 rw [hH] at hh
 rw [hH, d]
 refine Sx.if_true rfl ⟨⟨0, ⟨Nat.zero_le _, rfl⟩, ⟨rfl, rfl, rfl, trivial⟩, by simp [EqI, cdsF, Sx.app, Sx.nAdd, Sx.nSub, Sx.nMul, Sx.nPow, Sx.nDiv, Sx.nMod, Sx.iAdd, Sx.iSub, Sx.iMul, Sx.iNeg, Sx.iPow, Sx.iOf], ⟨rfl, rfl, rfl, rfl⟩, rfl, trivial⟩, fun x ⟨x1, x2⟩ => ?_⟩
 have hn : (iOf x).toNat = x := by simp only [Sx.app, Sx.nAdd, Sx.nSub, Sx.nMul, Sx.nPow, Sx.nDiv, Sx.nMod, Sx.iAdd, Sx.iSub, Sx.iMul, Sx.iNeg, Sx.iPow, Sx.iOf, Int.toNat_natCast]
 rw [hn]
 refine Sx.if_both (fun e => ?_) (fun e => ?_)
 ·simp only [Sx.Bz, Sx.Cont.n, Sx.app, Sx.nAdd, Sx.nSub, Sx.nMul, Sx.nPow, Sx.nDiv, Sx.nMod, Sx.iAdd, Sx.iSub, Sx.iMul, Sx.iNeg, Sx.iPow, Sx.iOf] at e
  have hx' : x < l.length := by omega
  have hb : x.blt l.length = true := by rw [Nat.blt_eq]; exact hx'
  have w1 : IntKind.i64.wrap (iAdd (iOf x) 1) = iOf (x + 1) := by simp only [Sx.app, Sx.nAdd, Sx.nSub, Sx.nMul, Sx.nPow, Sx.nDiv, Sx.nMod, Sx.iAdd, Sx.iSub, Sx.iMul, Sx.iNeg, Sx.iPow, Sx.iOf]; rw [IntKind.wrap_i64]; omega
  obtain ⟨y, hy⟩ : ∃ y, l.getD x [] = y := ⟨_, rfl⟩
  have hq : inU (y.getD 3 0) 18446744073709551616 = true := by rw [← hy]; exact pqB_at g1 hx'
  have hcl := cdsF_len hr (l.take x)
  rw [List.length_take] at hcl
  have hrl := rowsF_len hr [y.getD 0 0, y.getD 1 0, y.getD 2 0, y.getD 4 0]
  simp only [List.length_cons, List.length_nil] at hrl
  have hsn := cdsF_snoc R hx'
  have hok := cdsOk_snoc hx'
  rw [hy] at hsn hok
  have hcy : cdRow R y = rowsF R [y.getD 0 0, y.getD 1 0, y.getD 2 0, y.getD 4 0] ++ u64B (y.getD 3 0) := rfl
  have hky : cdOk y = allQ 0 9223372036854775807 [y.getD 0 0, y.getD 1 0, y.getD 2 0, y.getD 4 0] := rfl
  rw [hb, w1, hy]
  refine Sx.if_true (by simp only [Sx.Bz, Sx.Cont.n, Sx.app, Sx.nAdd, Sx.nSub, Sx.nMul, Sx.nPow, Sx.nDiv, Sx.nMod, Sx.iAdd, Sx.iSub, Sx.iMul, Sx.iNeg, Sx.iPow, Sx.iOf]; exact ⟨by omega, trivial⟩) (Sx.if_true rfl (Sx.if_both (fun f => ?_) (fun f => ?_)))
  ·have f : cdOk y = false := by rw [hky]; simpa using f
   refine ⟨trivial, ?_, trivial⟩
   rw [hst, cdsOk_bad hx' (hy ▸ f)]; rfl
  ·have f : cdOk y = true := by rw [hky]; simpa using f
   rw [← hky, f]
   refine Sx.if_true (by simp only [Sx.app, Sx.nAdd, Sx.nSub, Sx.nMul, Sx.nPow, Sx.nDiv, Sx.nMod, Sx.iAdd, Sx.iSub, Sx.iMul, Sx.iNeg, Sx.iPow, Sx.iOf, Sx.Bz, Sx.Cont.n, List.length_append]; refine ⟨⟨by omega, by decide⟩, trivial⟩) (Sx.if_true (by rw [hq, Bool.and_true]; simp only [Sx.app, Sx.nAdd, Sx.nSub, Sx.nMul, Sx.nPow, Sx.nDiv, Sx.nMod, Sx.iAdd, Sx.iSub, Sx.iMul, Sx.iNeg, Sx.iPow, Sx.iOf, Sx.Bz, Sx.Cont.n, List.length_append]; omega) ⟨x + 1, ⟨hx', by rw [hok, x2, f]; rfl⟩, by simp only [Sx.app, Sx.nAdd, Sx.nSub, Sx.nMul, Sx.nPow, Sx.nDiv, Sx.nMod, Sx.iAdd, Sx.iSub, Sx.iMul, Sx.iNeg, Sx.iPow, Sx.iOf]; omega, ⟨rfl, rfl, rfl, trivial⟩, ?_, ⟨rfl, rfl, rfl, rfl⟩, rfl, trivial⟩)
   show H ++ cdsF R (l.take x) ++ rowsF R _ ++ u64B _ = H ++ cdsF R (l.take (x + 1))
   rw [hsn, hcy, List.append_assoc, List.append_assoc]
 ·simp only [Sx.Bz, Sx.Cont.n, Sx.app, Sx.nAdd, Sx.nSub, Sx.nMul, Sx.nPow, Sx.nDiv, Sx.nMod, Sx.iAdd, Sx.iSub, Sx.iMul, Sx.iNeg, Sx.iPow, Sx.iOf] at e
  obtain rfl : x = l.length := by omega
  rw [List.take_length] at x2 ⊢
  exact ⟨trivial, by rw [hst, x2]; rfl, trivial⟩
theorem wpc_stbytes (O : OO) (R : OB) (no h0 h1 rt : Int) (l : List (List Int)) (F : FO O) (hr : R = bO) (g0 : (Nat.ble l.length 1000) = true) (g1 : (pqB l) = true) : wpcI Try.prog (spB4 O R) Try.f22.ntmps [⟨Nat, [1, 4, 5, 30, 31], [(100004, 5, .ints .u8 [])], fun B j => [(32, .v (.int .i64 (j : Nat)))], fun B j => [(1152, .blk 22 [.row B]), (B, .ro (.ints .u8 (rowsF R [no, h0, h1, rt, (l.length : Int)] ++ cdsF R (l.take j))))], fun j => j ≤ l.length ∧ cdsOk (l.take j) = true, fun j => l.length - j, 0⟩] (bodyOf Try.f22) 0 64 (envP (mks [.agg [.v, .v, .v, .roS [.i64, .i64, .i64, .u64, .i64], .v]] [.node [.v (.int .i64 no), .v (.int .i64 h0), .v (.int .i64 h1), .structs l, .v (.int .i64 rt)]] 0).1 0) (mks [.agg [.v, .v, .v, .roS [.i64, .i64, .i64, .u64, .i64], .v]] [.node [.v (.int .i64 no), .v (.int .i64 h0), .v (.int .i64 h1), .structs l, .v (.int .i64 rt)]] 0).2 (retPA [(2, 5, .ints .u8 [])] Try.prog Try.f22.results.toList 1 (⟨[.row 1], [(1, .ro (.ints .u8 (stB R no h0 h1 rt l)))]⟩ : Post)) :=
 Eq.mpr (by kernel_rfl) (vc_stbytes O R no h0 h1 rt l F hr g0 g1)
theorem ok_stbytes (I : Sx.Interp) (O : OO) (hO : O = oo) (R : OB) (hR : R = bO) : Sx.SpecOK I Try.prog 22 (pspec [.agg [.v, .v, .v, .roS [.i64, .i64, .i64, .u64, .i64], .v]] true (g_stbytes O R)) := by
 refine spec_pAI (spB4_ok I O hO R hR) (by kernel_rfl) (fun ds => match ds with | [.node [.v (.int .i64 no), .v (.int .i64 h0), .v (.int .i64 h1), .structs l, .v (.int .i64 rt)]] => [⟨Nat, [1, 4, 5, 30, 31], [(100004, 5, .ints .u8 [])], fun B j => [(32, .v (.int .i64 (j : Nat)))], fun B j => [(1152, .blk 22 [.row B]), (B, .ro (.ints .u8 (rowsF R [no, h0, h1, rt, (l.length : Int)] ++ cdsF R (l.take j))))], fun j => j ≤ l.length ∧ cdsOk (l.take j) = true, fun j => l.length - j, 0⟩] | _ => []) (fun ds => match ds with | [.node [.v (.int .i64 no), .v (.int .i64 h0), .v (.int .i64 h1), .structs l, .v (.int .i64 rt)]] => [(2, 5, .ints .u8 [])] | _ => []) Try.func22 (by kernel_rfl) (by kernel_rfl) rfl Try.ntmps22 (by decide) ?_ ?_
 ·intro ds p bs F h
  unfold g_stbytes at h
  split at h
  ·rename_i no h0 h1 l rt
   simp only [Option.some.injEq, Prod.mk.injEq] at h
   obtain ⟨_, _, rfl⟩ := h
   kernel_rfl
  ·cases h
 ·intro ds bs F hl h
  unfold g_stbytes at h
  split at h
  ·rename_i no h0 h1 l rt
   simp only [Option.some.injEq, Prod.mk.injEq, Bool.and_eq_true] at h
   obtain ⟨⟨g0, g1⟩, _, rfl⟩ := h
   exact wpc_stbytes O R no h0 h1 rt l (fo_oo O hO) hR (by first | exact g0 | (simp only [Bool.and_eq_true]; exact g0)) (by first | exact g1 | (simp only [Bool.and_eq_true]; exact g1))
  ·cases h
def g_stread (O : OO) (R : OB) (ds : List Dt) : Option (Bool × List Bool × (List Bool → Post)) := match ds with
 | [.ints b] => some ((Nat.ble b.length 1000000), [], fun _ => ⟨[.agg [.v (.int .i64 (stNo R b)), .v (.int .i64 (stH0 R b)), .v (.int .i64 (stH1 R b)), .row 1, .v (.int .i64 (stRt R b))], .v (.bool (stOk R b))], [(1, .own 91 (.structs [.i64, .i64, .i64, .u64, .i64] (snC R b)))]⟩)
 | _ => none
set_option maxHeartbeats 4000000 in
theorem vc_stread (O : OO) (R : OB) (b : List Int) (F : FO O) (hr : R = bO) (h0 : (Nat.ble b.length 1000000) = true) :
 If (b.length.ble 1000000) (If (b.length.ble 1000000) (If ((R.nR b).length.ble 1000000) (If ((R.nR (R.nR b)).length.ble 1000000) (If ((R.nR (R.nR (R.nR b))).length.ble 1000000) (If
  ((R.nR (R.nR (R.nR (R.nR b)))).length.ble 1000000) ((∃ (x : Int × List Int × Bool × List (List Int)), (sdF R x.1.toNat x.2.1 x.snd.2.1 x.snd.2.2 = sdF R (hdN R b).toNat (hdL R b)
  (hdO R b) [] ∧ (iLe (iNeg 9223372036854775808) x.1 && iLe x.1 9223372036854775807) = true ∧ nAdd x.snd.2.2.length x.2.1.length ≤ nAdd b.length (bif x.snd.2.1 then 1 else 0)) ∧
  (Value.int .i64 (R.nV (R.nR (R.nR (R.nR (R.nR b))))) = Value.int .i64 x.1 ∧ Value.bool false = Value.bool false ∧ True) ∧ Value.bool (bif R.nOk (R.nR (R.nR (R.nR (R.nR b)))) then
  bif R.nOk (R.nR (R.nR (R.nR b))) then bif R.nOk (R.nR (R.nR b)) then bif R.nOk (R.nR b) then bif R.nOk b then false else true else true else true else true else true) = Value.bool
  x.snd.2.1 ∧ EqI (R.nR (R.nR (R.nR (R.nR (R.nR b))))) x.2.1 ∧ (Value.int .i64 (R.nV b) = Value.int .i64 (R.nV b) ∧ Value.int .i64 (R.nV (R.nR b)) = Value.int .i64 (R.nV (R.nR b)) ∧
  Value.int .i64 (R.nV (R.nR (R.nR b))) = Value.int .i64 (R.nV (R.nR (R.nR b))) ∧ Value.int .i64 (R.nV (R.nR (R.nR (R.nR b)))) = Value.int .i64 (R.nV (R.nR (R.nR (R.nR b))))) ∧
  Cont.structs [.i64, .i64, .i64, .u64, .i64] [] = Cont.structs [.i64, .i64, .i64, .u64, .i64] x.snd.2.2 ∧ EqI (R.nR (R.nR (R.nR (R.nR b)))) (R.nR (R.nR (R.nR (R.nR b)))) ∧ EqI (R.nR
  (R.nR (R.nR b))) (R.nR (R.nR (R.nR b))) ∧ EqI (R.nR (R.nR b)) (R.nR (R.nR b)) ∧ EqI (R.nR b) (R.nR b) ∧ EqI b b ∧ Array.mk [Value.int .i64 0, Value.int .i64 0, Value.int .i64 0,
  Value.slice none 0 0, Value.int .i64 0] = Array.mk [Value.int .i64 0, Value.int .i64 0, Value.int .i64 0, Value.slice none 0 0, Value.int .i64 0] ∧ True) ∧ ∀ (x : Int × List Int ×
  Bool × List (List Int)), sdF R x.1.toNat x.2.1 x.snd.2.1 x.snd.2.2 = sdF R (hdN R b).toNat (hdL R b) (hdO R b) [] ∧ (iLe (iNeg 9223372036854775808) x.1 && iLe x.1
  9223372036854775807) = true ∧ nAdd x.snd.2.2.length x.2.1.length ≤ nAdd b.length (bif x.snd.2.1 then 1 else 0) → If (iLt 0 x.1) (If (!x.snd.2.1) (If (x.2.1.length.ble 1000000) (If
  ((R.nR x.2.1).length.ble 1000000) (If ((R.nR (R.nR x.2.1)).length.ble 1000000) (If ((R.nR (R.nR (R.nR x.2.1))).length.ble 1000000) (If ((R.nR (R.nR (R.nR (R.nR x.2.1)))).length.ble
  1000000) (If ((nMul (nAdd x.snd.2.2.length 1) 40).ble 140737488355328 && (nAdd x.snd.2.2.length 1).ble 9223372036854775807) (∃ (x' : Int × List Int × Bool × List (List Int)), (sdF R
  x'.1.toNat x'.2.1 x'.snd.2.1 x'.snd.2.2 = sdF R (hdN R b).toNat (hdL R b) (hdO R b) [] ∧ (iLe (iNeg 9223372036854775808) x'.1 && iLe x'.1 9223372036854775807) = true ∧ nAdd
  x'.snd.2.2.length x'.2.1.length ≤ nAdd b.length (bif x'.snd.2.1 then 1 else 0)) ∧ x'.1.toNat.succ ≤ x.1.toNat ∧ (Value.int .i64 (IntKind.i64.wrap (iSub x.1 1)) = Value.int .i64 x'.1
  ∧ Value.bool false = Value.bool false ∧ True) ∧ Value.bool (u64N (R.nR (R.nR (R.nR (R.nR x.2.1)))) (bif R.nOk (R.nR (R.nR (R.nR x.2.1))) then bif R.nOk (R.nR (R.nR x.2.1)) then bif
  R.nOk (R.nR x.2.1) then bif R.nOk x.2.1 then x.snd.2.1 else true else true else true else true)) = Value.bool x'.snd.2.1 ∧ EqI (u64R (R.nR (R.nR (R.nR (R.nR x.2.1)))) (bif R.nOk
  (R.nR (R.nR (R.nR x.2.1))) then bif R.nOk (R.nR (R.nR x.2.1)) then bif R.nOk (R.nR x.2.1) then bif R.nOk x.2.1 then x.snd.2.1 else true else true else true else true)) x'.2.1 ∧
  (Value.int .i64 (R.nV b) = Value.int .i64 (R.nV b) ∧ Value.int .i64 (R.nV (R.nR b)) = Value.int .i64 (R.nV (R.nR b)) ∧ Value.int .i64 (R.nV (R.nR (R.nR b))) = Value.int .i64 (R.nV
  (R.nR (R.nR b))) ∧ Value.int .i64 (R.nV (R.nR (R.nR (R.nR b)))) = Value.int .i64 (R.nV (R.nR (R.nR (R.nR b))))) ∧ Cont.structs (app [.i64] (app [.i64] (app [.i64] (app [.u64] (app
  [.i64] []))))) (app x.snd.2.2 [[R.nV x.2.1, R.nV (R.nR x.2.1), R.nV (R.nR (R.nR x.2.1)), u64V R (R.nR (R.nR (R.nR (R.nR x.2.1)))) (bif R.nOk (R.nR (R.nR (R.nR x.2.1))) then bif
  R.nOk (R.nR (R.nR x.2.1)) then bif R.nOk (R.nR x.2.1) then bif R.nOk x.2.1 then x.snd.2.1 else true else true else true else true), R.nV (R.nR (R.nR (R.nR x.2.1)))]]) = Cont.structs
  [.i64, .i64, .i64, .u64, .i64] x'.snd.2.2 ∧ EqI (R.nR (R.nR (R.nR (R.nR b)))) (R.nR (R.nR (R.nR (R.nR b)))) ∧ EqI (R.nR (R.nR (R.nR b))) (R.nR (R.nR (R.nR b))) ∧ EqI (R.nR (R.nR b))
  (R.nR (R.nR b)) ∧ EqI (R.nR b) (R.nR b) ∧ EqI b b ∧ Array.mk [Value.int .i64 0, Value.int .i64 0, Value.int .i64 0, Value.slice none 0 0, Value.int .i64 0] = Array.mk [Value.int
  .i64 0, Value.int .i64 0, Value.int .i64 0, Value.slice none 0 0, Value.int .i64 0] ∧ True) False) False) False) False) False) False) (If (!!x.snd.2.1) (((Value.int .i64 0 =
  Value.int .i64 (stNo R b) ∧ Value.int .i64 0 = Value.int .i64 (stH0 R b) ∧ Value.int .i64 0 = Value.int .i64 (stH1 R b) ∧ Value.int .i64 0 = Value.int .i64 (stRt R b)) ∧ Value.bool
  false = Value.bool (stOk R b)) ∧ True ∧ Cont.structs [.i64, .i64, .i64, .u64, .i64] [] = Cont.structs [.i64, .i64, .i64, .u64, .i64] (snC R b) ∧ True) (If (iLt 0 (iOf x.2.1.length))
  (((Value.int .i64 0 = Value.int .i64 (stNo R b) ∧ Value.int .i64 0 = Value.int .i64 (stH0 R b) ∧ Value.int .i64 0 = Value.int .i64 (stH1 R b) ∧ Value.int .i64 0 = Value.int .i64
  (stRt R b)) ∧ Value.bool false = Value.bool (stOk R b)) ∧ True ∧ Cont.structs [.i64, .i64, .i64, .u64, .i64] [] = Cont.structs [.i64, .i64, .i64, .u64, .i64] (snC R b) ∧ True)
  (((Value.int .i64 (R.nV b) = Value.int .i64 (stNo R b) ∧ Value.int .i64 (R.nV (R.nR b)) = Value.int .i64 (stH0 R b) ∧ Value.int .i64 (R.nV (R.nR (R.nR b))) = Value.int .i64 (stH1 R
  b) ∧ Value.int .i64 (R.nV (R.nR (R.nR (R.nR b)))) = Value.int .i64 (stRt R b)) ∧ Value.bool true = Value.bool (stOk R b)) ∧ True ∧ Cont.structs [.i64, .i64, .i64, .u64, .i64]
  x.snd.2.2 = Cont.structs [.i64, .i64, .i64, .u64, .i64] (snC R b) ∧ True)))) (If (!!x.snd.2.1) (((Value.int .i64 0 = Value.int .i64 (stNo R b) ∧ Value.int .i64 0 = Value.int .i64
  (stH0 R b) ∧ Value.int .i64 0 = Value.int .i64 (stH1 R b) ∧ Value.int .i64 0 = Value.int .i64 (stRt R b)) ∧ Value.bool false = Value.bool (stOk R b)) ∧ True ∧ Cont.structs [.i64,
  .i64, .i64, .u64, .i64] [] = Cont.structs [.i64, .i64, .i64, .u64, .i64] (snC R b) ∧ True) (If (iLt 0 (iOf x.2.1.length)) (((Value.int .i64 0 = Value.int .i64 (stNo R b) ∧ Value.int
  .i64 0 = Value.int .i64 (stH0 R b) ∧ Value.int .i64 0 = Value.int .i64 (stH1 R b) ∧ Value.int .i64 0 = Value.int .i64 (stRt R b)) ∧ Value.bool false = Value.bool (stOk R b)) ∧ True
  ∧ Cont.structs [.i64, .i64, .i64, .u64, .i64] [] = Cont.structs [.i64, .i64, .i64, .u64, .i64] (snC R b) ∧ True) (((Value.int .i64 (R.nV b) = Value.int .i64 (stNo R b) ∧ Value.int
  .i64 (R.nV (R.nR b)) = Value.int .i64 (stH0 R b) ∧ Value.int .i64 (R.nV (R.nR (R.nR b))) = Value.int .i64 (stH1 R b) ∧ Value.int .i64 (R.nV (R.nR (R.nR (R.nR b)))) = Value.int .i64
  (stRt R b)) ∧ Value.bool true = Value.bool (stOk R b)) ∧ True ∧ Cont.structs [.i64, .i64, .i64, .u64, .i64] x.snd.2.2 = Cont.structs [.i64, .i64, .i64, .u64, .i64] (snC R b) ∧
  True)))) False) False) False) False) False) False := by
 have h0' := Nat.le_of_ble_eq_true h0
 have k0 := nRl hr b
 have k1 := nRl hr (R.nR b)
 have k2 := nRl hr (R.nR (R.nR b))
 have k3 := nRl hr (R.nR (R.nR (R.nR b)))
 have k4 := nRl hr (R.nR (R.nR (R.nR (R.nR b))))
 have eO : (bif R.nOk (R.nR (R.nR (R.nR (R.nR b)))) then bif R.nOk (R.nR (R.nR (R.nR b))) then bif R.nOk (R.nR (R.nR b)) then bif R.nOk (R.nR b) then bif R.nOk b then false else true else true else true else true else true) = hdO R b := rfl
 have eL : R.nR (R.nR (R.nR (R.nR (R.nR b)))) = hdL R b := rfl
 have eN : R.nV (R.nR (R.nR (R.nR (R.nR b)))) = hdN R b := rfl
 obtain ⟨n1, n2⟩ := nVr hr (R.nR (R.nR (R.nR (R.nR b))))
 rw [eN] at n1 n2
 rw [eL] at k4
 rw [eO, eL, eN]
 have hE : sdF R (hdN R b).toNat (hdL R b) (hdO R b) [] = snE R b := rfl
 rw [hE]
 refine Sx.if_true h0 (Sx.if_true h0 (Sx.if_true (by rw [Nat.ble_eq]; omega) (Sx.if_true (by rw [Nat.ble_eq]; omega) (Sx.if_true (by rw [Nat.ble_eq]; omega) (Sx.if_true (by rw [Nat.ble_eq]; omega) ⟨⟨(hdN R b, hdL R b, hdO R b, []), ⟨hE, ?_, ?_⟩, ⟨rfl, rfl, trivial⟩, rfl, rfl, (by repeat' (first | exact True.intro | exact rfl | refine ⟨?_, ?_⟩))⟩, ?_⟩)))))
 ·simp only [Sx.Bz, Sx.Cont.n]; exact ⟨n1, n2⟩
 ·show 0 + (hdL R b).length ≤ _
  simp only [Sx.app, Sx.nAdd, Sx.nSub, Sx.nMul, Sx.nPow, Sx.nDiv, Sx.nMod, Sx.iAdd, Sx.iSub, Sx.iMul, Sx.iNeg, Sx.iPow, Sx.iOf]; omega
 rintro ⟨k, l, no, L⟩ ⟨c1, c2, c3⟩
 replace c1 : sdF R k.toNat l no L = snE R b := c1
 replace c2 : (iLe (-9223372036854775808) k && iLe k 9223372036854775807) = true := c2
 simp only [Sx.Bz, Sx.Cont.n] at c2
 replace c3 : L.length + l.length ≤ b.length + (bif no then 1 else 0) := c3
 dsimp only
 have j0 := nRl hr l
 have j1 := nRl hr (R.nR l)
 have j2 := nRl hr (R.nR (R.nR l))
 have j3 := nRl hr (R.nR (R.nR (R.nR l)))
 have fO : (bif R.nOk (R.nR (R.nR (R.nR l))) then bif R.nOk (R.nR (R.nR l)) then bif R.nOk (R.nR l) then bif R.nOk l then no else true else true else true else true) = cdO R l no := rfl
 have fL : R.nR (R.nR (R.nR (R.nR l))) = cdL R l := rfl
 have bad : no = true → stOk R b = false := fun h => by
  subst h
  have e : snE R b = (l, true, L) := by rw [← c1]; cases k.toNat <;> rfl
  unfold stOk
  rw [e]; rfl
 have ends : no = false → k ≤ 0 → snE R b = (l, false, L) := fun h h' => by subst h; rw [← c1, show k.toNat = 0 by omega]; rfl
 have errs : stOk R b = false → (((Value.int IntKind.i64 0 = Value.int IntKind.i64 (stNo R b) ∧ Value.int IntKind.i64 0 = Value.int IntKind.i64 (stH0 R b) ∧ Value.int IntKind.i64 0 = Value.int IntKind.i64 (stH1 R b) ∧ Value.int IntKind.i64 0 = Value.int IntKind.i64 (stRt R b)) ∧ Value.bool false = Value.bool (stOk R b)) ∧ True ∧ Cont.structs [IntKind.i64, IntKind.i64, IntKind.i64, IntKind.u64, IntKind.i64] [] = Cont.structs [IntKind.i64, IntKind.i64, IntKind.i64, IntKind.u64, IntKind.i64] (snC R b) ∧ True) := fun h => by
  unfold stNo stH0 stH1 stRt snC
  rw [h]; exact (by repeat' (first | exact True.intro | exact rfl | refine ⟨?_, ?_⟩))
 have j4 : (cdL R l).length ≤ l.length := cdL_len hr l
 rw [fO, fL]
 refine Sx.if_both (fun d => ?_) (fun d => ?_)
 ·simp only [Sx.Bz, Sx.Cont.n, Sx.app, Sx.nAdd, Sx.nSub, Sx.nMul, Sx.nPow, Sx.nDiv, Sx.nMod, Sx.iAdd, Sx.iSub, Sx.iMul, Sx.iNeg, Sx.iPow, Sx.iOf] at d
  refine Sx.if_both (fun e => ?_) (fun e => ?_)
  ·have e : no = false := by simpa using e
   subst e
   have c3 : L.length + l.length ≤ b.length := c3
   have ek : k.toNat = (k - 1).toNat + 1 := by omega
   have u1 := u64R_len (cdL R l) (cdO R l false)
   have hs := cd_shrink hr l
   have w1 : IntKind.i64.wrap (iSub k 1) = k - 1 := by simp only [Sx.app, Sx.nAdd, Sx.nSub, Sx.nMul, Sx.nPow, Sx.nDiv, Sx.nMod, Sx.iAdd, Sx.iSub, Sx.iMul, Sx.iNeg, Sx.iPow, Sx.iOf]; rw [IntKind.wrap_i64]; omega
   rw [w1]
   refine Sx.if_true (by rw [Nat.ble_eq]; omega) (Sx.if_true (by rw [Nat.ble_eq]; omega) (Sx.if_true (by rw [Nat.ble_eq]; omega) (Sx.if_true (by rw [Nat.ble_eq]; omega) (Sx.if_true (by rw [Nat.ble_eq]; omega) (Sx.if_true (by simp only [Sx.app, Sx.nAdd, Sx.nSub, Sx.nMul, Sx.nPow, Sx.nDiv, Sx.nMod, Sx.iAdd, Sx.iSub, Sx.iMul, Sx.iNeg, Sx.iPow, Sx.iOf, Sx.Bz, Sx.Cont.n]; omega) ⟨(k - 1, u64R (cdL R l) (cdO R l false), u64N (cdL R l) (cdO R l false), L ++ [cdX R l false]), ⟨?_, ?_, ?_⟩, ?_, ⟨rfl, rfl, trivial⟩, rfl, rfl, (by repeat' (first | exact True.intro | exact rfl | refine ⟨?_, ?_⟩))⟩)))))
   ·show sdF R (k - 1).toNat _ _ _ = snE R b
    rw [← c1, ek]; rfl
   ·simp only [Sx.Bz, Sx.Cont.n, Sx.app, Sx.nAdd, Sx.nSub, Sx.nMul, Sx.nPow, Sx.nDiv, Sx.nMod, Sx.iAdd, Sx.iSub, Sx.iMul, Sx.iNeg, Sx.iPow, Sx.iOf]; omega
   ·show (L ++ [cdX R l false]).length + (u64R (cdL R l) (cdO R l false)).length ≤ b.length + (bif u64N (cdL R l) (cdO R l false) then 1 else 0)
    rw [List.length_append, List.length_singleton]
    omega
   ·show ((k - 1).toNat).succ ≤ k.toNat
    omega
  ·have e : no = true := by simpa using e
   subst e
   exact Sx.if_true rfl (errs (bad rfl))
 ·simp only [Sx.Bz, Sx.Cont.n, Sx.app, Sx.nAdd, Sx.nSub, Sx.nMul, Sx.nPow, Sx.nDiv, Sx.nMod, Sx.iAdd, Sx.iSub, Sx.iMul, Sx.iNeg, Sx.iPow, Sx.iOf] at d
  refine Sx.if_both (fun e => errs (bad (by simpa using e))) (fun e => ?_)
  have e : no = false := by simpa using e
  have hk := ends e (by omega)
  refine Sx.if_both (fun f => errs ?_) (fun f => ?_)
  ·simp only [Sx.Bz, Sx.Cont.n, Sx.app, Sx.nAdd, Sx.nSub, Sx.nMul, Sx.nPow, Sx.nDiv, Sx.nMod, Sx.iAdd, Sx.iSub, Sx.iMul, Sx.iNeg, Sx.iPow, Sx.iOf] at f
   unfold stOk
   rw [hk]
   show Nat.beq l.length 0 = false
   rw [Bool.eq_false_iff, Ne, Nat.beq_eq]; omega
  ·simp only [Sx.Bz, Sx.Cont.n, Sx.app, Sx.nAdd, Sx.nSub, Sx.nMul, Sx.nPow, Sx.nDiv, Sx.nMod, Sx.iAdd, Sx.iSub, Sx.iMul, Sx.iNeg, Sx.iPow, Sx.iOf] at f
   have h : stOk R b = true := by
    unfold stOk
    rw [hk]
    show Nat.beq l.length 0 = true
    rw [Nat.beq_eq]; omega
   unfold stNo stH0 stH1 stRt snC
   rw [h, hk]; exact (by repeat' (first | exact True.intro | exact rfl | refine ⟨?_, ?_⟩))
theorem wpc_stread (O : OO) (R : OB) (b : List Int) (F : FO O) (hr : R = bO) (h0 : (Nat.ble b.length 1000000) = true) : wpcI Try.prog (spB4 O R) Try.f23.ntmps [⟨Int × List Int × Bool × List (List Int), [2, 3, 4, 5], [(100004, 5, .ints .u8 []), (400005, 91, .structs [.i64, .i64, .i64, .u64, .i64] [])], fun B x => [(6, .v (.int .i64 x.1))], fun B x => [(256, .blk 127 [.row B, .v (.bool x.2.2.1)]), (B, .ro (.ints .u8 x.2.1)), (1024, .blk 53 [.v (.int .i64 (R.nV b)), .v (.int .i64 (R.nV (R.nR b))), .v (.int .i64 (R.nV (R.nR (R.nR b)))), .row (B + 1), .v (.int .i64 (R.nV (R.nR (R.nR (R.nR b)))))]), (B + 1, .own 91 (.structs [.i64, .i64, .i64, .u64, .i64] x.2.2.2))], fun x => sdF R x.1.toNat x.2.1 x.2.2.1 x.2.2.2 = snE R b ∧ (iLe (-9223372036854775808) x.1 && iLe x.1 9223372036854775807) = true ∧ x.2.2.2.length + x.2.1.length ≤ b.length + (bif x.2.2.1 then 1 else 0), fun x => x.1.toNat, 0⟩] (bodyOf Try.f23) 0 64 (envP (mks [.ro .u8] [.ints b] 0).1 0) (mks [.ro .u8] [.ints b] 0).2 (retPA [(400002, 91, .structs [.i64, .i64, .i64, .u64, .i64] [])] Try.prog Try.f23.results.toList 1 (⟨[.agg [.v (.int .i64 (stNo R b)), .v (.int .i64 (stH0 R b)), .v (.int .i64 (stH1 R b)), .row 1, .v (.int .i64 (stRt R b))], .v (.bool (stOk R b))], [(1, .own 91 (.structs [.i64, .i64, .i64, .u64, .i64] (snC R b)))]⟩ : Post)) :=
 Eq.mpr (by kernel_rfl) (vc_stread O R b F hr h0)
theorem ok_stread (I : Sx.Interp) (O : OO) (hO : O = oo) (R : OB) (hR : R = bO) : Sx.SpecOK I Try.prog 23 (pspec [.ro .u8] true (g_stread O R)) := by
 refine spec_pAI (spB4_ok I O hO R hR) (by kernel_rfl) (fun ds => match ds with | [.ints b] => [⟨Int × List Int × Bool × List (List Int), [2, 3, 4, 5], [(100004, 5, .ints .u8 []), (400005, 91, .structs [.i64, .i64, .i64, .u64, .i64] [])], fun B x => [(6, .v (.int .i64 x.1))], fun B x => [(256, .blk 127 [.row B, .v (.bool x.2.2.1)]), (B, .ro (.ints .u8 x.2.1)), (1024, .blk 53 [.v (.int .i64 (R.nV b)), .v (.int .i64 (R.nV (R.nR b))), .v (.int .i64 (R.nV (R.nR (R.nR b)))), .row (B + 1), .v (.int .i64 (R.nV (R.nR (R.nR (R.nR b)))))]), (B + 1, .own 91 (.structs [.i64, .i64, .i64, .u64, .i64] x.2.2.2))], fun x => sdF R x.1.toNat x.2.1 x.2.2.1 x.2.2.2 = snE R b ∧ (iLe (-9223372036854775808) x.1 && iLe x.1 9223372036854775807) = true ∧ x.2.2.2.length + x.2.1.length ≤ b.length + (bif x.2.2.1 then 1 else 0), fun x => x.1.toNat, 0⟩] | _ => []) (fun ds => match ds with | [.ints b] => [(400002, 91, .structs [.i64, .i64, .i64, .u64, .i64] [])] | _ => []) Try.func23 (by kernel_rfl) (by kernel_rfl) rfl Try.ntmps23 (by decide) ?_ ?_
 ·intro ds p bs F h
  unfold g_stread at h
  split at h
  ·rename_i b
   simp only [Option.some.injEq, Prod.mk.injEq] at h
   obtain ⟨_, _, rfl⟩ := h
   kernel_rfl
  ·cases h
 ·intro ds bs F hl h
  unfold g_stread at h
  split at h
  ·rename_i b
   simp only [Option.some.injEq, Prod.mk.injEq, Bool.and_eq_true] at h
   obtain ⟨h0, _, rfl⟩ := h
   exact wpc_stread O R b (fo_oo O hO) hR (by first | exact h0 | (simp only [Bool.and_eq_true]; exact h0))
  ·cases h
def spB5 (O : OO) (R : OB) (f : FuncId) : Option Sx.Spec := match f with
 | 22 => some (pspec [.agg [.v, .v, .v, .roS [.i64, .i64, .i64, .u64, .i64], .v]] true (g_stbytes O R))
 | 23 => some (pspec [.ro .u8] true (g_stread O R))
 | f => spB4 O R f
theorem spB5_ok (I : Sx.Interp) (O : OO) (hO : O = oo) (R : OB) (hR : R = bO) : ∀ f s, spB5 O R f = some s → Sx.SpecOK I Try.prog f s := by
 intro f s h
 unfold spB5 at h
 split at h
 · cases h; exact ok_stbytes I O hO R hR
 · cases h; exact ok_stread I O hO R hR
 ·exact spB4_ok I O hO R hR _ s h
end Go.Proofs.Ytaohpdhhbnempaa
