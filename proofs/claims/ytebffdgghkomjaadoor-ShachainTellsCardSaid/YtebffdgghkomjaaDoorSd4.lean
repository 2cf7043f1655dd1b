/- ShachainTells: the walk, by the symbolic machine (printed by genSd4.py; VCs by VcTool). -/
import Derived.Test.YtebffdgghkomjaaDoorSd3
import Derived.Test.YtebffdgghkomjaaDoorSs
import Derived.Test.YtebffdgghkomjaaDoorCp
import Derived.Test.YtebffdgghkomjaaDoorCq
namespace Go.Proofs.YtebffdgghkomjaaDoor
open Go.RowKit Go.Lib Ckp Cfd Cpd Sx
set_option linter.unusedVariables false
set_option linter.unusedSimpArgs false
set_option maxRecDepth 1000000
abbrev KH : List IntKind := [.u8, .u8, .u8, .u8, .u8, .u8, .u8, .u8, .u8, .u8, .u8, .u8, .u8, .u8, .u8, .u8, .u8, .u8, .u8, .u8, .u8, .u8, .u8, .u8, .u8, .u8, .u8, .u8, .u8, .u8, .u8, .u8]
def hE (x : List Int) (i : Nat) : Int := x.getD i 0
def okH (O : OO) (l : List (List Int)) : Bool := l.all fun x => O.isH (AV (hE x)) && Nat.beq x.length 32
/-- A store to which secrets were added, one by one. -/
def tsS (W : OW) (l : List (List Int)) : Nat → Int × List (List (List Int))
 | 0 => (0, nilL)
 | k + 1 => (stN W (tsS W l k).1 (tsS W l k).2 (k : Int) (AV (hE (l.getD k []))), stL W (tsS W l k).1 (tsS W l k).2 (k : Int) (AV (hE (l.getD k []))))
def tsN (W : OW) (l : List (List Int)) (k : Nat) : Int := (tsS W l k).1
def tsL (W : OW) (l : List (List Int)) (k : Nat) : List (List (List Int)) := (tsS W l k).2
theorem tabE {x : List Int} (h : x.length = 32) : tabI (hE x) 32 = x := tab_self h
theorem okH_at {O : OO} {l : List (List Int)} (h : okH O l = true) {i : Nat} (hi : i < l.length) : O.isH (AV (hE (l.getD i []))) = true ∧ (l.getD i []).length = 32 := by
 unfold okH at h
 have := List.all_eq_true.1 h _ (List.getElem_mem hi)
 rw [Bool.and_eq_true, Nat.beq_eq] at this
 rw [List.getD_eq_getElem?_getD, List.getElem?_eq_getElem hi]
 exact this
theorem ecells_KH (x : List Int) : ecells KH (tabI (hE x) 32) = ecells KH x := by kernel_rfl
theorem okL_of {O : OO} {L : List (List (List Int))} (h : L.length = 21) (e : ∀ i, i < 21 → okE O (L.getD i []) = true) : okL O L = true := by
 unfold okL
 rw [Bool.and_eq_true]
 refine ⟨by rw [h]; rfl, List.all_eq_true.2 fun x hx => ?_⟩
 obtain ⟨i, hi, rfl⟩ := List.mem_iff_getElem.1 hx
 have := e i (by omega)
 rwa [List.getD_eq_getElem?_getD, List.getElem?_eq_getElem hi] at this
theorem okL_add {O : OO} {W : OW} (hw : W = wO O) {L : List (List (List Int))} (h : okL O L = true) (n no : Int) {m : Nat → Int} (hm : O.isH (AV m) = true) : okL O (stL W n L no (AV m)) = true := by
 unfold stL
 cases iBeq (stE W n L no (AV m)) 0
 ·exact h
 ·rw [cond_true]
  obtain ⟨k, e, k20⟩ := hg_nat hw (1048575 - no)
  obtain ⟨hL, hE⟩ := okL_at h
  rw [e, Int.toNat_natCast]
  refine okL_of (by rw [List.length_set]; exact hL) fun i hi => ?_
  by_cases q : k = i
  ·subst q
   rw [getD_set_eq (by omega)]
   unfold okE
   rw [List.all_cons, List.all_nil, Bool.and_true, hK_cons, fn_AV, hm]; rfl
  ·rw [getD_set_ne q]; exact hE i
theorem stC_le2 {O : OO} {L : List (List (List Int))} (h : okL O L = true) : ∀ x, x ≤ 21 → stC L x ≤ x
 | 0, _ => Nat.le_refl _
 | x + 1, hx => by
  obtain ⟨hL, hE⟩ := okL_at h
  have ih := stC_le2 h x (by omega)
  rw [stC_succ hL hE (by omega)]
  have : (L.getD x []).length ≤ 1 := by
   rcases okE_cases (hE x) with e | ⟨y, e, _⟩ <;> rw [e] <;> simp
  omega
theorem toA_len {O : OO} {L : List (List (List Int))} (h : okL O L = true) : (toA L).length ≤ 21 := by
 rw [size_eq (okL_at h).1]; exact stC_le2 h 21 (Nat.le_refl _)
theorem ts_inv {O : OO} {W : OW} (hw : W = wO O) {l : List (List Int)} (hl : okH O l = true) : ∀ x, x ≤ l.length → (0 ≤ tsN W l x ∧ tsN W l x ≤ x) ∧ HF W (tsL W l x) ∧ okL O (tsL W l x) = true
 | 0, _ => ⟨⟨Int.le_refl _, Int.le_refl _⟩, hf_nil W, by show okL O (List.replicate 21 []) = true; rfl⟩
 | x + 1, hx => by
  obtain ⟨⟨i1, i2⟩, i3, i4⟩ := ts_inv hw hl x (by omega)
  have hm := (okH_at hl (show x < l.length by omega)).1
  have e1 : tsN W l (x + 1) = stN W (tsN W l x) (tsL W l x) (x : Int) (AV (hE (l.getD x []))) := rfl
  have e2 : tsL W l (x + 1) = stL W (tsN W l x) (tsL W l x) (x : Int) (AV (hE (l.getD x []))) := rfl
  rw [e1, e2]
  refine ⟨?_, hf_add hw i3 i1 _, okL_add hw i4 _ _ hm⟩
  unfold stN
  cases iBeq (stE W (tsN W l x) (tsL W l x) (x : Int) (AV (hE (l.getD x [])))) 0
  ·rw [cond_false]; omega
  ·rw [cond_true]; omega
theorem nV_nonneg {R : OB} (hr : R = bO) {b : List Int} (hb : byB b = true) : 0 ≤ R.nV b := by
 subst hr
 show 0 ≤ (numG b 10 0 0).2.1
 cases c : (numG b 10 0 0).1
 ·have := (num_fail 10 0 0 (numG b 10 0 0).2.1 (numG b 10 0 0).2.2 (l := b) (Prod.ext c rfl)).1
  omega
 ·exact (num_back hb (v := (numG b 10 0 0).2.1) (m := (numG b 10 0 0).2.2) (Prod.ext c rfl)).1
/-- What is read is told again as it was. -/
theorem rd_facts {O : OO} {R : OB} {W : OW} (hr : R = bO) (hw : W = wO O) (hB : ∀ m : Nat → Int, byB (tabI m 32) = true → O.isH (AV m) = true) {b : List Int} (hb : byB b = true) (h : rdOk R W b = true) : R.nV b ≤ 1048576 ∧ HF W (rdLL R b) ∧ okL O (rdLL R b) = true ∧ R.row (R.nV b) ++ bytF (rdLL R b) 21 = b := by
 have h0 := nV_nonneg hr hb
 obtain ⟨n, hn⟩ : ∃ n, R.nV b = n := ⟨_, rfl⟩
 obtain ⟨l, hl⟩ : ∃ l, R.nR b = l := ⟨_, rfl⟩
 obtain ⟨no, hno⟩ : ∃ no, rNo R b = no := ⟨_, rfl⟩
 have hD : rdOk R W b = bif rBad R b then false else bif rdB W n l no 21 then (bif rdRn n l no 21 then false else Nat.beq (rdRl n l no 21).length 0) else false := by subst hn hl hno; rfl
 have hBad : rBad R b = bif no then true else iLt 1048576 n := by subst hn hno; rfl
 have hLL : rdLL R b = rdL n l no 21 := by subst hn hl hno; rfl
 have hlb : byB l = true := by rw [← hl, hr]; exact nR_by b hb
 rw [hn] at h0
 rw [h, hBad] at hD
 cases no with
 | true => cases hD
 | false =>
  cases c : iLt 1048576 n
  ·rw [c] at hD
   simp only [Bool.and_eq_true, Bool.or_eq_true, Sx.iLt_t, Sx.iLt_f, Sx.iLe_t, Sx.iLe_f, Sx.iEq_t, Sx.iEq_f, Sx.iBeq_t, Sx.iBeq_f, Sx.iBne_t, Sx.iBne_f, Nat.ble_eq, Nat.beq_eq, Sx.Cont.n] at c
   have c : n ≤ 1048576 := by omega
   have hD : true = bif rdB W n l false 21 then (bif rdRn n l false 21 then false else Nat.beq (rdRl n l false 21).length 0) else false := hD
   have d1 : rdRn n l false 21 = false := by
    cases q : rdRn n l false 21
    ·rfl
    ·rw [q] at hD; cases q2 : rdB W n l false 21 <;> rw [q2] at hD <;> cases hD
   have d2 : (rdRl n l false 21).length = 0 := by
    rw [d1] at hD
    cases q2 : rdB W n l false 21
    ·rw [q2] at hD; cases hD
    ·rw [q2] at hD
     have : Nat.beq (rdRl n l false 21).length 0 = true := hD.symm
     rwa [Nat.beq_eq] at this
   have n01 : 0 ≤ n ∧ n ≤ 1048576 := ⟨h0, c⟩
   have hHF := hf_read hw n01 l false
   rw [hLL, hn]
   refine ⟨c, hHF, rdL_ok hB n l false hlb 21, ?_⟩
   have e := al_bytes n l 21 d1
   rw [(al_toA n l false 21 (Nat.le_refl _)).1, bytes_eq hHF.len, List.eq_nil_of_length_eq_zero d2, List.append_nil] at e
   rw [← e]
   subst hr
   have k : (numG b 10 0 0).1 = true := by
    have e : rNo bO b = bif (numG b 10 0 0).1 then false else true := rfl
    rw [hno] at e
    cases q : (numG b 10 0 0).1
    ·rw [q] at e; cases e
    ·rfl
   have nb := (num_back hb (v := (numG b 10 0 0).2.1) (m := (numG b 10 0 0).2.2) (Prod.ext k rfl)).2.2.1
   have e1 : bO.nR b = b.drop (numG b 10 0 0).2.2 := by
    show (bif (numG b 10 0 0).1 then b.drop (numG b 10 0 0).2.2 else []) = _
    rw [k]; rfl
   rw [← hn, ← hl, e1]
   exact nb.symm
  ·rw [c] at hD; cases hD

def spG0 (O : OO) (R : OB) (W : OW) (f : FuncId) : Option Sx.Spec := match f with
 | 21 => some (pspec [.ro .u8] true (g_read O R W))
 | 10 => some (pspec [.v, .v] false (g_rscr O R W))
 | 12 => some (pspec [] true (g_rnew O R W))
 | 16 => some (pspec [.robj 57 [.v, .roS KK]] false (g_rnext O R W))
 | 18 => some (pspec [.robj 57 [.v, .roS KK]] false (g_rsize O R W))
 | 14 => some (pspec [.obj 57 [.v, .roS KK], .v, .v] true (g_radd O R W))
 | 20 => some (pspec [.robj 57 [.v, .roS KK], .v] false (g_rget O R W))
 | 24 => some (pspec [.robj 57 [.v, .roS KK]] false (g_rbytes O R W))
 | 22 => some (pspec [.ro .u8] true (g_rread O R W))
 | f => spW3 O R W f
theorem spG0_ok (I : Sx.Interp) (hT : Tz I) (O : OO) (hO : O = oo) (R : OB) (hR : R = bO) (W : OW) (hW : W = wO O) : ∀ f s, spG0 O R W f = some s → Sx.SpecOK I Tryd.prog f s := by
 intro f s h
 unfold spG0 at h
 split at h
 ·cases h; exact ok_read I hT O hO R hR W hW
 ·cases h; exact ok_rscr I O hO R hR W hW
 ·cases h; exact ok_rnew I O hO R hR W hW
 ·cases h; exact ok_rnext I O hO R hR W hW
 ·cases h; exact ok_rsize I O hO R hR W hW
 ·cases h; exact ok_radd I O hO R hR W hW
 ·cases h; exact ok_rget I O hO R hR W hW
 ·cases h; exact ok_rbytes I O hO R hR W hW
 ·cases h; exact ok_rread I O hO R hR W hW
 ·exact spW3_ok I hT O hO R hR W hW _ s h
def g_small10 (l : List Value) : Option (Bool × Value) := match l with
 | [] => some (true, .bool true)
 | _ => none
theorem small10_calls (w : World) (ha : AmbW IT w) : Calls Tryd.prog 8 (List.toArray []) w fun e w' => e = .returned (.bool true) ∧ Fr (fun _ => False) w w' :=
 calls_real (I := IT) (spG0_ok IT tz_IT oo rfl bO rfl (wO oo) rfl) (by kernel_rfl) [] Tryd.func8 (by kernel_rfl) rfl Tryd.ntmps8 (by decide) (Eq.mpr (by kernel_rfl : _ = (Value.bool true = Value.bool true)) rfl) w
theorem ok_small10 : Sx.SpecOK IT Tryd.prog 8 (Sx.vspec g_small10) := by
 refine Sx.spec_of_callsA Tryd.func8 (by kernel_rfl) (by kernel_rfl) ?_
 intro l v hg w ha
 unfold g_small10 at hg
 split at hg
 ·simp only [Option.some.injEq, Prod.mk.injEq, true_and] at hg
  subst hg
  exact small10_calls w ha
 ·cases hg
def spG5 (O : OO) (R : OB) (W : OW) (f : FuncId) : Option Sx.Spec := match f with
 | 8 => some (Sx.vspec g_small10)
 | f => spG0 O R W f
theorem spG5_ok (O : OO) (hO : O = oo) (R : OB) (hR : R = bO) (W : OW) (hW : W = wO O) : ∀ f s, spG5 O R W f = some s → Sx.SpecOK IT Tryd.prog f s := by
 intro f s h
 unfold spG5 at h
 split at h
 ·cases h; exact ok_small10
 ·exact spG0_ok IT tz_IT O hO R hR W hW _ s h
def g_tells10 (O : OO) (R : OB) (W : OW) (ds : List Dt) : Option (Bool × List Bool × (List Bool → Post)) := match ds with
 | [.v (.agg a), .v (.int .i64 no), .structs l, .v (.int .i64 k), .ints b] => some ((O.isH a) && (iLe (-9223372036854775808) no && iLe no 9223372036854775807) && (okH O l) && (iLe (-9223372036854775808) k && iLe k 9223372036854775807) && (byB b), [], fun _ => ⟨[.v (.bool true)], []⟩)
 | _ => none
set_option maxHeartbeats 4000000 in
theorem vc_tells10 (O : OO) (R : OB) (W : OW) (s : Nat → Int) (no : Int) (l : List (List Int)) (k : Int) (b : List Int) (F : FO O) (hr : R = bO) (hw : W = wO O) (hB : ∀ m : Nat → Int, byB (tabI m 32) = true → O.isH (AV m) = true) (hC : ∀ m : Nat → Int, O.isH (AV m) = true → byB (tabI m 32) = true) (h0 : (O.isH (AV s)) = true) (h1 : (iLe (-9223372036854775808) no && iLe no 9223372036854775807) = true) (h2 : (okH O l) = true) (h3 : (iLe (-9223372036854775808) k && iLe k 9223372036854775807) = true) (h4 : (byB b) = true) :
 If (iLt 60 (iOf (Cont.structs KH l).n)) (Value.bool true = Value.bool true ∧ True ∧ True) (If (iLt 800 (iOf (Cont.ints .u8 b).n)) (Value.bool true = Value.bool true ∧ True ∧ True)
  (If (iLe (iNeg 9223372036854775808) no && O.isH (AV s)) (If (iLe (iNeg 9223372036854775808) no && O.isH (AV s)) (If (!eqv (AV (secF' W no (AV s))) (AV (secF' W no (AV s))))
  (Value.bool false = Value.bool true ∧ True ∧ True) (If (!(!secB no) == !secB no) (Value.bool false = Value.bool true ∧ True ∧ True) ((∃ (x : Nat), x ≤ l.length ∧ (Value.int .i64 0 =
  Value.int .i64 (iOf x) ∧ Value.int .i64 no = Value.int .i64 no ∧ Value.int .i64 k = Value.int .i64 k ∧ Value.bool true = Value.bool true ∧ True) ∧ Value.int .i64 0 = Value.int .i64
  (tsN W l x) ∧ nilL = tsL W l x ∧ Value.int .i64 0 = Value.int .i64 (tsN W l x) ∧ Cont.structs (KK) [] = Cont.structs (KK) (toA (tsL W l x)) ∧ AV s = AV s ∧ Cont.structs
  (List.replicate 32 .u8) l = Cont.structs (List.replicate 32 .u8) l ∧ EqI b b ∧ True) ∧ ∀ (x : Nat), x ≤ l.length → If (iLt (iOf x) (iOf (Cont.structs KH l).n)) (If (iLe 0 (iOf x) &&
  (iOf x).toNat.blt l.length) (If (true && Nat.beq 32 32 && (iOf x).toNat.blt l.length) (If (iLe 0 (tsN W l x) && iLe (tsN W l x) 1048576 && okL O (tsL W l x) && O.isH (AV (hE (l.getD
  (iOf x).toNat [])))) (If (iLe 0 (iOf x) && (iOf x).toNat.blt l.length) (If (true && Nat.beq 32 32 && (iOf x).toNat.blt l.length) (If (iLe 0 (tsN W l x) && iLe (tsN W l x) 1048576 &&
  okA O (toA (tsL W l x)) && O.isH (AV (hE (l.getD (iOf x).toNat []))) && (toA (tsL W l x)).length.ble 1000) (If (iBne (stE W (tsN W l x) (tsL W l x) (iOf x) (AV (hE (l.getD (iOf
  x).toNat [])))) (rE W (tsN W l x) (toA (tsL W l x)) (iOf x) (AV (hE (l.getD (iOf x).toNat []))))) (Value.bool false = Value.bool true ∧ True ∧ True) (If (iBne (stN W (tsN W l x)
  (tsL W l x) (iOf x) (AV (hE (l.getD (iOf x).toNat [])))) (rN W (tsN W l x) (toA (tsL W l x)) (iOf x) (AV (hE (l.getD (iOf x).toNat []))))) (Value.bool false = Value.bool true ∧ True
  ∧ True) (If (okL O (stL W (tsN W l x) (tsL W l x) (iOf x) (AV (hE (l.getD (iOf x).toNat []))))) (If (iBne (iOf (stC (stL W (tsN W l x) (tsL W l x) (iOf x) (AV (hE (l.getD (iOf
  x).toNat [])))) 21)) (iOf (rA W (tsN W l x) (toA (tsL W l x)) (iOf x) (AV (hE (l.getD (iOf x).toNat [])))).length)) (Value.bool false = Value.bool true ∧ True ∧ True) (∃ (x' : Nat),
  x' ≤ l.length ∧ (nSub l.length x').succ ≤ nSub l.length x ∧ (Value.int .i64 (IntKind.i64.wrap (iAdd (iOf x) 1)) = Value.int .i64 (iOf x') ∧ Value.int .i64 no = Value.int .i64 no ∧
  Value.int .i64 k = Value.int .i64 k ∧ Value.bool true = Value.bool true ∧ True) ∧ Value.int .i64 (stN W (tsN W l x) (tsL W l x) (iOf x) (AV (hE (l.getD (iOf x).toNat [])))) =
  Value.int .i64 (tsN W l x') ∧ stL W (tsN W l x) (tsL W l x) (iOf x) (AV (hE (l.getD (iOf x).toNat []))) = tsL W l x' ∧ Value.int .i64 (rN W (tsN W l x) (toA (tsL W l x)) (iOf x) (AV
  (hE (l.getD (iOf x).toNat [])))) = Value.int .i64 (tsN W l x') ∧ Cont.structs (KK) (rA W (tsN W l x) (toA (tsL W l x)) (iOf x) (AV (hE (l.getD (iOf x).toNat [])))) = Cont.structs
  (KK) (toA (tsL W l x')) ∧ AV s = AV s ∧ Cont.structs (List.replicate 32 .u8) l = Cont.structs (List.replicate 32 .u8) l ∧ EqI b b ∧ True)) False))) False) False) False) False)
  False) False) (If (iLe 0 (tsN W l x) && iLe (tsN W l x) 1048576 && okL O (tsL W l x) && iLe (iNeg 9223372036854775808) k) (If (iLe 0 (tsN W l x) && iLe (tsN W l x) 1048576 && okA O
  (toA (tsL W l x)) && (toA (tsL W l x)).length.ble 1000 && iLe (iNeg 9223372036854775808) k) (If (b.length.ble 1000000 && byB b && iLe 0 (R.nV b)) (If (rdOk R W b) (If (b.length.ble
  1000000 && byB b && iLe 0 (R.nV b)) (If (rdOk R W b) (If (!eqv (AV (getF W (tsN W l x) k (tsL W l x))) (AV (rGF W (tsN W l x) k (toA (tsL W l x))))) (Value.bool false = Value.bool
  true ∧ True ∧ True) (If (!getB (tsN W l x) k (tsL W l x) == rGB W (tsN W l x) k (toA (tsL W l x))) (Value.bool false = Value.bool true ∧ True ∧ True) (If (iLe 0 (tsN W l x) && iLe
  (tsN W l x) 1048576 && okL O (tsL W l x)) (If (iLe 0 (tsN W l x) && iLe (tsN W l x) 1048576 && okA O (toA (tsL W l x)) && (toA (tsL W l x)).length.ble 1000) (If (!(strOfNums (app
  (R.row (tsN W l x)) (bytF (tsL W l x) 21))).toList == (strOfNums (app (R.row (tsN W l x)) (rBy (toA (tsL W l x)) (toA (tsL W l x)).length))).toList) (Value.bool false = Value.bool
  true ∧ True ∧ True) (If (iLe 0 (tsN W l x) && iLe (tsN W l x) 1048576 && okL O (tsL W l x) && O.isH (AV s)) (If (iLe 0 (tsN W l x) && iLe (tsN W l x) 1048576 && okA O (toA (tsL W l
  x)) && O.isH (AV s) && (toA (tsL W l x)).length.ble 1000) (If (iBne (stE W (tsN W l x) (tsL W l x) no (AV s)) (rE W (tsN W l x) (toA (tsL W l x)) no (AV s))) (Value.bool false =
  Value.bool true ∧ True ∧ True) (If (iLe 0 (R.nV b) && iLe (R.nV b) 1048576 && okL O (rdLL R b) && iLe (iNeg 9223372036854775808) k) (If (iLe 0 (R.nV b) && iLe (R.nV b) 1048576 &&
  okA O (toA (rdLL R b)) && (toA (rdLL R b)).length.ble 1000 && iLe (iNeg 9223372036854775808) k) (If (eqv (AV (getF W (R.nV b) k (rdLL R b))) (AV (rGF W (R.nV b) k (toA (rdLL R
  b))))) (If (getB (R.nV b) k (rdLL R b) == rGB W (R.nV b) k (toA (rdLL R b))) (If (iLe 0 (R.nV b) && iLe (R.nV b) 1048576 && okL O (rdLL R b)) (If (iLe 0 (R.nV b) && iLe (R.nV b)
  1048576 && okA O (toA (rdLL R b)) && (toA (rdLL R b)).length.ble 1000) (If ((strOfNums (app (R.row (R.nV b)) (bytF (rdLL R b) 21))).toList == (strOfNums (app (R.row (R.nV b)) (rBy
  (toA (rdLL R b)) (toA (rdLL R b)).length))).toList) (If (iLe 0 (R.nV b) && iLe (R.nV b) 1048576 && okL O (rdLL R b)) (Value.bool ((strOfNums (app (R.row (R.nV b)) (bytF (rdLL R b)
  21))).toList == (strOfNums b).toList) = Value.bool true ∧ True ∧ True) False) (Value.bool false = Value.bool true ∧ True ∧ True)) False) False) (Value.bool false = Value.bool true ∧
  True ∧ True)) (Value.bool false = Value.bool true ∧ True ∧ True)) False) False)) False) False)) False) False))) (If (!eqv (AV (getF W (tsN W l x) k (tsL W l x))) (AV (rGF W (tsN W l
  x) k (toA (tsL W l x))))) (Value.bool false = Value.bool true ∧ True ∧ True) (If (!getB (tsN W l x) k (tsL W l x) == rGB W (tsN W l x) k (toA (tsL W l x))) (Value.bool false =
  Value.bool true ∧ True ∧ True) (Value.bool false = Value.bool true ∧ True ∧ True)))) False) (If (b.length.ble 1000000 && byB b && iLe 0 (R.nV b)) (If (rdOk R W b) (If (!eqv (AV
  (getF W (tsN W l x) k (tsL W l x))) (AV (rGF W (tsN W l x) k (toA (tsL W l x))))) (Value.bool false = Value.bool true ∧ True ∧ True) (If (!getB (tsN W l x) k (tsL W l x) == rGB W
  (tsN W l x) k (toA (tsL W l x))) (Value.bool false = Value.bool true ∧ True ∧ True) (Value.bool false = Value.bool true ∧ True ∧ True))) (If (!eqv (AV (getF W (tsN W l x) k (tsL W l
  x))) (AV (rGF W (tsN W l x) k (toA (tsL W l x))))) (Value.bool false = Value.bool true ∧ True ∧ True) (If (!getB (tsN W l x) k (tsL W l x) == rGB W (tsN W l x) k (toA (tsL W l x)))
  (Value.bool false = Value.bool true ∧ True ∧ True) (If (iLe 0 (tsN W l x) && iLe (tsN W l x) 1048576 && okL O (tsL W l x)) (If (iLe 0 (tsN W l x) && iLe (tsN W l x) 1048576 && okA O
  (toA (tsL W l x)) && (toA (tsL W l x)).length.ble 1000) (If (!(strOfNums (app (R.row (tsN W l x)) (bytF (tsL W l x) 21))).toList == (strOfNums (app (R.row (tsN W l x)) (rBy (toA
  (tsL W l x)) (toA (tsL W l x)).length))).toList) (Value.bool false = Value.bool true ∧ True ∧ True) (If (iLe 0 (tsN W l x) && iLe (tsN W l x) 1048576 && okL O (tsL W l x) && O.isH
  (AV s)) (If (iLe 0 (tsN W l x) && iLe (tsN W l x) 1048576 && okA O (toA (tsL W l x)) && O.isH (AV s) && (toA (tsL W l x)).length.ble 1000) (If (iBne (stE W (tsN W l x) (tsL W l x)
  no (AV s)) (rE W (tsN W l x) (toA (tsL W l x)) no (AV s))) (Value.bool false = Value.bool true ∧ True ∧ True) (Value.bool true = Value.bool true ∧ True ∧ True)) False) False))
  False) False)))) False)) False) False) False)))) False) False)) := by
 simp only [Bool.and_eq_true, Bool.or_eq_true, Sx.iLt_t, Sx.iLt_f, Sx.iLe_t, Sx.iLe_f, Sx.iEq_t, Sx.iEq_f, Sx.iBeq_t, Sx.iBeq_f, Sx.iBne_t, Sx.iBne_f, Nat.ble_eq, Nat.beq_eq, Sx.Cont.n] at h1 h3
 have a1 : iLe (iNeg 9223372036854775808) no = true := by simp only [Bool.and_eq_true, Bool.or_eq_true, Sx.iLt_t, Sx.iLt_f, Sx.iLe_t, Sx.iLe_f, Sx.iEq_t, Sx.iEq_f, Sx.iBeq_t, Sx.iBeq_f, Sx.iBne_t, Sx.iBne_f, Nat.ble_eq, Nat.beq_eq, Sx.Cont.n, Sx.app, Sx.nAdd, Sx.nSub, Sx.nMul, Sx.nPow, Sx.nDiv, Sx.nMod, Sx.iAdd, Sx.iSub, Sx.iMul, Sx.iNeg, Sx.iPow, Sx.iOf]; omega
 have a2 : iLe (iNeg 9223372036854775808) k = true := by simp only [Bool.and_eq_true, Bool.or_eq_true, Sx.iLt_t, Sx.iLt_f, Sx.iLe_t, Sx.iLe_f, Sx.iEq_t, Sx.iEq_f, Sx.iBeq_t, Sx.iBeq_f, Sx.iBne_t, Sx.iBne_f, Nat.ble_eq, Nat.beq_eq, Sx.Cont.n, Sx.app, Sx.nAdd, Sx.nSub, Sx.nMul, Sx.nPow, Sx.nDiv, Sx.nMod, Sx.iAdd, Sx.iSub, Sx.iMul, Sx.iNeg, Sx.iPow, Sx.iOf]; omega
 have e0 : ∀ f : Nat → Int, eqv (AV f) (AV f) = true := fun f => eqv_AV.2 rfl
 refine Sx.if_both (fun _ => (by repeat' (first | exact True.intro | exact rfl | refine ⟨?_, ?_⟩))) (fun q1 => Sx.if_both (fun _ => (by repeat' (first | exact True.intro | exact rfl | refine ⟨?_, ?_⟩))) (fun q2 => ?_))
 simp only [Bool.and_eq_true, Bool.or_eq_true, Sx.iLt_t, Sx.iLt_f, Sx.iLe_t, Sx.iLe_f, Sx.iEq_t, Sx.iEq_f, Sx.iBeq_t, Sx.iBeq_f, Sx.iBne_t, Sx.iBne_f, Nat.ble_eq, Nat.beq_eq, Sx.Cont.n, Sx.app, Sx.nAdd, Sx.nSub, Sx.nMul, Sx.nPow, Sx.nDiv, Sx.nMod, Sx.iAdd, Sx.iSub, Sx.iMul, Sx.iNeg, Sx.iPow, Sx.iOf] at q1 q2
 simp only [e0, a1, a2, h0, h4, Bool.and_true, Bool.true_and, Bool.not_true, Bool.not_not, beq_self_eq_true, Sx.If_t, Sx.If_f]
 refine ⟨⟨0, Nat.zero_le _, (by repeat' (first | exact True.intro | exact rfl | refine ⟨?_, ?_⟩)), (by first | rfl | trivial), (by first | rfl | trivial), (by first | rfl | trivial), ?_, (by repeat' (first | exact True.intro | exact rfl | refine ⟨?_, ?_⟩))⟩, fun x hx => ?_⟩
 ·show Cont.structs KK [] = Cont.structs KK (toA nilL)
  rw [toA_nil]
 obtain ⟨⟨i1, i2⟩, i3, i4⟩ := ts_inv hw h2 x hx
 have oA := okA_toA i3 i4
 have lA := toA_len i4
 have ex : (iOf x).toNat = x := Int.toNat_natCast x
 have w1 : IntKind.i64.wrap (iAdd (iOf x) 1) = iOf (x + 1) := by simp only [Sx.app, Sx.nAdd, Sx.nSub, Sx.nMul, Sx.nPow, Sx.nDiv, Sx.nMod, Sx.iAdd, Sx.iSub, Sx.iMul, Sx.iNeg, Sx.iPow, Sx.iOf]; rw [IntKind.wrap_i64]; omega
 have b1 : iLe 0 (tsN W l x) = true := by simp only [Bool.and_eq_true, Bool.or_eq_true, Sx.iLt_t, Sx.iLt_f, Sx.iLe_t, Sx.iLe_f, Sx.iEq_t, Sx.iEq_f, Sx.iBeq_t, Sx.iBeq_f, Sx.iBne_t, Sx.iBne_f, Nat.ble_eq, Nat.beq_eq, Sx.Cont.n]; omega
 have b2 : iLe (tsN W l x) 1048576 = true := by simp only [Bool.and_eq_true, Bool.or_eq_true, Sx.iLt_t, Sx.iLt_f, Sx.iLe_t, Sx.iLe_f, Sx.iEq_t, Sx.iEq_f, Sx.iBeq_t, Sx.iBeq_f, Sx.iBne_t, Sx.iBne_f, Nat.ble_eq, Nat.beq_eq, Sx.Cont.n]; omega
 have b3 : (toA (tsL W l x)).length.ble 1000 = true := by rw [Nat.ble_eq]; omega
 refine Sx.if_both (fun d => ?_) (fun d => ?_)
 ·simp only [Bool.and_eq_true, Bool.or_eq_true, Sx.iLt_t, Sx.iLt_f, Sx.iLe_t, Sx.iLe_f, Sx.iEq_t, Sx.iEq_f, Sx.iBeq_t, Sx.iBeq_f, Sx.iBne_t, Sx.iBne_f, Nat.ble_eq, Nat.beq_eq, Sx.Cont.n, Sx.app, Sx.nAdd, Sx.nSub, Sx.nMul, Sx.nPow, Sx.nDiv, Sx.nMod, Sx.iAdd, Sx.iSub, Sx.iMul, Sx.iNeg, Sx.iPow, Sx.iOf] at d
  have hxl : x < l.length := by omega
  have hb : x.blt l.length = true := by rw [Nat.blt_eq]; exact hxl
  have hm := (okH_at h2 hxl).1
  obtain ⟨e1, e2, e3⟩ := add_eq hw i3 (tsN W l x) (iOf x) (AV (hE (l.getD x [])))
  have i5 := hf_add hw i3 i1 (no := iOf x) (AV (hE (l.getD x [])))
  have i6 := okL_add hw i4 (tsN W l x) (iOf x) hm
  have e4 := size_eq i5.len
  have x0 : iLe 0 (iOf x) = true := by simp only [Bool.and_eq_true, Bool.or_eq_true, Sx.iLt_t, Sx.iLt_f, Sx.iLe_t, Sx.iLe_f, Sx.iEq_t, Sx.iEq_f, Sx.iBeq_t, Sx.iBeq_f, Sx.iBne_t, Sx.iBne_f, Nat.ble_eq, Nat.beq_eq, Sx.Cont.n, Sx.app, Sx.nAdd, Sx.nSub, Sx.nMul, Sx.nPow, Sx.nDiv, Sx.nMod, Sx.iAdd, Sx.iSub, Sx.iMul, Sx.iNeg, Sx.iPow, Sx.iOf]; omega
  have bne : ∀ z : Int, iBne z z = false := fun z => by simp only [Bool.and_eq_true, Bool.or_eq_true, Sx.iLt_t, Sx.iLt_f, Sx.iLe_t, Sx.iLe_f, Sx.iEq_t, Sx.iEq_f, Sx.iBeq_t, Sx.iBeq_f, Sx.iBne_t, Sx.iBne_f, Nat.ble_eq, Nat.beq_eq, Sx.Cont.n]
  have t32 : Nat.beq 32 32 = true := rfl
  simp only [ex, hb, e1, e2, e3, e4, x0, b1, b2, b3, hm, i4, i6, oA, w1, bne, t32, Bool.and_true, Sx.If_t, Sx.If_f]
  exact ⟨x + 1, hxl, by simp only [Sx.app, Sx.nAdd, Sx.nSub, Sx.nMul, Sx.nPow, Sx.nDiv, Sx.nMod, Sx.iAdd, Sx.iSub, Sx.iMul, Sx.iNeg, Sx.iPow, Sx.iOf]; omega, (by repeat' (first | exact True.intro | exact rfl | refine ⟨?_, ?_⟩))⟩
 ·obtain ⟨e1, e2, e3⟩ := add_eq hw i3 (tsN W l x) no (AV s)
  obtain ⟨g1, g2⟩ := get_eq i3 i4 (tsN W l x) k
  have by1 := bytes_eq i3.len
  have bne : ∀ z : Int, iBne z z = false := fun z => by simp only [Bool.and_eq_true, Bool.or_eq_true, Sx.iLt_t, Sx.iLt_f, Sx.iLe_t, Sx.iLe_f, Sx.iEq_t, Sx.iEq_f, Sx.iBeq_t, Sx.iBeq_f, Sx.iBne_t, Sx.iBne_f, Nat.ble_eq, Nat.beq_eq, Sx.Cont.n]
  have c1 : b.length.ble 1000000 = true := by rw [Nat.ble_eq]; omega
  have c2 : iLe 0 (R.nV b) = true := by simp only [Bool.and_eq_true, Bool.or_eq_true, Sx.iLt_t, Sx.iLt_f, Sx.iLe_t, Sx.iLe_f, Sx.iEq_t, Sx.iEq_f, Sx.iBeq_t, Sx.iBeq_f, Sx.iBne_t, Sx.iBne_f, Nat.ble_eq, Nat.beq_eq, Sx.Cont.n]; exact nV_nonneg hr h4
  cases hrd : rdOk R W b
  ·simp only [e1, g1, g2, e0, by1, b1, b2, b3, c1, c2, i4, oA, bne, Bool.and_true, Bool.not_true, beq_self_eq_true, Sx.If_t, Sx.If_f, and_self]
  ·obtain ⟨r1, r2, r3, r4⟩ := rd_facts hr hw hB h4 hrd
   have r5 := okA_toA r2 r3
   have r6 : (toA (rdLL R b)).length.ble 1000 = true := by have := toA_len r3; rw [Nat.ble_eq]; omega
   obtain ⟨f1, f2⟩ := get_eq r2 r3 (R.nV b) k
   have by2 := bytes_eq r2.len
   have c3 : iLe (R.nV b) 1048576 = true := by simp only [Bool.and_eq_true, Bool.or_eq_true, Sx.iLt_t, Sx.iLt_f, Sx.iLe_t, Sx.iLe_f, Sx.iEq_t, Sx.iEq_f, Sx.iBeq_t, Sx.iBeq_f, Sx.iBne_t, Sx.iBne_f, Nat.ble_eq, Nat.beq_eq, Sx.Cont.n]; exact r1
   have r4 : app (R.row (R.nV b)) (bytF (rdLL R b) 21) = b := r4
   simp only [e1, g1, g2, f1, f2, e0, by1, by2, b1, b2, b3, c1, c2, c3, i4, oA, r3, r4, r5, r6, bne, Bool.and_true, Bool.not_true, beq_self_eq_true, Sx.If_t, Sx.If_f, and_self]
theorem wpc_tells10 (O : OO) (R : OB) (W : OW) (s : Nat → Int) (no : Int) (l : List (List Int)) (k : Int) (b : List Int) (F : FO O) (hr : R = bO) (hw : W = wO O) (hB : ∀ m : Nat → Int, byB (tabI m 32) = true → O.isH (AV m) = true) (hC : ∀ m : Nat → Int, O.isH (AV m) = true → byB (tabI m 32) = true) (h0 : (O.isH (AV s)) = true) (h1 : (iLe (-9223372036854775808) no && iLe no 9223372036854775807) = true) (h2 : (okH O l) = true) (h3 : (iLe (-9223372036854775808) k && iLe k 9223372036854775807) = true) (h4 : (byB b) = true) : wpcI Tryd.prog (spG5 O R W) Tryd.f3.ntmps [⟨Nat, [1, 2, 3, 4, 5, 11, 16, 17], [(200016, 5, .structs KK (List.replicate 21 [])), (200017, 62, .structs KK [])], fun B j => [(18, .v (.int .i64 (j : Nat)))], fun B j => [(1984, .blk 54 (.v (.int .i64 (tsN W l j)) :: selList B 21 0)), (B, .sels KK (tsL W l j)), (2112, .blk 57 [.v (.int .i64 (tsN W l j)), .row (B + 1)]), (B + 1, .ro (.structs KK (toA (tsL W l j))))], fun j => j ≤ l.length, fun j => l.length - j, 0⟩] (bodyOf Tryd.f3) 0 64 (envP (mks [.v, .v, .roS KH, .v, .ro .u8] [.v (.agg (AV s)), .v (.int .i64 no), .structs l, .v (.int .i64 k), .ints b] 0).1 0) (mks [.v, .v, .roS KH, .v, .ro .u8] [.v (.agg (AV s)), .v (.int .i64 no), .structs l, .v (.int .i64 k), .ints b] 0).2 (retP Tryd.prog Tryd.f3.results.toList 2 (⟨[.v (.bool true)], []⟩ : Post)) :=
 Eq.mpr (by kernel_rfl) (vc_tells10 O R W s no l k b F hr hw hB hC h0 h1 h2 h3 h4)
theorem ok_tells10 (O : OO) (hO : O = oo) (R : OB) (hR : R = bO) (W : OW) (hW : W = wO O) : Sx.SpecOK IT Tryd.prog 3 (pspec [.v, .v, .roS KH, .v, .ro .u8] false (g_tells10 O R W)) := by
 refine spec_pI (spG5_ok O hO R hR W hW) (by kernel_rfl) (fun ds => match ds with | [.v (.agg a), .v (.int .i64 no), .structs l, .v (.int .i64 k), .ints b] => [⟨Nat, [1, 2, 3, 4, 5, 11, 16, 17], [(200016, 5, .structs KK (List.replicate 21 [])), (200017, 62, .structs KK [])], fun B j => [(18, .v (.int .i64 (j : Nat)))], fun B j => [(1984, .blk 54 (.v (.int .i64 (tsN W l j)) :: selList B 21 0)), (B, .sels KK (tsL W l j)), (2112, .blk 57 [.v (.int .i64 (tsN W l j)), .row (B + 1)]), (B + 1, .ro (.structs KK (toA (tsL W l j))))], fun j => j ≤ l.length, fun j => l.length - j, 0⟩] | _ => []) Tryd.func3 (by kernel_rfl) (by kernel_rfl) rfl Tryd.ntmps3 (by decide) ?_ ?_
 ·intro ds p bs F h
  unfold g_tells10 at h
  split at h
  ·rename_i a no l k b
   simp only [Option.some.injEq, Prod.mk.injEq] at h
   obtain ⟨_, _, rfl⟩ := h
   kernel_rfl
  ·cases h
 ·intro ds bs F hl h
  unfold g_tells10 at h
  split at h
  ·rename_i a no l k b
   simp only [Option.some.injEq, Prod.mk.injEq, Bool.and_eq_true] at h
   obtain ⟨⟨⟨⟨⟨h0, h1⟩, h2⟩, h3⟩, h4⟩, _, rfl⟩ := h
   obtain ⟨s, rfl⟩ := isH_AV (by subst hO; exact h0 : isHa a = true)
   exact wpc_tells10 O R W s no l k b (fo_oo O hO) hR hW (fun m h => isH_by hO m h) (by subst hO; exact by_isH) (by first | exact h0 | (simp only [Bool.and_eq_true]; exact h0)) (by first | exact h1 | (simp only [Bool.and_eq_true]; exact h1)) (by first | exact h2 | (simp only [Bool.and_eq_true]; exact h2)) (by first | exact h3 | (simp only [Bool.and_eq_true]; exact h3)) (by first | exact h4 | (simp only [Bool.and_eq_true]; exact h4))
  ·cases h
def nrmH (l : List (List Int)) : List (List Int) := l.map fun x => tabI (hE x) 32
theorem reads_nrmH {F : Nat → Prop} {w : World} {v : Value} {l : List (List Int)} (h : ReadsC F w v (.structs KH l)) : ReadsC F w v (.structs KH (nrmH l)) := by
 have e : (Sx.Cont.structs KH (nrmH l)).cells = (Sx.Cont.structs KH l).cells := by
  show (nrmH l).flatMap (fun xs => (ecells KH xs).toList) = l.flatMap (fun xs => (ecells KH xs).toList)
  unfold nrmH
  rw [List.flatMap_map]
  simp only [ecells_KH]
 have n : (Sx.Cont.structs KH (nrmH l)).n = (Sx.Cont.structs KH l).n := by
  show (nrmH l).length = l.length
  unfold nrmH; rw [List.length_map]
 unfold ReadsC
 rw [e, n]
 exact h
theorem okH_nrmH {l : List (List Int)} (h : okS KH l) : okH oo (nrmH l) = true := by
 unfold okH nrmH
 refine List.all_eq_true.2 fun x hx => ?_
 obtain ⟨y, hy, rfl⟩ := List.mem_map.1 hx
 obtain ⟨i, hi, rfl⟩ := List.mem_iff_getElem.1 hy
 have hb : ∀ j, j < 32 → 0 ≤ hE l[i] j ∧ hE l[i] j < 256 := fun j hj => by
  have hk : KH[j]? = some .u8 := by
   have : KH = List.replicate 32 IntKind.u8 := by decide
   rw [this, List.getElem?_replicate, if_pos hj]
  have := h i hi j .u8 hk
  rw [show l.getD i [] = l[i] by rw [List.getD_eq_getElem?_getD, List.getElem?_eq_getElem hi]; rfl] at this
  obtain ⟨n, hn, e⟩ := nat_u8 this
  have e : hE l[i] j = n := e
  rw [e]
  omega
 have hT : tabI (hE (tabI (hE l[i]) 32)) 32 = tabI (hE l[i]) 32 := tabE (tab32 _)
 have hA : AV (hE (tabI (hE l[i]) 32)) = AV (hE l[i]) := AV_list.2 hT
 rw [hA, Bool.and_eq_true]
 refine ⟨?_, by rw [tab32]; rfl⟩
 refine isH_oo (isHa_AV (tab32 _) fun x hx => ?_)
 have key : ∀ n : Nat, n ≤ 32 → ∀ x ∈ tabI (hE l[i]) n, 0 ≤ x ∧ x < 256 := by
  intro n
  induction n with
  | zero => intro _ x hx; cases hx
  | succ n ih =>
   intro hn x hx
   rw [tabI, List.mem_append, List.mem_singleton] at hx
   rcases hx with hx | rfl
   ·exact ih (by omega) x hx
   ·exact hb n (by omega)
 exact key 32 (Nat.le_refl _) x hx
theorem row_byB {w : World} {a : Option Addr} {len cap : Nat} {z : List Int} (hq : IsRow .u8 w a len cap z) : byB (z.take len) = true := by
 rw [byB_iff]
 intro n hn
 have hn := List.mem_of_mem_take hn
 rcases hq with ⟨_, _, _, rfl⟩ | ⟨_, _, _, _, _, _, hw⟩
 ·cases hn
 ·obtain ⟨m, hm, rfl⟩ := nat_u8 (hw n hn)
  omega
theorem walk_tells10 (w : World) (ha : AmbW IT w) (l_s : List Nat) (hl_s : l_s.length = 32) (hb_s : ∀ i, l_s.getD i 0 < 256) (no : Int) (hb_no : -9223372036854775808 ≤ no ∧ no ≤ 9223372036854775807) (a_l : Option Addr) (len_l cap_l : Nat) (z_l : List (List Int)) (hr : IsRowS KH w a_l len_l cap_l z_l) (hs : ∀ x, a_l = some x → x.spot = none ∧ x.block < w.heap.size) (k : Int) (hb_k : -9223372036854775808 ≤ k ∧ k ≤ 9223372036854775807) (a_b : Option Addr) (len_b cap_b : Nat) (z_b : List Int) (hq : IsRow .u8 w a_b len_b cap_b z_b) (hs_b : ∀ x, a_b = some x → x.spot = none ∧ x.block < w.heap.size) :
  Calls Tryd.prog 3 #[B8 l_s, .int .i64 no, .slice a_l len_l cap_l, .int .i64 k, .slice a_b len_b cap_b] w fun e w' => e = .returned (.bool true) ∧ Kp w w' := by
 obtain ⟨s, e_s, i_s⟩ := bcs_AV l_s hl_s hb_s
 rw [show (B8 l_s : Value) = .agg (AV s) from congrArg Value.agg e_s]
 have hg : g_tells10 oo bO (wO oo) [.v (.agg (AV s)), .v (.int .i64 no), .structs (nrmH (z_l.take len_l)), .v (.int .i64 k), .ints (z_b.take len_b)] = some (true, [], fun _ => ⟨[.v (.bool true)], []⟩) := by
  show some (oo.isH (AV s) && (iLe (-9223372036854775808) no && iLe no 9223372036854775807) && okH oo (nrmH (z_l.take len_l)) && (iLe (-9223372036854775808) k && iLe k 9223372036854775807) && byB (z_b.take len_b), ([] : List Bool), _) = _
  rw [isH_oo i_s, okH_nrmH (rowS_ok hr), row_byB hq, show (iLe (-9223372036854775808) no && iLe no 9223372036854775807) = true by simp only [Bool.and_eq_true, Bool.or_eq_true, Sx.iLt_t, Sx.iLt_f, Sx.iLe_t, Sx.iLe_f, Sx.iEq_t, Sx.iEq_f, Sx.iBeq_t, Sx.iBeq_f, Sx.iBne_t, Sx.iBne_f, Nat.ble_eq, Nat.beq_eq, Sx.Cont.n]; exact hb_no, show (iLe (-9223372036854775808) k && iLe k 9223372036854775807) = true by simp only [Bool.and_eq_true, Bool.or_eq_true, Sx.iLt_t, Sx.iLt_f, Sx.iLe_t, Sx.iLe_f, Sx.iEq_t, Sx.iEq_f, Sx.iBeq_t, Sx.iBeq_f, Sx.iBne_t, Sx.iBne_f, Nat.ble_eq, Nat.beq_eq, Sx.Cont.n]; exact hb_k]
  rfl
 exact (calls_pats (ok_tells10 oo rfl bO rfl (wO oo) rfl) [.slice a_l len_l cap_l, .slice a_b len_b cap_b] (fun i b => match i with | 0 => ∃ x, a_l = some x ∧ x.block = b | _ => b < w.heap.size) (cs := [.structs KH (nrmH (z_l.take len_l)), .ints .u8 (z_b.take len_b)]) (xs := [.v (.agg (AV s)), .v (.int .i64 no), .row 0, .v (.int .i64 k), .row 1])
  (fun i c hc => by
   match i, hc with
   | 0, hc => cases hc; exact reads_nrmH (rowS_reads (by decide) hr hs)
   | 1, hc => cases hc; exact row_readsK hq)
  (fun i c b hc hb => by
   match i, hc, hb with
   | 0, _, hb => obtain ⟨x, hx, rfl⟩ := hb; exact (hs x hx).2
   | 1, _, hb => exact hb) rfl (by show 2 ≤ 8; decide) rfl rfl hg).mono fun _ _ ⟨he, hf⟩ => ⟨he, fr_below hf⟩
end Go.Proofs.YtebffdgghkomjaaDoor
