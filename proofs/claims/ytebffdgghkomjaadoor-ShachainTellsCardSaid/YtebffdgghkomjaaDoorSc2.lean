/- Shachain: Read (printed by genSc2.py; VCs by VcTool). -/
import Derived.Test.YtebffdgghkomjaaDoorSp
namespace Go.Proofs.YtebffdgghkomjaaDoor
open Go.RowKit Go.Lib Ckp Cfd Cpd Sx
set_option linter.unusedVariables false
set_option linter.unusedSimpArgs false
set_option maxRecDepth 1000000
/-- Must one that is kept come from a new one, and does it? -/
def cmsE (W : OW) (h : Int) (p : Int) (a : Array Value) (e : List (List Int)) : Bool := e.all fun x => bif iBeq ((plc x).fdiv (2 ^ h.toNat)) (p.fdiv (2 ^ h.toNat)) then eqv (AV (W.cm h (plc x) a)) (AV (hK x)) else true
def cmsAll (W : OW) (L : List (List (List Int))) (h : Int) (p : Int) (a : Array Value) (n : Nat) : Bool := (List.range n).all fun i => cmsE W h p a (L.getD i [])
/-- What is there behind some heights: what is left, has the reader failed, what is kept, is all right. -/
def rdR (n : Int) (l : List Int) (no : Bool) : Nat → List Int × Bool
 | 0 => (l, no)
 | h + 1 => bif rdS n h then (hshR (rdR n l no h).1 (rdR n l no h).2, hshN (rdR n l no h).1 (rdR n l no h).2) else rdR n l no h
def rdRl (n : Int) (l : List Int) (no : Bool) (h : Nat) : List Int := (rdR n l no h).1
def rdRn (n : Int) (l : List Int) (no : Bool) (h : Nat) : Bool := (rdR n l no h).2
def rdL (n : Int) (l : List Int) (no : Bool) : Nat → List (List (List Int))
 | 0 => List.replicate 21 []
 | h + 1 => bif rdS n h then (rdL n l no h).set h [lstP n h :: tabI (hsh (rdRl n l no h) (rdRn n l no h)) 32] else rdL n l no h
def rdB (W : OW) (n : Int) (l : List Int) (no : Bool) : Nat → Bool
 | 0 => true
 | h + 1 => bif rdB W n l no h then (bif rdS n h then cmsAll W (rdL n l no h) h (lstP n h) (AV (hsh (rdRl n l no h) (rdRn n l no h))) h else true) else false
def rNo (R : OB) (b : List Int) : Bool := bif R.nOk b then false else true
def rBad (R : OB) (b : List Int) : Bool := bif rNo R b then true else iLt 1048576 (R.nV b)
/-- Is a store read of bytes? -/
def rdOk (R : OB) (W : OW) (b : List Int) : Bool := bif rBad R b then false else bif rdB W (R.nV b) (R.nR b) (rNo R b) 21 then (bif rdRn (R.nV b) (R.nR b) (rNo R b) 21 then false else Nat.beq (rdRl (R.nV b) (R.nR b) (rNo R b) 21).length 0) else false
def rdLL (R : OB) (b : List Int) : List (List (List Int)) := rdL (R.nV b) (R.nR b) (rNo R b) 21
theorem isH_by {O : OO} (hO : O = oo) (m : Nat → Int) (h : byB (tabI m 32) = true) : O.isH (AV m) = true := by
 subst hO
 have e : oo.isH (AV m) = isHa (AV m) := by kernel_rfl
 rw [e]
 refine isHa_AV (tab32 m) fun x hx => ?_
 unfold byB at h
 have := List.all_eq_true.1 h x hx
 simp only [Bool.and_eq_true, Bool.or_eq_true, Sx.iLt_t, Sx.iLt_f, Sx.iLe_t, Sx.iLe_f, Sx.iEq_t, Sx.iEq_f, Sx.iBeq_t, Sx.iBeq_f, Sx.iBne_t, Sx.iBne_f, Nat.ble_eq, Nat.beq_eq, Sx.Cont.n] at this
 exact this
theorem byB_sub {l l' : List Int} (h : byB l = true) (hs : ∀ x ∈ l', x ∈ l) : byB l' = true := by
 unfold byB at h ⊢
 exact List.all_eq_true.2 fun x hx => List.all_eq_true.1 h x (hs x hx)
theorem nR_by (b : List Int) (h : byB b = true) : byB (bO.nR b) = true := by
 show byB (bif (numG b 10 0 0).1 then b.drop (numG b 10 0 0).2.2 else []) = true
 cases (numG b 10 0 0).1
 ·rfl
 ·exact byB_sub h fun x hx => List.mem_of_mem_drop hx
theorem nR_len (b : List Int) : (bO.nR b).length ≤ b.length := by
 show (bif (numG b 10 0 0).1 then b.drop (numG b 10 0 0).2.2 else []).length ≤ _
 cases (numG b 10 0 0).1
 ·exact Nat.zero_le _
 ·show (b.drop _).length ≤ _
  rw [List.length_drop]; omega
theorem hshR_sub (l : List Int) (no : Bool) : (∀ x ∈ hshR l no, x ∈ l) ∧ (hshR l no).length ≤ l.length := by
 unfold hshR
 cases hshB l no
 ·exact ⟨fun x hx => List.mem_of_mem_drop hx, by show (l.drop 32).length ≤ _; rw [List.length_drop]; omega⟩
 ·exact ⟨fun x hx => (by cases hx), Nat.zero_le _⟩
theorem rdRl_sub (n : Int) (l : List Int) (no : Bool) : ∀ h, (∀ x ∈ rdRl n l no h, x ∈ l) ∧ (rdRl n l no h).length ≤ l.length
 | 0 => ⟨fun _ h => h, Nat.le_refl _⟩
 | h + 1 => by
  have ih := rdRl_sub n l no h
  have e : rdRl n l no (h + 1) = bif rdS n h then hshR (rdRl n l no h) (rdRn n l no h) else rdRl n l no h := by
   show (bif rdS n h then _ else _ : List Int × Bool).1 = _
   cases rdS n h <;> rfl
  rw [e]
  cases rdS n h
  ·exact ih
  ·have k := hshR_sub (rdRl n l no h) (rdRn n l no h)
   exact ⟨fun x hx => ih.1 x (k.1 x hx), Nat.le_trans k.2 ih.2⟩
theorem rdRl_len (n : Int) (l : List Int) (no : Bool) (h : Nat) : (rdRl n l no h).length ≤ l.length := (rdRl_sub n l no h).2
theorem rdRl_by (n : Int) (l : List Int) (no : Bool) (hb : byB l = true) (h : Nat) : byB (rdRl n l no h) = true := byB_sub hb (rdRl_sub n l no h).1
theorem tab_by (f : Nat → Int) (h : ∀ i, 0 ≤ f i ∧ f i < 256) : ∀ n, byB (tabI f n) = true
 | 0 => rfl
 | n + 1 => by
  have ih := tab_by f h n
  unfold byB at ih ⊢
  rw [tabI, List.all_append, ih, List.all_cons, List.all_nil]
  have := h n
  simp only [Bool.true_and, Bool.and_true, Bool.and_eq_true, Bool.or_eq_true, Sx.iLt_t, Sx.iLt_f, Sx.iLe_t, Sx.iLe_f, Sx.iEq_t, Sx.iEq_f, Sx.iBeq_t, Sx.iBeq_f, Sx.iBne_t, Sx.iBne_f, Nat.ble_eq, Nat.beq_eq, Sx.Cont.n]
  exact this
theorem byB_at {l : List Int} (h : byB l = true) (i : Nat) : 0 ≤ l.getD i 0 ∧ l.getD i 0 < 256 := by
 by_cases hi : i < l.length
 ·rw [List.getD_eq_getElem?_getD, List.getElem?_eq_getElem hi]
  have := List.all_eq_true.1 h _ (List.getElem_mem hi)
  simp only [Bool.and_eq_true, Bool.or_eq_true, Sx.iLt_t, Sx.iLt_f, Sx.iLe_t, Sx.iLe_f, Sx.iEq_t, Sx.iEq_f, Sx.iBeq_t, Sx.iBeq_f, Sx.iBne_t, Sx.iBne_f, Nat.ble_eq, Nat.beq_eq, Sx.Cont.n] at this
  exact this
 ·rw [List.getD_eq_getElem?_getD, List.getElem?_eq_none (by omega)]; decide
theorem hsh_by (l : List Int) (no : Bool) (hb : byB l = true) : byB (tabI (hsh l no) 32) = true := by
 refine tab_by _ (fun i => ?_) 32
 unfold hsh hashF
 have : byB (bif hshB l no then [] else l.take 32) = true := by
  cases hshB l no
  ·exact byB_sub hb fun x hx => List.mem_of_mem_take hx
  ·rfl
 cases Nat.blt i (bif hshB l no then [] else l.take 32).length
 ·exact ⟨by show (0 : Int) ≤ 0; decide, by show (0 : Int) < 256; decide⟩
 ·exact byB_at this i
theorem okL_set {O : OO} {L : List (List (List Int))} (h : okL O L = true) {i : Nat} {y : List Int} (hy : O.isH (AV (hK y)) = true) : okL O (L.set i [y]) = true := by
 unfold okL at h ⊢
 simp only [Bool.and_eq_true, Nat.beq_eq] at h ⊢
 refine ⟨by rw [List.length_set]; exact h.1, ?_⟩
 refine List.all_eq_true.2 fun e he => ?_
 rcases List.mem_or_eq_of_mem_set he with k | k
 ·exact List.all_eq_true.1 h.2 e k
 ·subst k; unfold okE; rw [List.all_cons, List.all_nil, hy]; rfl
theorem rdL_ok {O : OO} (hB : ∀ m : Nat → Int, byB (tabI m 32) = true → O.isH (AV m) = true) (n : Int) (l : List Int) (no : Bool) (hb : byB l = true) : ∀ h, okL O (rdL n l no h) = true
 | 0 => by
  show okL O (List.replicate 21 []) = true
  rfl
 | h + 1 => by
  have ih := rdL_ok hB n l no hb h
  show okL O (bif rdS n h then (rdL n l no h).set h [lstP n h :: tabI (hsh (rdRl n l no h) (rdRn n l no h)) 32] else rdL n l no h) = true
  cases rdS n h
  ·exact ih
  ·refine okL_set ih ?_
   rw [hK_cons]
   exact hB _ (hsh_by _ _ (rdRl_by n l no hb h))
theorem rdB_up (W : OW) (n : Int) (l : List Int) (no : Bool) {h : Nat} : ∀ {k : Nat}, h ≤ k → rdB W n l no h = false → rdB W n l no k = false
 | 0, hk, e => by
  have : h = 0 := by omega
  subst this; exact e
 | k + 1, hk, e => by
  by_cases q : h = k + 1
  ·subst q; exact e
  ·have ih := rdB_up W n l no (k := k) (by omega) e
   show (bif rdB W n l no k then _ else false) = false
   rw [ih]; rfl
def p_read (O : OO) (R : OB) (W : OW) (b : List Int) (bs : List Bool) : Post := match bs with
 | [false] => ⟨[.v (.pointer none), .v (.bool false)], []⟩
 | [true] => ⟨[.ptr 1 0, .v (.bool true)], [(1, .blk 54 (.v (.int .i64 (R.nV b)) :: selList 2 21 0)), (2, .sels KK (rdLL R b))]⟩
 | _ => ⟨[], []⟩
def g_read (O : OO) (R : OB) (W : OW) (ds : List Dt) : Option (Bool × List Bool × (List Bool → Post)) := match ds with
 | [.ints b] => some ((Nat.ble b.length 1000000) && (byB b) && (iLe 0 (R.nV b)), [rdOk R W b], p_read O R W b)
 | _ => none
set_option maxHeartbeats 4000000 in
theorem vc_read_t (O : OO) (R : OB) (W : OW) (b : List Int) (X : Prop) (Y : Nat → Prop) (F : FO O) (hr : R = bO) (hw : W = wO O) (h0 : (Nat.ble b.length 1000000) = true) (h1 : (byB b) = true) (h2 : (iLe 0 (R.nV b)) = true) (hB : ∀ m : Nat → Int, byB (tabI m 32) = true → O.isH (AV m) = true)  (hX : rdOk R W b = false → X) (hY : rdOk R W b = true → Y 21) :
 If (b.length.ble 1000000) (If (b.length.ble 1000000) (If (!!bif R.nOk b then false else true) X (If (iLt 1048576 (R.nV b)) X ((∃ (x : Nat), (x ≤ 21 ∧ rdB W (R.nV b) (R.nR b) (rNo R
  b) x = true) ∧ (Value.int .i64 0 = Value.int .i64 (iOf x) ∧ Value.pointer none = Value.pointer none ∧ Value.bool false = Value.bool false ∧ True) ∧ Value.bool (bif R.nOk b then
  false else true) = Value.bool (rdRn (R.nV b) (R.nR b) (rNo R b) x) ∧ EqI (R.nR b) (rdRl (R.nV b) (R.nR b) (rNo R b) x) ∧ Value.int .i64 (R.nV b) = Value.int .i64 (R.nV b) ∧
  List.replicate 21 [] = rdL (R.nV b) (R.nR b) (rNo R b) x ∧ EqI b b ∧ EqI b b ∧ True) ∧ ∀ (x : Nat), x ≤ 21 ∧ rdB W (R.nV b) (R.nR b) (rNo R b) x = true → If (iLt (iOf x) 21) (If
  (iLe 0 (R.nV b) && iLe (R.nV b) 1048576 && (iLe 0 (iOf x) && iLe (iOf x) 20)) (If (!lstB (R.nV b) (iOf x)) (∃ (x' : Nat), (x' ≤ 21 ∧ rdB W (R.nV b) (R.nR b) (rNo R b) x' = true) ∧
  (nSub 21 x').succ ≤ nSub 21 x ∧ (Value.int .i64 (IntKind.i64.wrap (iAdd (iOf x) 1)) = Value.int .i64 (iOf x') ∧ Value.pointer none = Value.pointer none ∧ Value.bool false =
  Value.bool false ∧ True) ∧ Value.bool (rdRn (R.nV b) (R.nR b) (rNo R b) x) = Value.bool (rdRn (R.nV b) (R.nR b) (rNo R b) x') ∧ EqI (rdRl (R.nV b) (R.nR b) (rNo R b) x) (rdRl (R.nV
  b) (R.nR b) (rNo R b) x') ∧ Value.int .i64 (R.nV b) = Value.int .i64 (R.nV b) ∧ rdL (R.nV b) (R.nR b) (rNo R b) x = rdL (R.nV b) (R.nR b) (rNo R b) x' ∧ EqI b b ∧ EqI b b ∧ True)
  (If (iBeq (R.nV b) 0) (∃ (x' : Nat), (x' ≤ 21 ∧ rdB W (R.nV b) (R.nR b) (rNo R b) x' = true) ∧ (nSub 21 x').succ ≤ nSub 21 x ∧ (Value.int .i64 (IntKind.i64.wrap (iAdd (iOf x) 1)) =
  Value.int .i64 (iOf x') ∧ Value.pointer none = Value.pointer none ∧ Value.bool false = Value.bool false ∧ True) ∧ Value.bool (rdRn (R.nV b) (R.nR b) (rNo R b) x) = Value.bool (rdRn
  (R.nV b) (R.nR b) (rNo R b) x') ∧ EqI (rdRl (R.nV b) (R.nR b) (rNo R b) x) (rdRl (R.nV b) (R.nR b) (rNo R b) x') ∧ Value.int .i64 (R.nV b) = Value.int .i64 (R.nV b) ∧ rdL (R.nV b)
  (R.nR b) (rNo R b) x = rdL (R.nV b) (R.nR b) (rNo R b) x' ∧ EqI b b ∧ EqI b b ∧ True) (If ((rdRl (R.nV b) (R.nR b) (rNo R b) x).length.ble 1000000) (If (iLe 0 (iOf x) && (iOf
  x).toNat.blt 21) (If ((rdL (R.nV b) (R.nR b) (rNo R b) x).length.beq (nSub 22 1) && (iOf x).toNat.blt (nSub 22 1)) (If (iLe 0 0 && iLe 0 (iOf x) && iLe (iOf x) (iOf 21)) (∃ (x0 :
  Nat × Nat), (x0.2 ≤ x0.1 ∧ cmsAll W (rdL (R.nV b) (R.nR b) (rNo R b) x0.1) (iOf x0.1) (lstP (R.nV b) (iOf x0.1)) (AV (hsh (rdRl (R.nV b) (R.nR b) (rNo R b) x0.1) (rdRn (R.nV b)
  (R.nR b) (rNo R b) x0.1))) x0.2 = true) ∧ ((Value.int .i64 (iOf x) = Value.int .i64 (iOf x0.1) ∧ Value.int .i64 0 = Value.int .i64 (iOf x0.2) ∧ Value.pointer none = Value.pointer
  none ∧ Value.bool false = Value.bool false ∧ Value.int .i64 (iOf x) = Value.int .i64 (iOf x) ∧ Value.int .i64 (lstP (R.nV b) (iOf x)) = Value.int .i64 (lstP (R.nV b) (iOf x)) ∧
  Value.bool (lstB (R.nV b) (iOf x)) = Value.bool (lstB (R.nV b) (iOf x)) ∧ (1 = 1 ∧ nSub (iOf x).toNat 0 = nSub (iOf x).toNat 0 ∧ 21 = 21) ∧ Value.int .i64 (iOf (nSub (iOf x).toNat
  0)) = Value.int .i64 (iOf (nSub (iOf x).toNat 0)) ∧ True) ∧ EqI b b ∧ Value.int .i64 (R.nV b) = Value.int .i64 (R.nV b) ∧ (rdL (R.nV b) (R.nR b) (rNo R b) x).set (iOf x).toNat
  [(lstP (R.nV b) (iOf x) :: tabI (hsh (rdRl (R.nV b) (R.nR b) (rNo R b) x) (rdRn (R.nV b) (R.nR b) (rNo R b) x)) 32)] = (rdL (R.nV b) (R.nR b) (rNo R b) x).set (iOf x).toNat [(lstP
  (R.nV b) (iOf x) :: tabI (hsh (rdRl (R.nV b) (R.nR b) (rNo R b) x) (rdRn (R.nV b) (R.nR b) (rNo R b) x)) 32)] ∧ Value.bool (hshN (rdRl (R.nV b) (R.nR b) (rNo R b) x) (rdRn (R.nV b)
  (R.nR b) (rNo R b) x)) = Value.bool (hshN (rdRl (R.nV b) (R.nR b) (rNo R b) x) (rdRn (R.nV b) (R.nR b) (rNo R b) x)) ∧ EqI (hshR (rdRl (R.nV b) (R.nR b) (rNo R b) x) (rdRn (R.nV b)
  (R.nR b) (rNo R b) x)) (hshR (rdRl (R.nV b) (R.nR b) (rNo R b) x) (rdRn (R.nV b) (R.nR b) (rNo R b) x)) ∧ EqI (rdRl (R.nV b) (R.nR b) (rNo R b) x) (rdRl (R.nV b) (R.nR b) (rNo R b)
  x) ∧ rdL (R.nV b) (R.nR b) (rNo R b) x = rdL (R.nV b) (R.nR b) (rNo R b) x ∧ EqI b b ∧ True) ∧ ∀ (x_1 : Nat × Nat), x_1.2 ≤ x_1.1 ∧ cmsAll W (rdL (R.nV b) (R.nR b) (rNo R b) x_1.1)
  (iOf x_1.1) (lstP (R.nV b) (iOf x_1.1)) (AV (hsh (rdRl (R.nV b) (R.nR b) (rNo R b) x_1.1) (rdRn (R.nV b) (R.nR b) (rNo R b) x_1.1))) x_1.2 = true → x_1.1 = x0.1 → If (iLt (iOf
  x_1.snd) (iOf (nSub (iOf x).toNat (Int.toNat 0)))) (If (iLe 0 (iOf x_1.snd) && (iOf x_1.2).toNat.blt (nSub (iOf x).toNat 0)) (If (((rdL (R.nV b) (R.nR b) (rNo R b) x).set (iOf
  x).toNat [(lstP (R.nV b) (iOf x) :: tabI (hsh (rdRl (R.nV b) (R.nR b) (rNo R b) x) (rdRn (R.nV b) (R.nR b) (rNo R b) x)) 32)]).length.beq 21 && (iOf x_1.2).toNat.blt 21) (If
  (!(((rdL (R.nV b) (R.nR b) (rNo R b) x).set (iOf x).toNat [(lstP (R.nV b) (iOf x) :: tabI (hsh (rdRl (R.nV b) (R.nR b) (rNo R b) x) (rdRn (R.nV b) (R.nR b) (rNo R b) x)) 32)]).getD
  (iOf x_1.2).toNat []).length.beq 0) (If (Nat.blt 0 (((rdL (R.nV b) (R.nR b) (rNo R b) x).set (iOf x).toNat [(lstP (R.nV b) (iOf x) :: tabI (hsh (rdRl (R.nV b) (R.nR b) (rNo R b) x)
  (rdRn (R.nV b) (R.nR b) (rNo R b) x)) 32)]).getD (iOf x_1.2).toNat []).length) (If (Nat.blt 0 (((rdL (R.nV b) (R.nR b) (rNo R b) x).set (iOf x).toNat [(lstP (R.nV b) (iOf x) :: tabI
  (hsh (rdRl (R.nV b) (R.nR b) (rNo R b) x) (rdRn (R.nV b) (R.nR b) (rNo R b) x)) 32)]).getD (iOf x_1.2).toNat []).length) (If (true && Nat.beq 33 33 && Nat.blt 0 (((rdL (R.nV b)
  (R.nR b) (rNo R b) x).set (iOf x).toNat [(lstP (R.nV b) (iOf x) :: tabI (hsh (rdRl (R.nV b) (R.nR b) (rNo R b) x) (rdRn (R.nV b) (R.nR b) (rNo R b) x)) 32)]).getD (iOf x_1.2).toNat
  []).length) (If (iBeq ((((((rdL (R.nV b) (R.nR b) (rNo R b) x).set (iOf x).toNat [(lstP (R.nV b) (iOf x) :: tabI (hsh (rdRl (R.nV b) (R.nR b) (rNo R b) x) (rdRn (R.nV b) (R.nR b)
  (rNo R b) x)) 32)]).getD (iOf x_1.2).toNat []).getD 0 []).getD 0 0).fdiv (iPow 2 (min (iOf x).toNat 64))) ((lstP (R.nV b) (iOf x)).fdiv (iPow 2 (min (iOf x).toNat 64)))) (If (iLe 0
  (iOf x) && (iOf x).toNat.blt 21) (If (((rdL (R.nV b) (R.nR b) (rNo R b) x).set (iOf x).toNat [(lstP (R.nV b) (iOf x) :: tabI (hsh (rdRl (R.nV b) (R.nR b) (rNo R b) x) (rdRn (R.nV b)
  (R.nR b) (rNo R b) x)) 32)]).length.beq 21 && (iOf x).toNat.blt 21) (If (Nat.blt 0 (((rdL (R.nV b) (R.nR b) (rNo R b) x).set (iOf x).toNat [(lstP (R.nV b) (iOf x) :: tabI (hsh (rdRl
  (R.nV b) (R.nR b) (rNo R b) x) (rdRn (R.nV b) (R.nR b) (rNo R b) x)) 32)]).getD (iOf x).toNat []).length) (If (Nat.blt 0 (((rdL (R.nV b) (R.nR b) (rNo R b) x).set (iOf x).toNat
  [(lstP (R.nV b) (iOf x) :: tabI (hsh (rdRl (R.nV b) (R.nR b) (rNo R b) x) (rdRn (R.nV b) (R.nR b) (rNo R b) x)) 32)]).getD (iOf x).toNat []).length) (If (true && Nat.beq 33 33 &&
  Nat.blt 0 (((rdL (R.nV b) (R.nR b) (rNo R b) x).set (iOf x).toNat [(lstP (R.nV b) (iOf x) :: tabI (hsh (rdRl (R.nV b) (R.nR b) (rNo R b) x) (rdRn (R.nV b) (R.nR b) (rNo R b) x))
  32)]).getD (iOf x).toNat []).length) (If (Nat.blt 0 (((rdL (R.nV b) (R.nR b) (rNo R b) x).set (iOf x).toNat [(lstP (R.nV b) (iOf x) :: tabI (hsh (rdRl (R.nV b) (R.nR b) (rNo R b) x)
  (rdRn (R.nV b) (R.nR b) (rNo R b) x)) 32)]).getD (iOf x_1.2).toNat []).length) (If (Nat.blt 0 (((rdL (R.nV b) (R.nR b) (rNo R b) x).set (iOf x).toNat [(lstP (R.nV b) (iOf x) :: tabI
  (hsh (rdRl (R.nV b) (R.nR b) (rNo R b) x) (rdRn (R.nV b) (R.nR b) (rNo R b) x)) 32)]).getD (iOf x_1.2).toNat []).length) (If (true && Nat.beq 33 33 && Nat.blt 0 (((rdL (R.nV b)
  (R.nR b) (rNo R b) x).set (iOf x).toNat [(lstP (R.nV b) (iOf x) :: tabI (hsh (rdRl (R.nV b) (R.nR b) (rNo R b) x) (rdRn (R.nV b) (R.nR b) (rNo R b) x)) 32)]).getD (iOf x_1.2).toNat
  []).length) (If (iLe 0 (iOf x) && iLe (iOf x) 20 && O.isH (AV (hK ((((rdL (R.nV b) (R.nR b) (rNo R b) x).set (iOf x).toNat [(lstP (R.nV b) (iOf x) :: tabI (hsh (rdRl (R.nV b) (R.nR
  b) (rNo R b) x) (rdRn (R.nV b) (R.nR b) (rNo R b) x)) 32)]).getD (iOf x).toNat []).getD 0 [])))) (If (iLe 0 (iOf x_1.snd) && (iOf x_1.2).toNat.blt 21) (If (((rdL (R.nV b) (R.nR b)
  (rNo R b) x).set (iOf x).toNat [(lstP (R.nV b) (iOf x) :: tabI (hsh (rdRl (R.nV b) (R.nR b) (rNo R b) x) (rdRn (R.nV b) (R.nR b) (rNo R b) x)) 32)]).length.beq 21 && (iOf
  x_1.2).toNat.blt 21) (If (Nat.blt 0 (((rdL (R.nV b) (R.nR b) (rNo R b) x).set (iOf x).toNat [(lstP (R.nV b) (iOf x) :: tabI (hsh (rdRl (R.nV b) (R.nR b) (rNo R b) x) (rdRn (R.nV b)
  (R.nR b) (rNo R b) x)) 32)]).getD (iOf x_1.2).toNat []).length) (If (Nat.blt 0 (((rdL (R.nV b) (R.nR b) (rNo R b) x).set (iOf x).toNat [(lstP (R.nV b) (iOf x) :: tabI (hsh (rdRl
  (R.nV b) (R.nR b) (rNo R b) x) (rdRn (R.nV b) (R.nR b) (rNo R b) x)) 32)]).getD (iOf x_1.2).toNat []).length) (If (true && Nat.beq 33 33 && Nat.blt 0 (((rdL (R.nV b) (R.nR b) (rNo R
  b) x).set (iOf x).toNat [(lstP (R.nV b) (iOf x) :: tabI (hsh (rdRl (R.nV b) (R.nR b) (rNo R b) x) (rdRn (R.nV b) (R.nR b) (rNo R b) x)) 32)]).getD (iOf x_1.2).toNat []).length) (If
  (!eqv (AV (W.cm (iOf x) (((((rdL (R.nV b) (R.nR b) (rNo R b) x).set (iOf x).toNat [(lstP (R.nV b) (iOf x) :: tabI (hsh (rdRl (R.nV b) (R.nR b) (rNo R b) x) (rdRn (R.nV b) (R.nR b)
  (rNo R b) x)) 32)]).getD (iOf x_1.2).toNat []).getD 0 []).getD 0 0) (AV (hK ((((rdL (R.nV b) (R.nR b) (rNo R b) x).set (iOf x).toNat [(lstP (R.nV b) (iOf x) :: tabI (hsh (rdRl (R.nV
  b) (R.nR b) (rNo R b) x) (rdRn (R.nV b) (R.nR b) (rNo R b) x)) 32)]).getD (iOf x).toNat []).getD 0 [])))) ) (AV (hK ((((rdL (R.nV b) (R.nR b) (rNo R b) x).set (iOf x).toNat [(lstP
  (R.nV b) (iOf x) :: tabI (hsh (rdRl (R.nV b) (R.nR b) (rNo R b) x) (rdRn (R.nV b) (R.nR b) (rNo R b) x)) 32)]).getD (iOf x_1.2).toNat []).getD 0 [])))) X (∃ (x' : Nat × Nat), (x'.2
  ≤ x'.1 ∧ cmsAll W (rdL (R.nV b) (R.nR b) (rNo R b) x'.1) (iOf x'.1) (lstP (R.nV b) (iOf x'.1)) (AV (hsh (rdRl (R.nV b) (R.nR b) (rNo R b) x'.1) (rdRn (R.nV b) (R.nR b) (rNo R b)
  x'.1))) x'.2 = true) ∧ x'.1 = x0.1 ∧ (nSub 21 x'.2).succ ≤ nSub 21 x_1.2 ∧ (Value.int .i64 (iOf x_1.1) = Value.int .i64 (iOf x'.1) ∧ Value.int .i64 (IntKind.i64.wrap (iAdd (iOf
  x_1.2) 1)) = Value.int .i64 (iOf x'.2) ∧ Value.pointer none = Value.pointer none ∧ Value.bool false = Value.bool false ∧ Value.int .i64 (iOf x) = Value.int .i64 (iOf x) ∧ Value.int
  .i64 (lstP (R.nV b) (iOf x)) = Value.int .i64 (lstP (R.nV b) (iOf x)) ∧ Value.bool (lstB (R.nV b) (iOf x)) = Value.bool (lstB (R.nV b) (iOf x)) ∧ (1 = 1 ∧ nSub (iOf x).toNat 0 =
  nSub (iOf x).toNat 0 ∧ 21 = 21) ∧ Value.int .i64 (iOf (nSub (iOf x).toNat 0)) = Value.int .i64 (iOf (nSub (iOf x).toNat 0)) ∧ True) ∧ EqI b b ∧ Value.int .i64 (R.nV b) = Value.int
  .i64 (R.nV b) ∧ (rdL (R.nV b) (R.nR b) (rNo R b) x).set (iOf x).toNat [(lstP (R.nV b) (iOf x) :: tabI (hsh (rdRl (R.nV b) (R.nR b) (rNo R b) x) (rdRn (R.nV b) (R.nR b) (rNo R b) x))
  32)] = (rdL (R.nV b) (R.nR b) (rNo R b) x).set (iOf x).toNat [(lstP (R.nV b) (iOf x) :: tabI (hsh (rdRl (R.nV b) (R.nR b) (rNo R b) x) (rdRn (R.nV b) (R.nR b) (rNo R b) x)) 32)] ∧
  Value.bool (hshN (rdRl (R.nV b) (R.nR b) (rNo R b) x) (rdRn (R.nV b) (R.nR b) (rNo R b) x)) = Value.bool (hshN (rdRl (R.nV b) (R.nR b) (rNo R b) x) (rdRn (R.nV b) (R.nR b) (rNo R b)
  x)) ∧ EqI (hshR (rdRl (R.nV b) (R.nR b) (rNo R b) x) (rdRn (R.nV b) (R.nR b) (rNo R b) x)) (hshR (rdRl (R.nV b) (R.nR b) (rNo R b) x) (rdRn (R.nV b) (R.nR b) (rNo R b) x)) ∧ EqI
  (rdRl (R.nV b) (R.nR b) (rNo R b) x) (rdRl (R.nV b) (R.nR b) (rNo R b) x) ∧ rdL (R.nV b) (R.nR b) (rNo R b) x = rdL (R.nV b) (R.nR b) (rNo R b) x ∧ EqI b b ∧ True)) False) False)
  False) False) False) False) False) False) False) False) False) False) False) False) (∃ (x' : Nat × Nat), (x'.2 ≤ x'.1 ∧ cmsAll W (rdL (R.nV b) (R.nR b) (rNo R b) x'.1) (iOf x'.1)
  (lstP (R.nV b) (iOf x'.1)) (AV (hsh (rdRl (R.nV b) (R.nR b) (rNo R b) x'.1) (rdRn (R.nV b) (R.nR b) (rNo R b) x'.1))) x'.2 = true) ∧ x'.1 = x0.1 ∧ (nSub 21 x'.2).succ ≤ nSub 21
  x_1.2 ∧ (Value.int .i64 (iOf x_1.1) = Value.int .i64 (iOf x'.1) ∧ Value.int .i64 (IntKind.i64.wrap (iAdd (iOf x_1.2) 1)) = Value.int .i64 (iOf x'.2) ∧ Value.pointer none =
  Value.pointer none ∧ Value.bool false = Value.bool false ∧ Value.int .i64 (iOf x) = Value.int .i64 (iOf x) ∧ Value.int .i64 (lstP (R.nV b) (iOf x)) = Value.int .i64 (lstP (R.nV b)
  (iOf x)) ∧ Value.bool (lstB (R.nV b) (iOf x)) = Value.bool (lstB (R.nV b) (iOf x)) ∧ (1 = 1 ∧ nSub (iOf x).toNat 0 = nSub (iOf x).toNat 0 ∧ 21 = 21) ∧ Value.int .i64 (iOf (nSub (iOf
  x).toNat 0)) = Value.int .i64 (iOf (nSub (iOf x).toNat 0)) ∧ True) ∧ EqI b b ∧ Value.int .i64 (R.nV b) = Value.int .i64 (R.nV b) ∧ (rdL (R.nV b) (R.nR b) (rNo R b) x).set (iOf
  x).toNat [(lstP (R.nV b) (iOf x) :: tabI (hsh (rdRl (R.nV b) (R.nR b) (rNo R b) x) (rdRn (R.nV b) (R.nR b) (rNo R b) x)) 32)] = (rdL (R.nV b) (R.nR b) (rNo R b) x).set (iOf x).toNat
  [(lstP (R.nV b) (iOf x) :: tabI (hsh (rdRl (R.nV b) (R.nR b) (rNo R b) x) (rdRn (R.nV b) (R.nR b) (rNo R b) x)) 32)] ∧ Value.bool (hshN (rdRl (R.nV b) (R.nR b) (rNo R b) x) (rdRn
  (R.nV b) (R.nR b) (rNo R b) x)) = Value.bool (hshN (rdRl (R.nV b) (R.nR b) (rNo R b) x) (rdRn (R.nV b) (R.nR b) (rNo R b) x)) ∧ EqI (hshR (rdRl (R.nV b) (R.nR b) (rNo R b) x) (rdRn
  (R.nV b) (R.nR b) (rNo R b) x)) (hshR (rdRl (R.nV b) (R.nR b) (rNo R b) x) (rdRn (R.nV b) (R.nR b) (rNo R b) x)) ∧ EqI (rdRl (R.nV b) (R.nR b) (rNo R b) x) (rdRl (R.nV b) (R.nR b)
  (rNo R b) x) ∧ rdL (R.nV b) (R.nR b) (rNo R b) x = rdL (R.nV b) (R.nR b) (rNo R b) x ∧ EqI b b ∧ True)) False) False) False) (∃ (x' : Nat × Nat), (x'.2 ≤ x'.1 ∧ cmsAll W (rdL (R.nV
  b) (R.nR b) (rNo R b) x'.1) (iOf x'.1) (lstP (R.nV b) (iOf x'.1)) (AV (hsh (rdRl (R.nV b) (R.nR b) (rNo R b) x'.1) (rdRn (R.nV b) (R.nR b) (rNo R b) x'.1))) x'.2 = true) ∧ x'.1 =
  x0.1 ∧ (nSub 21 x'.2).succ ≤ nSub 21 x_1.2 ∧ (Value.int .i64 (iOf x_1.1) = Value.int .i64 (iOf x'.1) ∧ Value.int .i64 (IntKind.i64.wrap (iAdd (iOf x_1.2) 1)) = Value.int .i64 (iOf
  x'.2) ∧ Value.pointer none = Value.pointer none ∧ Value.bool false = Value.bool false ∧ Value.int .i64 (iOf x) = Value.int .i64 (iOf x) ∧ Value.int .i64 (lstP (R.nV b) (iOf x)) =
  Value.int .i64 (lstP (R.nV b) (iOf x)) ∧ Value.bool (lstB (R.nV b) (iOf x)) = Value.bool (lstB (R.nV b) (iOf x)) ∧ (1 = 1 ∧ nSub (iOf x).toNat 0 = nSub (iOf x).toNat 0 ∧ 21 = 21) ∧
  Value.int .i64 (iOf (nSub (iOf x).toNat 0)) = Value.int .i64 (iOf (nSub (iOf x).toNat 0)) ∧ True) ∧ EqI b b ∧ Value.int .i64 (R.nV b) = Value.int .i64 (R.nV b) ∧ (rdL (R.nV b) (R.nR
  b) (rNo R b) x).set (iOf x).toNat [(lstP (R.nV b) (iOf x) :: tabI (hsh (rdRl (R.nV b) (R.nR b) (rNo R b) x) (rdRn (R.nV b) (R.nR b) (rNo R b) x)) 32)] = (rdL (R.nV b) (R.nR b) (rNo
  R b) x).set (iOf x).toNat [(lstP (R.nV b) (iOf x) :: tabI (hsh (rdRl (R.nV b) (R.nR b) (rNo R b) x) (rdRn (R.nV b) (R.nR b) (rNo R b) x)) 32)] ∧ Value.bool (hshN (rdRl (R.nV b)
  (R.nR b) (rNo R b) x) (rdRn (R.nV b) (R.nR b) (rNo R b) x)) = Value.bool (hshN (rdRl (R.nV b) (R.nR b) (rNo R b) x) (rdRn (R.nV b) (R.nR b) (rNo R b) x)) ∧ EqI (hshR (rdRl (R.nV b)
  (R.nR b) (rNo R b) x) (rdRn (R.nV b) (R.nR b) (rNo R b) x)) (hshR (rdRl (R.nV b) (R.nR b) (rNo R b) x) (rdRn (R.nV b) (R.nR b) (rNo R b) x)) ∧ EqI (rdRl (R.nV b) (R.nR b) (rNo R b)
  x) (rdRl (R.nV b) (R.nR b) (rNo R b) x) ∧ rdL (R.nV b) (R.nR b) (rNo R b) x = rdL (R.nV b) (R.nR b) (rNo R b) x ∧ EqI b b ∧ True)) False) False) (∃ (x' : Nat), (x' ≤ 21 ∧ rdB W
  (R.nV b) (R.nR b) (rNo R b) x' = true) ∧ (nSub 21 x').succ ≤ nSub 21 x ∧ (Value.int .i64 (IntKind.i64.wrap (iAdd (iOf x_1.1) 1)) = Value.int .i64 (iOf x') ∧ Value.pointer none =
  Value.pointer none ∧ Value.bool false = Value.bool false ∧ True) ∧ Value.bool (hshN (rdRl (R.nV b) (R.nR b) (rNo R b) x) (rdRn (R.nV b) (R.nR b) (rNo R b) x)) = Value.bool (rdRn
  (R.nV b) (R.nR b) (rNo R b) x') ∧ EqI (hshR (rdRl (R.nV b) (R.nR b) (rNo R b) x) (rdRn (R.nV b) (R.nR b) (rNo R b) x)) (rdRl (R.nV b) (R.nR b) (rNo R b) x') ∧ Value.int .i64 (R.nV
  b) = Value.int .i64 (R.nV b) ∧ (rdL (R.nV b) (R.nR b) (rNo R b) x).set (iOf x).toNat [(lstP (R.nV b) (iOf x) :: tabI (hsh (rdRl (R.nV b) (R.nR b) (rNo R b) x) (rdRn (R.nV b) (R.nR
  b) (rNo R b) x)) 32)] = rdL (R.nV b) (R.nR b) (rNo R b) x' ∧ EqI b b ∧ EqI b b ∧ True)) False) False) False) False))) False) (If (!!rdRn (R.nV b) (R.nR b) (rNo R b) x) X (If (iLt 0
  (iOf (rdRl (R.nV b) (R.nR b) (rNo R b) x).length)) X (Y x)))))) False) False := by
 obtain ⟨n, hn⟩ : ∃ n, R.nV b = n := ⟨_, rfl⟩
 obtain ⟨l, hl⟩ : ∃ l, R.nR b = l := ⟨_, rfl⟩
 obtain ⟨no, hno⟩ : ∃ no, rNo R b = no := ⟨_, rfl⟩
 have hD : rdOk R W b = bif rBad R b then false else bif rdB W n l no 21 then (bif rdRn n l no 21 then false else Nat.beq (rdRl n l no 21).length 0) else false := by subst hn hl hno; rfl
 have hBad : rBad R b = bif no then true else iLt 1048576 n := by subst hn hno; rfl
 have hLL : rdLL R b = rdL n l no 21 := by subst hn hl hno; rfl
 have en : (bif R.nOk b then false else true) = no := by rw [← hno]; rfl
 have hlb : byB l = true ∧ l.length ≤ 1000000 := by
  rw [← hl, hr]
  simp only [Nat.ble_eq] at h0
  exact ⟨nR_by b h1, Nat.le_trans (nR_len b) h0⟩
 rw [hn] at h2
 simp only [en, hn, hl, hno]
 refine Sx.if_true h0 (Sx.if_true h0 (Sx.if_both (fun q1 => ?_) (fun q1 => Sx.if_both (fun q2 => ?_) (fun q2 => ?_))))
 ·have q : no = true := by simpa using q1
  have e : rdOk R W b = false := by rw [hD, hBad, q]; rfl
  exact hX e
 ·have q : no = false := by simpa using q1
  have e : rdOk R W b = false := by rw [hD, hBad, q, q2]; rfl
  exact hX e
 have q : no = false := by simpa using q1
 have hBad2 : rBad R b = false := by rw [hBad, q, q2]; rfl
 replace hD : rdOk R W b = bif rdB W n l no 21 then (bif rdRn n l no 21 then false else Nat.beq (rdRl n l no 21).length 0) else false := by rw [hD, hBad2]; rfl
 simp only [Bool.and_eq_true, Bool.or_eq_true, Sx.iLt_t, Sx.iLt_f, Sx.iLe_t, Sx.iLe_f, Sx.iEq_t, Sx.iEq_f, Sx.iBeq_t, Sx.iBeq_f, Sx.iBne_t, Sx.iBne_f, Nat.ble_eq, Nat.beq_eq, Sx.Cont.n] at h2 q2
 refine ⟨⟨0, ⟨by omega, rfl⟩, ⟨rfl, (by first | rfl | trivial), (by first | rfl | trivial), trivial⟩, (by first | rfl | trivial), (by first | rfl | trivial), (by first | rfl | trivial), (by first | rfl | trivial), (by first | rfl | trivial), (by first | rfl | trivial), trivial⟩, fun x ⟨c1, c2⟩ => ?_⟩
 have w1 : IntKind.i64.wrap (iAdd (iOf x) 1) = ((x + 1 : Nat) : Int) := by simp only [Sx.app, Sx.nAdd, Sx.nSub, Sx.nMul, Sx.nPow, Sx.nDiv, Sx.nMod, Sx.iAdd, Sx.iSub, Sx.iMul, Sx.iNeg, Sx.iPow, Sx.iOf]; rw [IntKind.wrap_i64]; omega
 have ex : (iOf x).toNat = x := Int.toNat_natCast x
 refine Sx.if_both (fun hlt => ?_) (fun hlt => ?_)
 ·simp only [Sx.app, Sx.nAdd, Sx.nSub, Sx.nMul, Sx.nPow, Sx.nDiv, Sx.nMod, Sx.iAdd, Sx.iSub, Sx.iMul, Sx.iNeg, Sx.iPow, Sx.iOf, Bool.and_eq_true, Bool.or_eq_true, Sx.iLt_t, Sx.iLt_f, Sx.iLe_t, Sx.iLe_f, Sx.iEq_t, Sx.iEq_f, Sx.iBeq_t, Sx.iBeq_f, Sx.iBne_t, Sx.iBne_f, Nat.ble_eq, Nat.beq_eq, Sx.Cont.n] at hlt
  have hx21 : x < 21 := by omega
  have sR : rdR n l no (x + 1) = bif rdS n x then (hshR (rdRl n l no x) (rdRn n l no x), hshN (rdRl n l no x) (rdRn n l no x)) else rdR n l no x := rfl
  have sL : rdL n l no (x + 1) = bif rdS n x then (rdL n l no x).set x [lstP n x :: tabI (hsh (rdRl n l no x) (rdRn n l no x)) 32] else rdL n l no x := rfl
  have sB : rdB W n l no (x + 1) = bif rdB W n l no x then (bif rdS n x then cmsAll W (rdL n l no x) x (lstP n x) (AV (hsh (rdRl n l no x) (rdRn n l no x))) x else true) else false := rfl
  have hS : rdS n x = bif lstB n (iOf x) then !(iBeq n 0) else false := rfl
  rw [c2] at sB
  have skip : rdS n x = false → (rdB W n l no (x + 1) = true ∧ rdRl n l no x = rdRl n l no (x + 1) ∧ rdRn n l no x = rdRn n l no (x + 1) ∧ rdL n l no x = rdL n l no (x + 1)) := fun h => by
   rw [h] at sR sL sB
   exact ⟨sB, congrArg Prod.fst sR.symm, congrArg Prod.snd sR.symm, sL.symm⟩
  refine Sx.if_true (by simp only [Sx.app, Sx.nAdd, Sx.nSub, Sx.nMul, Sx.nPow, Sx.nDiv, Sx.nMod, Sx.iAdd, Sx.iSub, Sx.iMul, Sx.iNeg, Sx.iPow, Sx.iOf, Bool.and_eq_true, Bool.or_eq_true, Sx.iLt_t, Sx.iLt_f, Sx.iLe_t, Sx.iLe_f, Sx.iEq_t, Sx.iEq_f, Sx.iBeq_t, Sx.iBeq_f, Sx.iBne_t, Sx.iBne_f, Nat.ble_eq, Nat.beq_eq, Sx.Cont.n]; omega) (Sx.if_both (fun b1 => ?_) (fun b1 => Sx.if_both (fun b2 => ?_) (fun b2 => ?_)))
  ·obtain ⟨k1, k2, k3, k4⟩ := skip (by rw [hS, show lstB n (iOf x) = false by simpa using b1]; rfl)
   exact ⟨x + 1, ⟨by omega, k1⟩, by simp only [Sx.app, Sx.nAdd, Sx.nSub, Sx.nMul, Sx.nPow, Sx.nDiv, Sx.nMod, Sx.iAdd, Sx.iSub, Sx.iMul, Sx.iNeg, Sx.iPow, Sx.iOf]; omega, ⟨by rw [w1]; rfl, (by first | rfl | trivial), (by first | rfl | trivial), trivial⟩, by rw [k3], by rw [k2], (by first | rfl | trivial), k4, (by first | rfl | trivial), (by first | rfl | trivial), trivial⟩
  ·obtain ⟨k1, k2, k3, k4⟩ := skip (by rw [hS, b2]; cases lstB n (iOf x) <;> rfl)
   exact ⟨x + 1, ⟨by omega, k1⟩, by simp only [Sx.app, Sx.nAdd, Sx.nSub, Sx.nMul, Sx.nPow, Sx.nDiv, Sx.nMod, Sx.iAdd, Sx.iSub, Sx.iMul, Sx.iNeg, Sx.iPow, Sx.iOf]; omega, ⟨by rw [w1]; rfl, (by first | rfl | trivial), (by first | rfl | trivial), trivial⟩, by rw [k3], by rw [k2], (by first | rfl | trivial), k4, (by first | rfl | trivial), (by first | rfl | trivial), trivial⟩
  have hS1 : rdS n x = true := by rw [hS, show lstB n (iOf x) = true by simpa using b1, b2]; rfl
  rw [hS1] at sR sL sB
  replace sR : rdR n l no (x + 1) = (hshR (rdRl n l no x) (rdRn n l no x), hshN (rdRl n l no x) (rdRn n l no x)) := sR
  replace sL : rdL n l no (x + 1) = (rdL n l no x).set x [lstP n x :: tabI (hsh (rdRl n l no x) (rdRn n l no x)) 32] := sL
  replace sB : rdB W n l no (x + 1) = cmsAll W (rdL n l no x) x (lstP n x) (AV (hsh (rdRl n l no x) (rdRn n l no x))) x := sB
  have hrl : (rdRl n l no x).length ≤ l.length := rdRl_len n l no x
  have hrb : byB (rdRl n l no x) = true := rdRl_by n l no hlb.1 x
  have hLok : okL O (rdL n l no x) = true := rdL_ok hB n l no hlb.1 x
  obtain ⟨hL, hE⟩ := okL_at hLok
  obtain ⟨a, ha⟩ : ∃ a, hsh (rdRl n l no x) (rdRn n l no x) = a := ⟨_, rfl⟩
  have haH : O.isH (AV a) = true := by rw [← ha]; exact hB _ (hsh_by _ _ hrb)
  obtain ⟨L0, hL0⟩ : ∃ L0, rdL n l no x = L0 := ⟨_, rfl⟩
  obtain ⟨p, hp⟩ : ∃ p, lstP n (iOf x) = p := ⟨_, rfl⟩
  have hp' : lstP n (x : Int) = p := hp
  rw [ha, hL0, hp'] at sB
  rw [ha, hL0, hp'] at sL
  rw [hL0] at hL hE
  simp only [ha, hL0, hp, ex]
  obtain ⟨L', hL'⟩ : ∃ L', L0.set x [(p :: tabI a 32)] = L' := ⟨_, rfl⟩
  have g1 : L'.length = 21 := by rw [← hL', List.length_set]; exact hL
  have g2 : L'.getD x [] = [(p :: tabI a 32)] := by rw [← hL']; exact getD_set_eq (by omega)
  have g3 : ∀ k, k < x → L'.getD k [] = L0.getD k [] := fun k hk => by rw [← hL']; exact getD_set_ne (by omega)
  have g4 : AV (hK (p :: tabI a 32)) = AV a := hK_cons p a
  simp only [hL']
  have b21 : ∀ i, i < 21 → (L'.length.beq 21 && i.blt 21) = true := fun i hi => by rw [g1, show i.blt 21 = true by rw [Nat.blt_eq]; exact hi]; rfl
  obtain ⟨E, hEe⟩ : ∃ E : Nat → Bool, ∀ k, eqv (AV (W.cm (iOf x) (((L'.getD k []).getD 0 []).getD 0 0) (AV (hK ((L'.getD x []).getD 0 []))))) (AV (hK ((L'.getD k []).getD 0 []))) = E k := ⟨_, fun _ => rfl⟩
  have q3 : (iLe 0 (iOf x) && iLe (iOf x) 20 && O.isH (AV (hK ((L'.getD x []).getD 0 [])))) = true := by
   rw [g2]
   show (_ && O.isH (AV (hK (p :: tabI a 32)))) = true
   rw [g4, haH, Bool.and_true]; simp only [Sx.app, Sx.nAdd, Sx.nSub, Sx.nMul, Sx.nPow, Sx.nDiv, Sx.nMod, Sx.iAdd, Sx.iSub, Sx.iMul, Sx.iNeg, Sx.iPow, Sx.iOf, Bool.and_eq_true, Bool.or_eq_true, Sx.iLt_t, Sx.iLt_f, Sx.iLe_t, Sx.iLe_f, Sx.iEq_t, Sx.iEq_f, Sx.iBeq_t, Sx.iBeq_f, Sx.iBne_t, Sx.iBne_f, Nat.ble_eq, Nat.beq_eq, Sx.Cont.n]; omega
  simp only [hEe, q3]
  refine Sx.if_true (by rw [Nat.ble_eq]; omega) (Sx.if_true (by rw [show x.blt 21 = true by rw [Nat.blt_eq]; omega, Bool.and_true]; simp only [Sx.app, Sx.nAdd, Sx.nSub, Sx.nMul, Sx.nPow, Sx.nDiv, Sx.nMod, Sx.iAdd, Sx.iSub, Sx.iMul, Sx.iNeg, Sx.iPow, Sx.iOf, Bool.and_eq_true, Bool.or_eq_true, Sx.iLt_t, Sx.iLt_f, Sx.iLe_t, Sx.iLe_f, Sx.iEq_t, Sx.iEq_f, Sx.iBeq_t, Sx.iBeq_f, Sx.iBne_t, Sx.iBne_f, Nat.ble_eq, Nat.beq_eq, Sx.Cont.n]; omega) (Sx.if_true (by rw [hL, show x.blt (nSub 22 1) = true by rw [Nat.blt_eq]; simp only [Sx.app, Sx.nAdd, Sx.nSub, Sx.nMul, Sx.nPow, Sx.nDiv, Sx.nMod, Sx.iAdd, Sx.iSub, Sx.iMul, Sx.iNeg, Sx.iPow, Sx.iOf]; omega]; rfl) (Sx.if_true (by simp only [Sx.app, Sx.nAdd, Sx.nSub, Sx.nMul, Sx.nPow, Sx.nDiv, Sx.nMod, Sx.iAdd, Sx.iSub, Sx.iMul, Sx.iNeg, Sx.iPow, Sx.iOf, Bool.and_eq_true, Bool.or_eq_true, Sx.iLt_t, Sx.iLt_f, Sx.iLe_t, Sx.iLe_f, Sx.iEq_t, Sx.iEq_f, Sx.iBeq_t, Sx.iBeq_f, Sx.iBne_t, Sx.iBne_f, Nat.ble_eq, Nat.beq_eq, Sx.Cont.n]; omega) ?_)))
  refine ⟨(x, 0), ⟨Nat.zero_le _, rfl⟩, ⟨⟨(by first | rfl | trivial), (by first | rfl | trivial), (by first | rfl | trivial), (by first | rfl | trivial), (by first | rfl | trivial), (by first | rfl | trivial), (by first | rfl | trivial), ⟨(by first | rfl | trivial), (by first | rfl | trivial), (by first | rfl | trivial)⟩, (by first | rfl | trivial), trivial⟩, (by first | rfl | trivial), (by first | rfl | trivial), (by first | rfl | trivial), (by first | rfl | trivial), (by first | rfl | trivial), (by first | rfl | trivial), (by first | rfl | trivial), (by first | rfl | trivial), trivial⟩, fun ⟨a1, k⟩ ⟨d1, d2⟩ d3 => ?_⟩
  replace d3 : a1 = x := d3
  subst d3
  replace d1 : k ≤ a1 := d1
  replace d2 : cmsAll W (rdL n l no a1) (a1 : Int) (lstP n (a1 : Int)) (AV (hsh (rdRl n l no a1) (rdRn n l no a1))) k = true := d2
  have d2' := d2
  rw [ha, hL0, hp'] at d2'
  have w2 : IntKind.i64.wrap (iAdd (iOf k) 1) = ((k + 1 : Nat) : Int) := by simp only [Sx.app, Sx.nAdd, Sx.nSub, Sx.nMul, Sx.nPow, Sx.nDiv, Sx.nMod, Sx.iAdd, Sx.iSub, Sx.iMul, Sx.iNeg, Sx.iPow, Sx.iOf]; rw [IntKind.wrap_i64]; omega
  have ek : (iOf k).toNat = k := Int.toNat_natCast k
  refine Sx.if_both (fun hlt2 => ?_) (fun hlt2 => ?_)
  ·simp only [Sx.app, Sx.nAdd, Sx.nSub, Sx.nMul, Sx.nPow, Sx.nDiv, Sx.nMod, Sx.iAdd, Sx.iSub, Sx.iMul, Sx.iNeg, Sx.iPow, Sx.iOf, Bool.and_eq_true, Bool.or_eq_true, Sx.iLt_t, Sx.iLt_f, Sx.iLe_t, Sx.iLe_f, Sx.iEq_t, Sx.iEq_f, Sx.iBeq_t, Sx.iBeq_f, Sx.iBne_t, Sx.iBne_f, Nat.ble_eq, Nat.beq_eq, Sx.Cont.n, Nat.sub_zero, Int.toNat_natCast] at hlt2
   have hk : k < a1 := by simpa using hlt2
   have nextk : cmsE W a1 p (AV a) (L0.getD k []) = true → cmsAll W (rdL n l no a1) (a1 : Int) (lstP n (a1 : Int)) (AV (hsh (rdRl n l no a1) (rdRn n l no a1))) (k + 1) = true := fun h => by
    rw [ha, hL0, hp']
    unfold cmsAll at d2' ⊢
    rw [List.range_succ, List.all_append, d2']
    show (true && ([k].all fun i => cmsE W a1 p (AV a) (L0.getD i []))) = true
    rw [List.all_cons, List.all_nil, h]; rfl
   simp only [ek]
   refine Sx.if_true (by rw [show k.blt (nSub a1 0) = true by rw [Nat.blt_eq]; simp only [Sx.app, Sx.nAdd, Sx.nSub, Sx.nMul, Sx.nPow, Sx.nDiv, Sx.nMod, Sx.iAdd, Sx.iSub, Sx.iMul, Sx.iNeg, Sx.iPow, Sx.iOf]; omega, Bool.and_true]; simp only [Sx.app, Sx.nAdd, Sx.nSub, Sx.nMul, Sx.nPow, Sx.nDiv, Sx.nMod, Sx.iAdd, Sx.iSub, Sx.iMul, Sx.iNeg, Sx.iPow, Sx.iOf, Bool.and_eq_true, Bool.or_eq_true, Sx.iLt_t, Sx.iLt_f, Sx.iLe_t, Sx.iLe_f, Sx.iEq_t, Sx.iEq_f, Sx.iBeq_t, Sx.iBeq_f, Sx.iBne_t, Sx.iBne_f, Nat.ble_eq, Nat.beq_eq, Sx.Cont.n]; omega) (Sx.if_true (b21 k (by omega)) ?_)
   have bk : (iLe 0 (iOf k) && k.blt 21) = true := by rw [show k.blt 21 = true by rw [Nat.blt_eq]; omega, Bool.and_true]; simp only [Sx.app, Sx.nAdd, Sx.nSub, Sx.nMul, Sx.nPow, Sx.nDiv, Sx.nMod, Sx.iAdd, Sx.iSub, Sx.iMul, Sx.iNeg, Sx.iPow, Sx.iOf, Bool.and_eq_true, Bool.or_eq_true, Sx.iLt_t, Sx.iLt_f, Sx.iLe_t, Sx.iLe_f, Sx.iEq_t, Sx.iEq_f, Sx.iBeq_t, Sx.iBeq_f, Sx.iBne_t, Sx.iBne_f, Nat.ble_eq, Nat.beq_eq, Sx.Cont.n]; omega
   have ba : (iLe 0 (iOf a1) && a1.blt 21) = true := by rw [show a1.blt 21 = true by rw [Nat.blt_eq]; omega, Bool.and_true]; simp only [Sx.app, Sx.nAdd, Sx.nSub, Sx.nMul, Sx.nPow, Sx.nDiv, Sx.nMod, Sx.iAdd, Sx.iSub, Sx.iMul, Sx.iNeg, Sx.iPow, Sx.iOf, Bool.and_eq_true, Bool.or_eq_true, Sx.iLt_t, Sx.iLt_f, Sx.iLe_t, Sx.iLe_f, Sx.iEq_t, Sx.iEq_f, Sx.iBeq_t, Sx.iBeq_f, Sx.iBne_t, Sx.iBne_f, Nat.ble_eq, Nat.beq_eq, Sx.Cont.n]; omega
   have e0 := g3 k hk
   have hEk := hEe k
   rcases okE_cases (hE k) with he | ⟨y, he, hy⟩
   ·rw [he] at e0
    rw [e0]
    refine Sx.if_false rfl ?_
    exact ⟨(a1, k + 1), ⟨hk, nextk (by rw [he]; rfl)⟩, rfl, by simp only [Sx.app, Sx.nAdd, Sx.nSub, Sx.nMul, Sx.nPow, Sx.nDiv, Sx.nMod, Sx.iAdd, Sx.iSub, Sx.iMul, Sx.iNeg, Sx.iPow, Sx.iOf]; omega, ⟨(by first | rfl | trivial), by rw [w2]; rfl, (by first | rfl | trivial), (by first | rfl | trivial), (by first | rfl | trivial), (by first | rfl | trivial), (by first | rfl | trivial), ⟨(by first | rfl | trivial), (by first | rfl | trivial), (by first | rfl | trivial)⟩, (by first | rfl | trivial), trivial⟩, (by first | rfl | trivial), (by first | rfl | trivial), (by first | rfl | trivial), (by first | rfl | trivial), (by first | rfl | trivial), (by first | rfl | trivial), (by first | rfl | trivial), (by first | rfl | trivial), trivial⟩
   ·rw [he] at e0
    rw [e0] at hEk
    rw [g2] at hEk
    rw [e0, g2]
    have q0 : (!([y] : List (List Int)).length.beq 0) = true := rfl
    have q1 : ∀ z : List Int, Nat.blt 0 ([z] : List (List Int)).length = true := fun _ => rfl
    have q2 : ∀ z : List Int, (true && Nat.beq 33 33 && Nat.blt 0 ([z] : List (List Int)).length) = true := fun _ => rfl
    have hm : min a1 64 = a1 := Nat.min_eq_left (by omega)
    replace hEk : eqv (AV (W.cm (a1 : Int) (plc y) (AV (hK (p :: tabI a 32))))) (AV (hK y)) = E k := hEk
    rw [g4] at hEk
    have ec : cmsE W a1 p (AV a) [y] = bif iBeq ((plc y).fdiv (2 ^ a1)) (p.fdiv (2 ^ a1)) then E k else true := by
     rw [← hEk]
     show ([y].all fun x => bif iBeq ((plc x).fdiv (2 ^ (a1 : Int).toNat)) (p.fdiv (2 ^ (a1 : Int).toNat)) then eqv (AV (W.cm (a1 : Int) (plc x) (AV a))) (AV (hK x)) else true) = _
     rw [List.all_cons, List.all_nil, Bool.and_true, Int.toNat_natCast]
    rw [hm]
    refine Sx.if_true q0 (Sx.if_true (q1 _) (Sx.if_true (q1 _) (Sx.if_true (q2 _) (Sx.if_both (fun hq => ?_) (fun hq => ?_)))))
    ·have hq' : iBeq ((plc y).fdiv (2 ^ a1)) (p.fdiv (2 ^ a1)) = true := hq
     rw [hq'] at ec
     refine Sx.if_true ba (Sx.if_true (b21 a1 hx21) (Sx.if_true (q1 _) (Sx.if_true (q1 _) (Sx.if_true (q2 _) (Sx.if_true (q1 _) (Sx.if_true (q1 _) (Sx.if_true (q2 _) (Sx.if_true rfl (Sx.if_true bk (Sx.if_true (b21 k (by omega)) (Sx.if_true (q1 _) (Sx.if_true (q1 _) (Sx.if_true (q2 _) (Sx.if_both (fun hz => ?_) (fun hz => ?_)))))))))))))))
     ·have hz' : E k = false := by simpa using hz
      have hf : rdB W n l no (a1 + 1) = false := by
       rw [sB]
       unfold cmsAll
       rw [List.all_eq_false]
       refine ⟨k, List.mem_range.2 hk, ?_⟩
       rw [he, ec, hz']; decide
      have e : rdOk R W b = false := by rw [hD, rdB_up W n l no (by omega) hf]; rfl
      exact hX e
     ·exact ⟨(a1, k + 1), ⟨hk, nextk (by rw [he, ec]; show E k = true; simpa using hz)⟩, rfl, by simp only [Sx.app, Sx.nAdd, Sx.nSub, Sx.nMul, Sx.nPow, Sx.nDiv, Sx.nMod, Sx.iAdd, Sx.iSub, Sx.iMul, Sx.iNeg, Sx.iPow, Sx.iOf]; omega, ⟨(by first | rfl | trivial), by rw [w2]; rfl, (by first | rfl | trivial), (by first | rfl | trivial), (by first | rfl | trivial), (by first | rfl | trivial), (by first | rfl | trivial), ⟨(by first | rfl | trivial), (by first | rfl | trivial), (by first | rfl | trivial)⟩, (by first | rfl | trivial), trivial⟩, (by first | rfl | trivial), (by first | rfl | trivial), (by first | rfl | trivial), (by first | rfl | trivial), (by first | rfl | trivial), (by first | rfl | trivial), (by first | rfl | trivial), (by first | rfl | trivial), trivial⟩
    ·have hq' : iBeq ((plc y).fdiv (2 ^ a1)) (p.fdiv (2 ^ a1)) = false := hq
     exact ⟨(a1, k + 1), ⟨hk, nextk (by rw [he, ec, hq']; rfl)⟩, rfl, by simp only [Sx.app, Sx.nAdd, Sx.nSub, Sx.nMul, Sx.nPow, Sx.nDiv, Sx.nMod, Sx.iAdd, Sx.iSub, Sx.iMul, Sx.iNeg, Sx.iPow, Sx.iOf]; omega, ⟨(by first | rfl | trivial), by rw [w2]; rfl, (by first | rfl | trivial), (by first | rfl | trivial), (by first | rfl | trivial), (by first | rfl | trivial), (by first | rfl | trivial), ⟨(by first | rfl | trivial), (by first | rfl | trivial), (by first | rfl | trivial)⟩, (by first | rfl | trivial), trivial⟩, (by first | rfl | trivial), (by first | rfl | trivial), (by first | rfl | trivial), (by first | rfl | trivial), (by first | rfl | trivial), (by first | rfl | trivial), (by first | rfl | trivial), (by first | rfl | trivial), trivial⟩
  ·simp only [Sx.app, Sx.nAdd, Sx.nSub, Sx.nMul, Sx.nPow, Sx.nDiv, Sx.nMod, Sx.iAdd, Sx.iSub, Sx.iMul, Sx.iNeg, Sx.iPow, Sx.iOf, Bool.and_eq_true, Bool.or_eq_true, Sx.iLt_t, Sx.iLt_f, Sx.iLe_t, Sx.iLe_f, Sx.iEq_t, Sx.iEq_f, Sx.iBeq_t, Sx.iBeq_f, Sx.iBne_t, Sx.iBne_f, Nat.ble_eq, Nat.beq_eq, Sx.Cont.n, Nat.sub_zero, Int.toNat_natCast] at hlt2
   have hk : k = a1 := by
    have : ¬ ((k : Int) < (a1 : Int)) := by simpa using hlt2
    omega
   subst hk
   rw [← sB] at d2'
   exact ⟨k + 1, ⟨by omega, d2'⟩, by simp only [Sx.app, Sx.nAdd, Sx.nSub, Sx.nMul, Sx.nPow, Sx.nDiv, Sx.nMod, Sx.iAdd, Sx.iSub, Sx.iMul, Sx.iNeg, Sx.iPow, Sx.iOf]; omega, ⟨by rw [w1]; rfl, (by first | rfl | trivial), (by first | rfl | trivial), trivial⟩, by rw [show rdRn n l no (k + 1) = hshN (rdRl n l no k) (rdRn n l no k) from congrArg Prod.snd sR], by rw [show rdRl n l no (k + 1) = hshR (rdRl n l no k) (rdRn n l no k) from congrArg Prod.fst sR], (by first | rfl | trivial), by rw [sL, hL'], (by first | rfl | trivial), (by first | rfl | trivial), trivial⟩
 ·simp only [Sx.app, Sx.nAdd, Sx.nSub, Sx.nMul, Sx.nPow, Sx.nDiv, Sx.nMod, Sx.iAdd, Sx.iSub, Sx.iMul, Sx.iNeg, Sx.iPow, Sx.iOf, Bool.and_eq_true, Bool.or_eq_true, Sx.iLt_t, Sx.iLt_f, Sx.iLe_t, Sx.iLe_f, Sx.iEq_t, Sx.iEq_f, Sx.iBeq_t, Sx.iBeq_f, Sx.iBne_t, Sx.iBne_f, Nat.ble_eq, Nat.beq_eq, Sx.Cont.n] at hlt
  have hx : x = 21 := by omega
  subst hx
  rw [c2] at hD
  refine Sx.if_both (fun z1 => ?_) (fun z1 => Sx.if_both (fun z2 => ?_) (fun z2 => ?_))
  ·have e : rdOk R W b = false := by rw [hD, show rdRn n l no 21 = true by simpa using z1]; rfl
   exact hX e
  ·have e : rdOk R W b = false := by
    rw [hD]
    have : Nat.beq (rdRl n l no 21).length 0 = false := by
     simp only [Sx.app, Sx.nAdd, Sx.nSub, Sx.nMul, Sx.nPow, Sx.nDiv, Sx.nMod, Sx.iAdd, Sx.iSub, Sx.iMul, Sx.iNeg, Sx.iPow, Sx.iOf, Bool.and_eq_true, Bool.or_eq_true, Sx.iLt_t, Sx.iLt_f, Sx.iLe_t, Sx.iLe_f, Sx.iEq_t, Sx.iEq_f, Sx.iBeq_t, Sx.iBeq_f, Sx.iBne_t, Sx.iBne_f, Nat.ble_eq, Nat.beq_eq, Sx.Cont.n] at z2
     cases hc : Nat.beq (rdRl n l no 21).length 0
     ·rfl
     ·rw [Nat.beq_eq] at hc; omega
    rw [this]; cases rdRn n l no 21 <;> rfl
   exact hX e
  ·have e : rdOk R W b = true := by
    rw [hD, show rdRn n l no 21 = false by simpa using z1]
    show Nat.beq (rdRl n l no 21).length 0 = true
    rw [Nat.beq_eq]
    simp only [Sx.app, Sx.nAdd, Sx.nSub, Sx.nMul, Sx.nPow, Sx.nDiv, Sx.nMod, Sx.iAdd, Sx.iSub, Sx.iMul, Sx.iNeg, Sx.iPow, Sx.iOf, Bool.and_eq_true, Bool.or_eq_true, Sx.iLt_t, Sx.iLt_f, Sx.iLe_t, Sx.iLe_f, Sx.iEq_t, Sx.iEq_f, Sx.iBeq_t, Sx.iBeq_f, Sx.iBne_t, Sx.iBne_f, Nat.ble_eq, Nat.beq_eq, Sx.Cont.n] at z2
    omega
   exact hY e
theorem wpc_read_t (O : OO) (R : OB) (W : OW) (b : List Int) (F : FO O) (hr : R = bO) (hw : W = wO O) (h0 : (Nat.ble b.length 1000000) = true) (h1 : (byB b) = true) (h2 : (iLe 0 (R.nV b)) = true) (hB : ∀ m : Nat → Int, byB (tabI m 32) = true → O.isH (AV m) = true) (hb0 : (rdOk R W b) = true) : wpcI Tryd.prog (spW3 O R W) Tryd.f21.ntmps [⟨Nat, [0, 1, 2, 3, 4, 5], [(100004, 5, .ints .u8 []), (200005, 5, .structs KK (List.replicate 21 []))], fun B j => [(27, .v (.int .i64 (j : Int)))], fun B j => [(256, .blk 83 [.row B, .v (.bool (rdRn (R.nV b) (R.nR b) (rNo R b) j))]), (B, .ro (.ints .u8 (rdRl (R.nV b) (R.nR b) (rNo R b) j))), (576, .blk 54 (.v (.int .i64 (R.nV b)) :: selList (B + 1) 21 0)), (B + 1, .sels KK (rdL (R.nV b) (R.nR b) (rNo R b) j))], fun j => j ≤ 21 ∧ rdB W (R.nV b) (R.nR b) (rNo R b) j = true, fun j => 21 - j, 0⟩, ⟨Nat × Nat, [0, 1, 2, 3, 4, 5, 6, 7, 8, 62, 63], [], fun B k => [(27, .v (.int .i64 (k.1 : Int))), (64, .v (.int .i64 (k.2 : Int)))], fun B k => [(257, .ro (.ints .u8 b))], fun k => k.2 ≤ k.1 ∧ cmsAll W (rdL (R.nV b) (R.nR b) (rNo R b) k.1) (k.1 : Int) (lstP (R.nV b) (k.1 : Int)) (AV (hsh (rdRl (R.nV b) (R.nR b) (rNo R b) k.1) (rdRn (R.nV b) (R.nR b) (rNo R b) k.1))) k.2 = true, fun k => 21 - k.2, .fix (fun k => k.1)⟩] (bodyOf Tryd.f21) 0 64 (envP (mks [.ro .u8] [.ints b] 0).1 0) (mks [.ro .u8] [.ints b] 0).2 (retP Tryd.prog Tryd.f21.results.toList 1 (p_read O R W b [true] : Post)) :=
 Eq.mpr (by kernel_rfl) (vc_read_t O R W b (((SV.v (Value.pointer none) = SV.ptr 1 0 ∧ Value.bool false = Value.bool true) ∧ True ∧ False)) (fun x : Nat => (Value.bool true = Value.bool true ∧ True ∧ Value.int IntKind.i64 (R.nV b) = Value.int IntKind.i64 (R.nV b) ∧ rdL (R.nV b) (R.nR b) (rNo R b) x = rdLL R b ∧ True)) F hr hw h0 h1 h2 hB (fun e => absurd (hb0.symm.trans e) (by decide)) (fun _ => ⟨rfl, trivial, rfl, rfl, trivial⟩))
theorem wpc_read_f (O : OO) (R : OB) (W : OW) (b : List Int) (F : FO O) (hr : R = bO) (hw : W = wO O) (h0 : (Nat.ble b.length 1000000) = true) (h1 : (byB b) = true) (h2 : (iLe 0 (R.nV b)) = true) (hB : ∀ m : Nat → Int, byB (tabI m 32) = true → O.isH (AV m) = true) (hb0 : (rdOk R W b) = false) : wpcI Tryd.prog (spW3 O R W) Tryd.f21.ntmps [⟨Nat, [0, 1, 2, 3, 4, 5], [(100004, 5, .ints .u8 []), (200005, 5, .structs KK (List.replicate 21 []))], fun B j => [(27, .v (.int .i64 (j : Int)))], fun B j => [(256, .blk 83 [.row B, .v (.bool (rdRn (R.nV b) (R.nR b) (rNo R b) j))]), (B, .ro (.ints .u8 (rdRl (R.nV b) (R.nR b) (rNo R b) j))), (576, .blk 54 (.v (.int .i64 (R.nV b)) :: selList (B + 1) 21 0)), (B + 1, .sels KK (rdL (R.nV b) (R.nR b) (rNo R b) j))], fun j => j ≤ 21 ∧ rdB W (R.nV b) (R.nR b) (rNo R b) j = true, fun j => 21 - j, 0⟩, ⟨Nat × Nat, [0, 1, 2, 3, 4, 5, 6, 7, 8, 62, 63], [], fun B k => [(27, .v (.int .i64 (k.1 : Int))), (64, .v (.int .i64 (k.2 : Int)))], fun B k => [(257, .ro (.ints .u8 b))], fun k => k.2 ≤ k.1 ∧ cmsAll W (rdL (R.nV b) (R.nR b) (rNo R b) k.1) (k.1 : Int) (lstP (R.nV b) (k.1 : Int)) (AV (hsh (rdRl (R.nV b) (R.nR b) (rNo R b) k.1) (rdRn (R.nV b) (R.nR b) (rNo R b) k.1))) k.2 = true, fun k => 21 - k.2, .fix (fun k => k.1)⟩] (bodyOf Tryd.f21) 0 64 (envP (mks [.ro .u8] [.ints b] 0).1 0) (mks [.ro .u8] [.ints b] 0).2 (retP Tryd.prog Tryd.f21.results.toList 1 (p_read O R W b [false] : Post)) :=
 Eq.mpr (by kernel_rfl) (vc_read_t O R W b (((Value.pointer none = Value.pointer none ∧ Value.bool false = Value.bool false) ∧ True ∧ True)) (fun _ => False) F hr hw h0 h1 h2 hB (fun _ => ⟨⟨rfl, rfl⟩, trivial, trivial⟩) (fun e => absurd (hb0.symm.trans e) (by decide)))
theorem ok_read (I : Sx.Interp) (hT : Tz I) (O : OO) (hO : O = oo) (R : OB) (hR : R = bO) (W : OW) (hW : W = wO O) : Sx.SpecOK I Tryd.prog 21 (pspec [.ro .u8] true (g_read O R W)) := by
 refine spec_pI (spW3_ok I hT O hO R hR W hW) (by kernel_rfl) (fun ds => match ds with | [.ints b] => [⟨Nat, [0, 1, 2, 3, 4, 5], [(100004, 5, .ints .u8 []), (200005, 5, .structs KK (List.replicate 21 []))], fun B j => [(27, .v (.int .i64 (j : Int)))], fun B j => [(256, .blk 83 [.row B, .v (.bool (rdRn (R.nV b) (R.nR b) (rNo R b) j))]), (B, .ro (.ints .u8 (rdRl (R.nV b) (R.nR b) (rNo R b) j))), (576, .blk 54 (.v (.int .i64 (R.nV b)) :: selList (B + 1) 21 0)), (B + 1, .sels KK (rdL (R.nV b) (R.nR b) (rNo R b) j))], fun j => j ≤ 21 ∧ rdB W (R.nV b) (R.nR b) (rNo R b) j = true, fun j => 21 - j, 0⟩, ⟨Nat × Nat, [0, 1, 2, 3, 4, 5, 6, 7, 8, 62, 63], [], fun B k => [(27, .v (.int .i64 (k.1 : Int))), (64, .v (.int .i64 (k.2 : Int)))], fun B k => [(257, .ro (.ints .u8 b))], fun k => k.2 ≤ k.1 ∧ cmsAll W (rdL (R.nV b) (R.nR b) (rNo R b) k.1) (k.1 : Int) (lstP (R.nV b) (k.1 : Int)) (AV (hsh (rdRl (R.nV b) (R.nR b) (rNo R b) k.1) (rdRn (R.nV b) (R.nR b) (rNo R b) k.1))) k.2 = true, fun k => 21 - k.2, .fix (fun k => k.1)⟩] | _ => []) Tryd.func21 (by kernel_rfl) (by kernel_rfl) rfl Tryd.ntmps21 (by decide) ?_ ?_
 ·intro ds p bs F h
  unfold g_read at h
  split at h
  ·rename_i b
   simp only [Option.some.injEq, Prod.mk.injEq] at h
   obtain ⟨_, rfl, rfl⟩ := h
   generalize (rdOk R W b) = t0
   cases t0 <;> kernel_rfl
  ·cases h
 ·intro ds bs F hl h
  unfold g_read at h
  split at h
  ·rename_i b
   simp only [Option.some.injEq, Prod.mk.injEq, Bool.and_eq_true] at h
   obtain ⟨⟨⟨h0, h1⟩, h2⟩, rfl, rfl⟩ := h
   cases hb0 : (rdOk R W b) with
   | true => exact wpc_read_t O R W b (fo_oo O hO) hR hW (by first | exact h0 | (simp only [Bool.and_eq_true]; exact h0)) (by first | exact h1 | (simp only [Bool.and_eq_true]; exact h1)) (by first | exact h2 | (simp only [Bool.and_eq_true]; exact h2)) (isH_by hO) hb0
   | false => exact wpc_read_f O R W b (fo_oo O hO) hR hW (by first | exact h0 | (simp only [Bool.and_eq_true]; exact h0)) (by first | exact h1 | (simp only [Bool.and_eq_true]; exact h1)) (by first | exact h2 | (simp only [Bool.and_eq_true]; exact h2)) (isH_by hO) hb0
  ·cases h
end Go.Proofs.YtebffdgghkomjaaDoor
