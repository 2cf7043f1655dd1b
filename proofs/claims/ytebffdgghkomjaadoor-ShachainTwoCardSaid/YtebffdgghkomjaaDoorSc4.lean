/- ShachainTwo: the walk, by the symbolic machine (printed by genSc4.py; VCs by VcTool). -/
import Derived.Test.YtebffdgghkomjaaDoorSc3
import Derived.Test.YtebffdgghkomjaaDoorCp
namespace Go.Proofs.YtebffdgghkomjaaDoor
open Go.RowKit Go.Lib Ckp Cfd Cpd Sx
set_option linter.unusedVariables false
set_option linter.unusedSimpArgs false
set_option maxRecDepth 1000000
abbrev KH : List IntKind := [.u8, .u8, .u8, .u8, .u8, .u8, .u8, .u8, .u8, .u8, .u8, .u8, .u8, .u8, .u8, .u8, .u8, .u8, .u8, .u8, .u8, .u8, .u8, .u8, .u8, .u8, .u8, .u8, .u8, .u8, .u8, .u8]
def hE (x : List Int) (i : Nat) : Int := x.getD i 0
def okH (O : OO) (l : List (List Int)) : Bool := l.all fun x => O.isH (AV (hE x)) && Nat.beq x.length 32
/-- A store to which secrets were added, and those that it took. -/
def twR (W : OW) (l : List (List Int)) : Nat → Int × List (List (List Int)) × List (List Int)
 | 0 => (0, nilL, [])
 | j + 1 => bif iBeq (stE W (twR W l j).1 (twR W l j).2.1 (twR W l j).1 (AV (hE (l.getD j [])))) 0 then ((twR W l j).1 + 1, stL W (twR W l j).1 (twR W l j).2.1 (twR W l j).1 (AV (hE (l.getD j []))), (twR W l j).2.2 ++ [l.getD j []]) else twR W l j
def twN (W : OW) (l : List (List Int)) (j : Int) : Int := (twR W l j.toNat).1
def twL (W : OW) (l : List (List Int)) (j : Int) : List (List (List Int)) := (twR W l j.toNat).2.1
def twK (W : OW) (l : List (List Int)) (j : Int) : List (List Int) := (twR W l j.toNat).2.2
theorem tabE {x : List Int} (h : x.length = 32) : tabI (hE x) 32 = x := tab_self h
theorem okH_at {O : OO} {l : List (List Int)} (h : okH O l = true) {i : Nat} (hi : i < l.length) : O.isH (AV (hE (l.getD i []))) = true ∧ (l.getD i []).length = 32 := by
 unfold okH at h
 have := List.all_eq_true.1 h _ (List.getElem_mem hi)
 rw [Bool.and_eq_true, Nat.beq_eq] at this
 rw [List.getD_eq_getElem?_getD, List.getElem?_eq_getElem hi]
 exact this
theorem tw_ok {W : OW} {l : List (List Int)} {x : Int} (h0 : 0 ≤ x) (h : stE W (twN W l x) (twL W l x) (twN W l x) (AV (hE (l.getD x.toNat []))) = 0) :
  twN W l (x + 1) = twN W l x + 1 ∧ twL W l (x + 1) = stL W (twN W l x) (twL W l x) (twN W l x) (AV (hE (l.getD x.toNat []))) ∧ twK W l (x + 1) = twK W l x ++ [l.getD x.toNat []] := by
 unfold twN twL at h
 unfold twN twL twK
 rw [show (x + 1).toNat = x.toNat + 1 by omega, twR, h]
 exact ⟨rfl, rfl, rfl⟩
theorem tw_no {W : OW} {l : List (List Int)} {x : Int} (h0 : 0 ≤ x) (h : stE W (twN W l x) (twL W l x) (twN W l x) (AV (hE (l.getD x.toNat []))) ≠ 0) :
  twN W l (x + 1) = twN W l x ∧ twL W l (x + 1) = twL W l x ∧ twK W l (x + 1) = twK W l x := by
 unfold twN twL at h
 unfold twN twL twK
 rw [show (x + 1).toNat = x.toNat + 1 by omega, twR, Eq.mpr (iBeq_f _ _) h]
 exact ⟨rfl, rfl, rfl⟩
theorem tw_inv {O : OO} (F : FO O) {W : OW} (hw : W = wO O) {l : List (List Int)} (hl : okH O l = true) (h60 : l.length ≤ 1048576) : ∀ j : Nat, j ≤ l.length → ∃ K : Int → Nat → Int, InvS W (twN W l j) (twL W l j) K ∧ twN W l j = ((twK W l j).length : Int) ∧ twN W l j ≤ j ∧ (∀ q, O.isH (AV (K q)) = true) ∧
  ∀ i : Nat, i < (twK W l j).length → AV (K (1048575 - i)) = AV (hE ((twK W l j).getD i []))
 | 0, _ => ⟨fun _ => O.sum [], inv_nil W _, rfl, Int.le_refl _, fun _ => F.sH _, fun i hi => absurd hi (Nat.not_lt_zero _)⟩
 | j + 1, hj => by
  obtain ⟨K, I, e1, e2, e3, e4⟩ := tw_inv F hw hl h60 j (by omega)
  have ej : ((j + 1 : Nat) : Int) = (j : Int) + 1 := by omega
  have ht : (j : Int).toNat = j := Int.toNat_natCast j
  obtain ⟨b1, b2⟩ := okH_at hl (show j < l.length by omega)
  by_cases h : stE W (twN W l j) (twL W l j) (twN W l j) (AV (hE (l.getD (j : Int).toNat []))) = 0
  ·obtain ⟨s1, s2, s3⟩ := tw_ok (by omega) h
   rw [ht] at h s2 s3
   rw [ej, s1, s2, s3]
   refine ⟨_, inv_add hw I (by omega) _ h, by rw [e1, List.length_append]; simp, by omega, fun q => ?_, fun i hi => ?_⟩
   ·show O.isH (AV (bif iBeq q (1048575 - twN W l j) then hE (l.getD j []) else K q)) = true
    cases iBeq q (1048575 - twN W l j)
    ·exact e3 q
    ·exact b1
   ·show AV (bif iBeq (1048575 - (i : Int)) (1048575 - twN W l j) then hE (l.getD j []) else K (1048575 - (i : Int))) = _
    rw [List.length_append, List.length_cons, List.length_nil] at hi
    by_cases q : i = (twK W l j).length
    ·rw [show iBeq (1048575 - (i : Int)) (1048575 - twN W l j) = true by simp only [iBeq_t]; omega, cond_true]
     subst q
     simp
    ·rw [show iBeq (1048575 - (i : Int)) (1048575 - twN W l j) = false by simp only [iBeq_f]; omega, cond_false, e4 i (by omega), List.getD_eq_getElem?_getD, List.getD_eq_getElem?_getD, List.getElem?_append_left (by omega)]
  ·obtain ⟨s1, s2, s3⟩ := tw_no (by omega) h
   rw [ej, s1, s2, s3]
   exact ⟨K, I, e1, by omega, e3, e4⟩
theorem at_KH (l : List (List Int)) (i : Nat) : (Sx.Cont.structs KH l).at i = AV (hE (l.getD i [])) := by kernel_rfl
def g_two (O : OO) (R : OB) (W : OW) (ds : List Dt) : Option (Bool × List Bool × (List Bool → Post)) := match ds with
 | [.structs l] => some ((okH O l) && (Nat.ble l.length 9223372036854775807), [], fun _ => ⟨[.v (.bool true)], []⟩)
 | _ => none
set_option maxHeartbeats 4000000 in
theorem vc_two (O : OO) (R : OB) (W : OW) (l : List (List Int)) (F : FO O) (hr : R = bO) (hw : W = wO O) (hC : ∀ m : Nat → Int, O.isH (AV m) = true → byB (tabI m 32) = true) (h0 : (okH O l) = true) (h1 : (Nat.ble l.length 9223372036854775807) = true) :
 If (iLt 60 (iOf (Cont.structs KH l).n)) (Value.bool true = Value.bool true ∧ True ∧ True) ((∃ (x : Int), (iLe 0 x && iLe x (iOf l.length)) = true ∧ (Value.int .i64 0 = Value.int
  .i64 x ∧ Value.bool false = Value.bool false ∧ Value.bool true = Value.bool true ∧ True) ∧ Value.int .i64 0 = Value.int .i64 (twN W l x) ∧ nilL = twL W l x ∧ Cont.structs
  (List.replicate 32 .u8) [] = Cont.structs (List.replicate 32 .u8) (twK W l x) ∧ Cont.structs (List.replicate 32 .u8) l = Cont.structs (List.replicate 32 .u8) l ∧ True) ∧ ∀ (x :
  Int), (iLe 0 x && iLe x (iOf l.length)) = true → If (iLt x (iOf (Cont.structs KH l).n)) (If (iLe 0 (twN W l x) && iLe (twN W l x) 1048576 && okL O (twL W l x)) (If (iLe 0 x &&
  x.toNat.blt l.length) (If (true && Nat.beq 32 32 && x.toNat.blt l.length) (If (iLe 0 (twN W l x) && iLe (twN W l x) 1048576 && okL O (twL W l x) && O.isH (AV (hE (l.getD x.toNat
  [])))) (If (iBeq (stE W (twN W l x) (twL W l x) (iOf (twK W l x).length) (AV (hE (l.getD x.toNat [])))) 0) (If (iLe 0 x && x.toNat.blt l.length) (If (true && Nat.beq 32 32 &&
  x.toNat.blt l.length) (If ((nMul (nAdd (twK W l x).length 1) 32).ble 140737488355328 && (nAdd (twK W l x).length 1).ble 9223372036854775807) (If (iBne (stN W (twN W l x) (twL W l x)
  (iOf (twK W l x).length) (AV (hE (l.getD x.toNat [])))) (iOf (app (twK W l x) [(tabI (hE (l.getD x.toNat [])) 32)]).length)) (Value.bool false = Value.bool true ∧ True ∧ True) (∃
  (x' : Int), (iLe 0 x' && iLe x' (iOf l.length)) = true ∧ (iSub (iOf l.length) x').toNat.succ ≤ (iSub (iOf l.length) x).toNat ∧ (Value.int .i64 (IntKind.i64.wrap (iAdd x 1)) =
  Value.int .i64 x' ∧ Value.bool false = Value.bool false ∧ Value.bool true = Value.bool true ∧ True) ∧ Value.int .i64 (stN W (twN W l x) (twL W l x) (iOf (twK W l x).length) (AV (hE
  (l.getD x.toNat [])))) = Value.int .i64 (twN W l x') ∧ stL W (twN W l x) (twL W l x) (iOf (twK W l x).length) (AV (hE (l.getD x.toNat []))) = twL W l x' ∧ Cont.structs
  (List.replicate 32 .u8) (app (twK W l x) [(tabI (hE (l.getD x.toNat [])) 32)]) = Cont.structs (List.replicate 32 .u8) (twK W l x') ∧ Cont.structs (List.replicate 32 .u8) l =
  Cont.structs (List.replicate 32 .u8) l ∧ True)) False) False) False) (If (iBne (stE W (twN W l x) (twL W l x) (iOf (twK W l x).length) (AV (hE (l.getD x.toNat [])))) 23) (Value.bool
  false = Value.bool true ∧ True ∧ True) (If (iLe 0 (stN W (twN W l x) (twL W l x) (iOf (Cont.structs KH (twK W l x)).n) ((Cont.structs KH l).at x.toNat)) && iLe (stN W (twN W l x)
  (twL W l x) (iOf (Cont.structs KH (twK W l x)).n) ((Cont.structs KH l).at x.toNat)) 1048576 && okL O (stL W (twN W l x) (twL W l x) (iOf (twK W l x).length) (AV (hE (l.getD x.toNat
  []))))) (If (!(strOfNums (app (R.row (stN W (twN W l x) (twL W l x) (iOf (twK W l x).length) (AV (hE (l.getD x.toNat []))))) (bytF (stL W (twN W l x) (twL W l x) (iOf (twK W l
  x).length) (AV (hE (l.getD x.toNat [])))) 21))).toList == (strOfNums (app (R.row (twN W l x)) (bytF (twL W l x) 21))).toList) (Value.bool false = Value.bool true ∧ True ∧ True) (If
  (iBne (stN W (twN W l x) (twL W l x) (iOf (twK W l x).length) (AV (hE (l.getD x.toNat [])))) (iOf (twK W l x).length)) (Value.bool false = Value.bool true ∧ True ∧ True) (∃ (x' :
  Int), (iLe 0 x' && iLe x' (iOf l.length)) = true ∧ (iSub (iOf l.length) x').toNat.succ ≤ (iSub (iOf l.length) x).toNat ∧ (Value.int .i64 (IntKind.i64.wrap (iAdd x 1)) = Value.int
  .i64 x' ∧ Value.bool false = Value.bool false ∧ Value.bool true = Value.bool true ∧ True) ∧ Value.int .i64 (stN W (twN W l x) (twL W l x) (iOf (twK W l x).length) (AV (hE (l.getD
  x.toNat [])))) = Value.int .i64 (twN W l x') ∧ stL W (twN W l x) (twL W l x) (iOf (twK W l x).length) (AV (hE (l.getD x.toNat []))) = twL W l x' ∧ Cont.structs (List.replicate 32
  .u8) (twK W l x) = Cont.structs (List.replicate 32 .u8) (twK W l x') ∧ Cont.structs (List.replicate 32 .u8) l = Cont.structs (List.replicate 32 .u8) l ∧ True))) False))) False)
  False) False) False) ((∃ (x_1 : Int), (iLe 0 x_1 && iLe x_1 (iOf (twK W l (iOf l.length)).length)) = true ∧ (Value.int .i64 0 = Value.int .i64 x_1 ∧ Value.bool false = Value.bool
  false ∧ Value.bool true = Value.bool true ∧ True) ∧ Value.int .i64 (twN W l x) = Value.int .i64 (twN W l x) ∧ twL W l x = twL W l x ∧ Cont.structs (List.replicate 32 .u8) (twK W l
  x) = Cont.structs (List.replicate 32 .u8) (twK W l x) ∧ Cont.structs (List.replicate 32 .u8) l = Cont.structs (List.replicate 32 .u8) l ∧ True) ∧ ∀ (x_1 : Int), (iLe 0 x_1 && iLe
  x_1 (iOf (twK W l (iOf l.length)).length)) = true → If (iLt x_1 (iOf (Cont.structs KH (twK W l x)).n)) (If (iLe 0 (twN W l x) && iLe (twN W l x) 1048576 && okL O (twL W l x) && iLe
  (iNeg 9223372036854775808) x_1) (If (!getB (twN W l x) x_1 (twL W l x)) (Value.bool false = Value.bool true ∧ True ∧ True) (If (iLe 0 x_1 && x_1.toNat.blt (twK W l x).length) (If
  (true && Nat.beq 32 32 && x_1.toNat.blt (twK W l x).length) (If (!eqv (AV (getF W (twN W l x) x_1 (twL W l x))) (AV (hE ((twK W l x).getD x_1.toNat [])))) (Value.bool false =
  Value.bool true ∧ True ∧ True) (∃ (x' : Int), (iLe 0 x' && iLe x' (iOf (twK W l (iOf l.length)).length)) = true ∧ (iSub (iOf (twK W l (iOf l.length)).length) x').toNat.succ ≤ (iSub
  (iOf (twK W l (iOf l.length)).length) x_1).toNat ∧ (Value.int .i64 (IntKind.i64.wrap (iAdd x_1 1)) = Value.int .i64 x' ∧ Value.bool false = Value.bool false ∧ Value.bool true =
  Value.bool true ∧ True) ∧ Value.int .i64 (twN W l x) = Value.int .i64 (twN W l x) ∧ twL W l x = twL W l x ∧ Cont.structs (List.replicate 32 .u8) (twK W l x) = Cont.structs
  (List.replicate 32 .u8) (twK W l x) ∧ Cont.structs (List.replicate 32 .u8) l = Cont.structs (List.replicate 32 .u8) l ∧ True)) False) False)) False) (If (iLe 0 (twN W l x) && iLe
  (twN W l x) 1048576 && okL O (twL W l x) && iLe (iNeg 9223372036854775808) (iOf (Cont.structs KH (twK W l x)).n)) ((Value.bool !getB (twN W l x) (iOf (twK W l x).length) (twL W l
  x)) = Value.bool true ∧ True ∧ True) False))) := by
 simp only [Nat.ble_eq] at h1
 simp only [at_KH, Sx.Cont.n]
 refine Sx.if_both (fun _ => ⟨(by first | rfl | trivial), (by first | rfl | trivial), (by first | rfl | trivial)⟩) (fun c1 => ?_)
 simp only [Bool.and_eq_true, Bool.or_eq_true, Sx.iLt_t, Sx.iLt_f, Sx.iLe_t, Sx.iLe_f, Sx.iEq_t, Sx.iEq_f, Sx.iBeq_t, Sx.iBeq_f, Sx.iBne_t, Sx.iBne_f, Nat.ble_eq, Nat.beq_eq, Sx.Cont.n, Sx.app, Sx.nAdd, Sx.nSub, Sx.nMul, Sx.nPow, Sx.nDiv, Sx.nMod, Sx.iAdd, Sx.iSub, Sx.iMul, Sx.iNeg, Sx.iPow, Sx.iOf] at c1
 refine ⟨⟨0, by simp only [Bool.and_eq_true, Bool.or_eq_true, Sx.iLt_t, Sx.iLt_f, Sx.iLe_t, Sx.iLe_f, Sx.iEq_t, Sx.iEq_f, Sx.iBeq_t, Sx.iBeq_f, Sx.iBne_t, Sx.iBne_f, Nat.ble_eq, Nat.beq_eq, Sx.Cont.n, Sx.app, Sx.nAdd, Sx.nSub, Sx.nMul, Sx.nPow, Sx.nDiv, Sx.nMod, Sx.iAdd, Sx.iSub, Sx.iMul, Sx.iNeg, Sx.iPow, Sx.iOf]; omega, ⟨(by first | rfl | trivial), (by first | rfl | trivial), (by first | rfl | trivial), trivial⟩, (by first | rfl | trivial), (by first | rfl | trivial), (by first | rfl | trivial), (by first | rfl | trivial), trivial⟩, fun x hx => ?_⟩
 simp only [Bool.and_eq_true, Bool.or_eq_true, Sx.iLt_t, Sx.iLt_f, Sx.iLe_t, Sx.iLe_f, Sx.iEq_t, Sx.iEq_f, Sx.iBeq_t, Sx.iBeq_f, Sx.iBne_t, Sx.iBne_f, Nat.ble_eq, Nat.beq_eq, Sx.Cont.n, Sx.app, Sx.nAdd, Sx.nSub, Sx.nMul, Sx.nPow, Sx.nDiv, Sx.nMod, Sx.iAdd, Sx.iSub, Sx.iMul, Sx.iNeg, Sx.iPow, Sx.iOf] at hx
 obtain ⟨K, I, en, e2, e3, e4⟩ := tw_inv F hw h0 (by omega) x.toNat (by omega)
 rw [Int.toNat_of_nonneg hx.1] at I en e2 e4
 obtain ⟨el, hel⟩ : ∃ el, l.getD x.toNat [] = el := ⟨_, rfl⟩
 have okl := inv_ok I e3
 have hlo := I.lo
 have onE := stE_or hw I (by omega) (AV (hE el))
 have nx := fun h => tw_ok (W := W) (l := l) hx.1 h
 have nn := fun h => tw_no (W := W) (l := l) hx.1 h
 rw [hel] at nx nn
 have hL : iOf (twK W l x).length = twN W l x := by simp only [Sx.app, Sx.nAdd, Sx.nSub, Sx.nMul, Sx.nPow, Sx.nDiv, Sx.nMod, Sx.iAdd, Sx.iSub, Sx.iMul, Sx.iNeg, Sx.iPow, Sx.iOf]; exact en.symm
 have w1 : IntKind.i64.wrap (iAdd x 1) = x + 1 := by simp only [Sx.app, Sx.nAdd, Sx.nSub, Sx.nMul, Sx.nPow, Sx.nDiv, Sx.nMod, Sx.iAdd, Sx.iSub, Sx.iMul, Sx.iNeg, Sx.iPow, Sx.iOf]; rw [IntKind.wrap_i64]; omega
 rw [hel, hL, w1]
 have a1 : iLe 0 (twN W l x) = true := by simp only [Bool.and_eq_true, Bool.or_eq_true, Sx.iLt_t, Sx.iLt_f, Sx.iLe_t, Sx.iLe_f, Sx.iEq_t, Sx.iEq_f, Sx.iBeq_t, Sx.iBeq_f, Sx.iBne_t, Sx.iBne_f, Nat.ble_eq, Nat.beq_eq, Sx.Cont.n]; omega
 have a2 : iLe (twN W l x) 1048576 = true := by simp only [Bool.and_eq_true, Bool.or_eq_true, Sx.iLt_t, Sx.iLt_f, Sx.iLe_t, Sx.iLe_f, Sx.iEq_t, Sx.iEq_f, Sx.iBeq_t, Sx.iBeq_f, Sx.iBne_t, Sx.iBne_f, Nat.ble_eq, Nat.beq_eq, Sx.Cont.n]; omega
 have zN : stE W (twN W l x) (twL W l x) (twN W l x) (AV (hE el)) = 0 → stN W (twN W l x) (twL W l x) (twN W l x) (AV (hE el)) = twN W l x + 1 := fun h => by unfold stN; rw [h]; rfl
 have zN' : stE W (twN W l x) (twL W l x) (twN W l x) (AV (hE el)) ≠ 0 → stN W (twN W l x) (twL W l x) (twN W l x) (AV (hE el)) = twN W l x := fun h => by unfold stN; rw [Eq.mpr (iBeq_f _ _) h]; rfl
 have zL' : stE W (twN W l x) (twL W l x) (twN W l x) (AV (hE el)) ≠ 0 → stL W (twN W l x) (twL W l x) (twN W l x) (AV (hE el)) = twL W l x := fun h => by unfold stL; rw [Eq.mpr (iBeq_f _ _) h]; rfl
 refine Sx.if_both (fun d => ?_) (fun d => ?_)
 ·simp only [Bool.and_eq_true, Bool.or_eq_true, Sx.iLt_t, Sx.iLt_f, Sx.iLe_t, Sx.iLe_f, Sx.iEq_t, Sx.iEq_f, Sx.iBeq_t, Sx.iBeq_f, Sx.iBne_t, Sx.iBne_f, Nat.ble_eq, Nat.beq_eq, Sx.Cont.n, Sx.app, Sx.nAdd, Sx.nSub, Sx.nMul, Sx.nPow, Sx.nDiv, Sx.nMod, Sx.iAdd, Sx.iSub, Sx.iMul, Sx.iNeg, Sx.iPow, Sx.iOf] at d
  obtain ⟨b1, b2⟩ := okH_at h0 (show x.toNat < l.length by omega)
  rw [hel] at b1 b2
  have a3 : iLe 0 x = true := by simp only [Bool.and_eq_true, Bool.or_eq_true, Sx.iLt_t, Sx.iLt_f, Sx.iLe_t, Sx.iLe_f, Sx.iEq_t, Sx.iEq_f, Sx.iBeq_t, Sx.iBeq_f, Sx.iBne_t, Sx.iBne_f, Nat.ble_eq, Nat.beq_eq, Sx.Cont.n]; omega
  have a4 : x.toNat.blt l.length = true := by rw [Nat.blt_eq]; omega
  have a5 : Nat.beq 32 32 = true := rfl
  rw [tabE b2]
  simp only [a1, a2, a3, a4, a5, okl, b1, Bool.and_true, Bool.true_and, Sx.If_t]
  refine Sx.if_both (fun z => ?_) (fun z => ?_)
  ·simp only [Bool.and_eq_true, Bool.or_eq_true, Sx.iLt_t, Sx.iLt_f, Sx.iLe_t, Sx.iLe_f, Sx.iEq_t, Sx.iEq_f, Sx.iBeq_t, Sx.iBeq_f, Sx.iBne_t, Sx.iBne_f, Nat.ble_eq, Nat.beq_eq, Sx.Cont.n] at z
   obtain ⟨s1, s2, s3⟩ := nx z
   have a6 : iBne (twN W l x + 1) (iOf (app (twK W l x) [el]).length) = false := by simp only [Bool.and_eq_true, Bool.or_eq_true, Sx.iLt_t, Sx.iLt_f, Sx.iLe_t, Sx.iLe_f, Sx.iEq_t, Sx.iEq_f, Sx.iBeq_t, Sx.iBeq_f, Sx.iBne_t, Sx.iBne_f, Nat.ble_eq, Nat.beq_eq, Sx.Cont.n, Sx.app, Sx.nAdd, Sx.nSub, Sx.nMul, Sx.nPow, Sx.nDiv, Sx.nMod, Sx.iAdd, Sx.iSub, Sx.iMul, Sx.iNeg, Sx.iPow, Sx.iOf, List.length_append, List.length_cons, List.length_nil]; omega
   rw [zN z, a6]
   refine Sx.if_true (by simp only [Bool.and_eq_true, Bool.or_eq_true, Sx.iLt_t, Sx.iLt_f, Sx.iLe_t, Sx.iLe_f, Sx.iEq_t, Sx.iEq_f, Sx.iBeq_t, Sx.iBeq_f, Sx.iBne_t, Sx.iBne_f, Nat.ble_eq, Nat.beq_eq, Sx.Cont.n, Sx.app, Sx.nAdd, Sx.nSub, Sx.nMul, Sx.nPow, Sx.nDiv, Sx.nMod, Sx.iAdd, Sx.iSub, Sx.iMul, Sx.iNeg, Sx.iPow, Sx.iOf]; omega) (Sx.if_false rfl ⟨x + 1, by simp only [Bool.and_eq_true, Bool.or_eq_true, Sx.iLt_t, Sx.iLt_f, Sx.iLe_t, Sx.iLe_f, Sx.iEq_t, Sx.iEq_f, Sx.iBeq_t, Sx.iBeq_f, Sx.iBne_t, Sx.iBne_f, Nat.ble_eq, Nat.beq_eq, Sx.Cont.n, Sx.app, Sx.nAdd, Sx.nSub, Sx.nMul, Sx.nPow, Sx.nDiv, Sx.nMod, Sx.iAdd, Sx.iSub, Sx.iMul, Sx.iNeg, Sx.iPow, Sx.iOf]; omega, by simp only [Sx.app, Sx.nAdd, Sx.nSub, Sx.nMul, Sx.nPow, Sx.nDiv, Sx.nMod, Sx.iAdd, Sx.iSub, Sx.iMul, Sx.iNeg, Sx.iPow, Sx.iOf]; omega, ⟨(by first | rfl | trivial), (by first | rfl | trivial), (by first | rfl | trivial), trivial⟩, by rw [s1], s2.symm, (by rw [s3]; rfl), (by first | rfl | trivial), trivial⟩)
  ·simp only [Bool.and_eq_true, Bool.or_eq_true, Sx.iLt_t, Sx.iLt_f, Sx.iLe_t, Sx.iLe_f, Sx.iEq_t, Sx.iEq_f, Sx.iBeq_t, Sx.iBeq_f, Sx.iBne_t, Sx.iBne_f, Nat.ble_eq, Nat.beq_eq, Sx.Cont.n] at z
   obtain ⟨s1, s2, s3⟩ := nn z
   have e23 : stE W (twN W l x) (twL W l x) (twN W l x) (AV (hE el)) = 23 := onE.resolve_left z
   have a6 : iBne 23 23 = false := by decide
   have a7 : iBne (twN W l x) (twN W l x) = false := by simp only [Bool.and_eq_true, Bool.or_eq_true, Sx.iLt_t, Sx.iLt_f, Sx.iLe_t, Sx.iLe_f, Sx.iEq_t, Sx.iEq_f, Sx.iBeq_t, Sx.iBeq_f, Sx.iBne_t, Sx.iBne_f, Nat.ble_eq, Nat.beq_eq, Sx.Cont.n]
   rw [zN' z, zL' z, e23]
   simp only [a1, a2, a6, a7, okl, Bool.and_true, Sx.If_t, Sx.If_f, beq_self_eq_true, Bool.not_true]
   exact ⟨x + 1, by simp only [Bool.and_eq_true, Bool.or_eq_true, Sx.iLt_t, Sx.iLt_f, Sx.iLe_t, Sx.iLe_f, Sx.iEq_t, Sx.iEq_f, Sx.iBeq_t, Sx.iBeq_f, Sx.iBne_t, Sx.iBne_f, Nat.ble_eq, Nat.beq_eq, Sx.Cont.n, Sx.app, Sx.nAdd, Sx.nSub, Sx.nMul, Sx.nPow, Sx.nDiv, Sx.nMod, Sx.iAdd, Sx.iSub, Sx.iMul, Sx.iNeg, Sx.iPow, Sx.iOf]; omega, by simp only [Sx.app, Sx.nAdd, Sx.nSub, Sx.nMul, Sx.nPow, Sx.nDiv, Sx.nMod, Sx.iAdd, Sx.iSub, Sx.iMul, Sx.iNeg, Sx.iPow, Sx.iOf]; omega, ⟨(by first | rfl | trivial), (by first | rfl | trivial), (by first | rfl | trivial), trivial⟩, by rw [s1], s2.symm, by rw [s3], (by first | rfl | trivial), trivial⟩
 ·simp only [Bool.and_eq_true, Bool.or_eq_true, Sx.iLt_t, Sx.iLt_f, Sx.iLe_t, Sx.iLe_f, Sx.iEq_t, Sx.iEq_f, Sx.iBeq_t, Sx.iBeq_f, Sx.iBne_t, Sx.iBne_f, Nat.ble_eq, Nat.beq_eq, Sx.Cont.n, Sx.app, Sx.nAdd, Sx.nSub, Sx.nMul, Sx.nPow, Sx.nDiv, Sx.nMod, Sx.iAdd, Sx.iSub, Sx.iMul, Sx.iNeg, Sx.iPow, Sx.iOf] at d
  obtain rfl : x = iOf l.length := by simp only [Sx.app, Sx.nAdd, Sx.nSub, Sx.nMul, Sx.nPow, Sx.nDiv, Sx.nMod, Sx.iAdd, Sx.iSub, Sx.iMul, Sx.iNeg, Sx.iPow, Sx.iOf]; omega
  clear nx nn onE zN zN' zL' hel
  generalize twN W l (iOf l.length) = Np at *
  generalize twL W l (iOf l.length) = Lp at *
  generalize twK W l (iOf l.length) = Kp at *
  refine ⟨⟨0, by simp only [Bool.and_eq_true, Bool.or_eq_true, Sx.iLt_t, Sx.iLt_f, Sx.iLe_t, Sx.iLe_f, Sx.iEq_t, Sx.iEq_f, Sx.iBeq_t, Sx.iBeq_f, Sx.iBne_t, Sx.iBne_f, Nat.ble_eq, Nat.beq_eq, Sx.Cont.n, Sx.app, Sx.nAdd, Sx.nSub, Sx.nMul, Sx.nPow, Sx.nDiv, Sx.nMod, Sx.iAdd, Sx.iSub, Sx.iMul, Sx.iNeg, Sx.iPow, Sx.iOf]; omega, ⟨(by first | rfl | trivial), (by first | rfl | trivial), (by first | rfl | trivial), trivial⟩, (by first | rfl | trivial), (by first | rfl | trivial), (by first | rfl | trivial), (by first | rfl | trivial), trivial⟩, fun y hy => ?_⟩
  simp only [Bool.and_eq_true, Bool.or_eq_true, Sx.iLt_t, Sx.iLt_f, Sx.iLe_t, Sx.iLe_f, Sx.iEq_t, Sx.iEq_f, Sx.iBeq_t, Sx.iBeq_f, Sx.iBne_t, Sx.iBne_f, Nat.ble_eq, Nat.beq_eq, Sx.Cont.n, Sx.app, Sx.nAdd, Sx.nSub, Sx.nMul, Sx.nPow, Sx.nDiv, Sx.nMod, Sx.iAdd, Sx.iSub, Sx.iMul, Sx.iNeg, Sx.iPow, Sx.iOf] at hy
  have w2 : IntKind.i64.wrap (iAdd y 1) = y + 1 := by
   simp only [Sx.app, Sx.nAdd, Sx.nSub, Sx.nMul, Sx.nPow, Sx.nDiv, Sx.nMod, Sx.iAdd, Sx.iSub, Sx.iMul, Sx.iNeg, Sx.iPow, Sx.iOf]; rw [IntKind.wrap_i64]
   omega
  rw [w2]
  refine Sx.if_both (fun d2 => ?_) (fun d2 => ?_)
  ·simp only [Bool.and_eq_true, Bool.or_eq_true, Sx.iLt_t, Sx.iLt_f, Sx.iLe_t, Sx.iLe_f, Sx.iEq_t, Sx.iEq_f, Sx.iBeq_t, Sx.iBeq_f, Sx.iBne_t, Sx.iBne_f, Nat.ble_eq, Nat.beq_eq, Sx.Cont.n] at d2
   obtain ⟨g1, g2⟩ := inv_get I hy.1 d2
   have k4 := e4 y.toNat (by omega)
   rw [Int.toNat_of_nonneg hy.1] at k4
   obtain ⟨E, hE'⟩ : ∃ E, eqv (AV (getF W Np y Lp)) (AV (hE (Kp.getD y.toNat []))) = E := ⟨_, rfl⟩
   have Et : E = true := by rw [← hE', eqv_AV, g2, k4]
   subst Et
   have a3 : iLe 0 y = true := by simp only [Bool.and_eq_true, Bool.or_eq_true, Sx.iLt_t, Sx.iLt_f, Sx.iLe_t, Sx.iLe_f, Sx.iEq_t, Sx.iEq_f, Sx.iBeq_t, Sx.iBeq_f, Sx.iBne_t, Sx.iBne_f, Nat.ble_eq, Nat.beq_eq, Sx.Cont.n]; omega
   have a4 : y.toNat.blt Kp.length = true := by rw [Nat.blt_eq]; omega
   have a5 : Nat.beq 32 32 = true := rfl
   have a8 : iLe (iNeg 9223372036854775808) y = true := by simp only [Bool.and_eq_true, Bool.or_eq_true, Sx.iLt_t, Sx.iLt_f, Sx.iLe_t, Sx.iLe_f, Sx.iEq_t, Sx.iEq_f, Sx.iBeq_t, Sx.iBeq_f, Sx.iBne_t, Sx.iBne_f, Nat.ble_eq, Nat.beq_eq, Sx.Cont.n, Sx.app, Sx.nAdd, Sx.nSub, Sx.nMul, Sx.nPow, Sx.nDiv, Sx.nMod, Sx.iAdd, Sx.iSub, Sx.iMul, Sx.iNeg, Sx.iPow, Sx.iOf]; omega
   simp only [a1, a2, a3, a4, a5, a8, g1, hE', okl, Bool.and_true, Bool.true_and, Bool.not_true, Sx.If_t, Sx.If_f]
   exact ⟨y + 1, by simp only [Bool.and_eq_true, Bool.or_eq_true, Sx.iLt_t, Sx.iLt_f, Sx.iLe_t, Sx.iLe_f, Sx.iEq_t, Sx.iEq_f, Sx.iBeq_t, Sx.iBeq_f, Sx.iBne_t, Sx.iBne_f, Nat.ble_eq, Nat.beq_eq, Sx.Cont.n, Sx.app, Sx.nAdd, Sx.nSub, Sx.nMul, Sx.nPow, Sx.nDiv, Sx.nMod, Sx.iAdd, Sx.iSub, Sx.iMul, Sx.iNeg, Sx.iPow, Sx.iOf]; omega, by simp only [Sx.app, Sx.nAdd, Sx.nSub, Sx.nMul, Sx.nPow, Sx.nDiv, Sx.nMod, Sx.iAdd, Sx.iSub, Sx.iMul, Sx.iNeg, Sx.iPow, Sx.iOf]; omega, ⟨(by first | rfl | trivial), (by first | rfl | trivial), (by first | rfl | trivial), trivial⟩, (by first | rfl | trivial), (by first | rfl | trivial), (by first | rfl | trivial), (by first | rfl | trivial), trivial⟩
  ·have a8 : iLe (iNeg 9223372036854775808) Np = true := by simp only [Bool.and_eq_true, Bool.or_eq_true, Sx.iLt_t, Sx.iLt_f, Sx.iLe_t, Sx.iLe_f, Sx.iEq_t, Sx.iEq_f, Sx.iBeq_t, Sx.iBeq_f, Sx.iBne_t, Sx.iBne_f, Nat.ble_eq, Nat.beq_eq, Sx.Cont.n, iNeg]; omega
   have go := (get_out (n := Np) (no := Np) (L := Lp) W (.inr (Int.le_refl _))).1
   simp only [a1, a2, a8, go, okl, Bool.and_true, Sx.If_t, Bool.not_false]
   exact ⟨(by first | rfl | trivial), trivial, trivial⟩
theorem wpc_two (O : OO) (R : OB) (W : OW) (l : List (List Int)) (F : FO O) (hr : R = bO) (hw : W = wO O) (hC : ∀ m : Nat → Int, O.isH (AV m) = true → byB (tabI m 32) = true) (h0 : (okH O l) = true) (h1 : (Nat.ble l.length 9223372036854775807) = true) : wpcI Tryd.prog (spW5 O R W) Tryd.f5.ntmps [⟨Int, [0, 2, 3, 4], [(200004, 5, .structs KK (List.replicate 21 [])), (5, 23, .structs KH [])], fun B j => [(5, .row (B + 1)), (6, .v (.int .i64 j))], fun B j => [(448, .blk 54 (.v (.int .i64 (twN W l j)) :: selList B 21 0)), (B, .sels KK (twL W l j)), (B + 1, .own 23 (.structs KH (twK W l j)))], fun j => (iLe 0 j && iLe j (iOf l.length)) = true, fun j => ((l.length : Int) - j).toNat, 0⟩, ⟨Int, [0, 2, 3, 4, 5], [], fun B j => [(9, .v (.int .i64 j))], fun B j => [], fun j => (iLe 0 j && iLe j (iOf (twK W l (iOf l.length)).length)) = true, fun j => ((twK W l (iOf l.length)).length - j).toNat, 0⟩] (bodyOf Tryd.f5) 0 64 (envP (mks [.roS KH] [.structs l] 0).1 0) (mks [.roS KH] [.structs l] 0).2 (retP Tryd.prog Tryd.f5.results.toList 1 (⟨[.v (.bool true)], []⟩ : Post)) :=
 Eq.mpr (by kernel_rfl) (vc_two O R W l F hr hw hC h0 h1)
theorem ok_two (O : OO) (hO : O = oo) (R : OB) (hR : R = bO) (W : OW) (hW : W = wO O) : Sx.SpecOK IT Tryd.prog 5 (pspec [.roS KH] false (g_two O R W)) := by
 refine spec_pI (spW5_ok O hO R hR W hW) (by kernel_rfl) (fun ds => match ds with | [.structs l] => [⟨Int, [0, 2, 3, 4], [(200004, 5, .structs KK (List.replicate 21 [])), (5, 23, .structs KH [])], fun B j => [(5, .row (B + 1)), (6, .v (.int .i64 j))], fun B j => [(448, .blk 54 (.v (.int .i64 (twN W l j)) :: selList B 21 0)), (B, .sels KK (twL W l j)), (B + 1, .own 23 (.structs KH (twK W l j)))], fun j => (iLe 0 j && iLe j (iOf l.length)) = true, fun j => ((l.length : Int) - j).toNat, 0⟩, ⟨Int, [0, 2, 3, 4, 5], [], fun B j => [(9, .v (.int .i64 j))], fun B j => [], fun j => (iLe 0 j && iLe j (iOf (twK W l (iOf l.length)).length)) = true, fun j => ((twK W l (iOf l.length)).length - j).toNat, 0⟩] | _ => []) Tryd.func5 (by kernel_rfl) (by kernel_rfl) rfl Tryd.ntmps5 (by decide) ?_ ?_
 ·intro ds p bs F h
  unfold g_two at h
  split at h
  ·rename_i l
   simp only [Option.some.injEq, Prod.mk.injEq] at h
   obtain ⟨_, _, rfl⟩ := h
   kernel_rfl
  ·cases h
 ·intro ds bs F hl h
  unfold g_two at h
  split at h
  ·rename_i l
   simp only [Option.some.injEq, Prod.mk.injEq, Bool.and_eq_true] at h
   obtain ⟨⟨h0, h1⟩, _, rfl⟩ := h
   exact wpc_two O R W l (fo_oo O hO) hR hW (by subst hO; exact by_isH) (by first | exact h0 | (simp only [Bool.and_eq_true]; exact h0)) (by first | exact h1 | (simp only [Bool.and_eq_true]; exact h1))
  ·cases h
theorem ecells_KH (x : List Int) : ecells KH (tabI (hE x) 32) = ecells KH x := by kernel_rfl
def nrmH (l : List (List Int)) : List (List Int) := l.map fun x => tabI (hE x) 32
theorem reads_nrmH {F : Nat → Prop} {w : World} {v : Value} {l : List (List Int)} (h : ReadsC F w v (.structs KH l)) : ReadsC F w v (.structs KH (nrmH l)) := by
 have e : (Sx.Cont.structs KH (nrmH l)).cells = (Sx.Cont.structs KH l).cells := by
  show (nrmH l).flatMap (fun xs => (ecells KH xs).toList) = l.flatMap (fun xs => (ecells KH xs).toList)
  unfold nrmH
  rw [List.flatMap_map]
  simp only [ecells_KH]
 have n : (Sx.Cont.structs KH (nrmH l)).n = (Sx.Cont.structs KH l).n := by
  show (nrmH l).length = l.length
  unfold nrmH; rw [List.length_map]
 unfold ReadsC
 rw [e, n]
 exact h
theorem okH_nrmH {l : List (List Int)} (h : okS KH l) : okH oo (nrmH l) = true := by
 unfold okH nrmH
 refine List.all_eq_true.2 fun x hx => ?_
 obtain ⟨y, hy, rfl⟩ := List.mem_map.1 hx
 obtain ⟨i, hi, rfl⟩ := List.mem_iff_getElem.1 hy
 have hb : ∀ j, j < 32 → 0 ≤ hE l[i] j ∧ hE l[i] j < 256 := fun j hj => by
  have hk : KH[j]? = some .u8 := by
   have : KH = List.replicate 32 IntKind.u8 := by decide
   rw [this, List.getElem?_replicate, if_pos hj]
  have := h i hi j .u8 hk
  rw [show l.getD i [] = l[i] by rw [List.getD_eq_getElem?_getD, List.getElem?_eq_getElem hi]; rfl] at this
  obtain ⟨n, hn, e⟩ := nat_u8 this
  have e : hE l[i] j = n := e
  rw [e]
  omega
 have hT : tabI (hE (tabI (hE l[i]) 32)) 32 = tabI (hE l[i]) 32 := tabE (tab32 _)
 have hA : AV (hE (tabI (hE l[i]) 32)) = AV (hE l[i]) := AV_list.2 hT
 rw [hA, Bool.and_eq_true]
 refine ⟨?_, by rw [tab32]; rfl⟩
 refine isH_oo (isHa_AV (tab32 _) fun x hx => ?_)
 have key : ∀ n : Nat, n ≤ 32 → ∀ x ∈ tabI (hE l[i]) n, 0 ≤ x ∧ x < 256 := by
  intro n
  induction n with
  | zero => intro _ x hx; cases hx
  | succ n ih =>
   intro hn x hx
   rw [tabI, List.mem_append, List.mem_singleton] at hx
   rcases hx with hx | rfl
   ·exact ih (by omega) x hx
   ·exact hb n (by omega)
 exact key 32 (Nat.le_refl _) x hx
theorem walk_two (w : World) (ha : AmbW IT w) (a_l : Option Addr) (len_l cap_l : Nat) (z_l : List (List Int)) (hr : IsRowS KH w a_l len_l cap_l z_l) (hs : ∀ x, a_l = some x → x.spot = none ∧ x.block < w.heap.size) :
  Calls Tryd.prog 5 #[.slice a_l len_l cap_l] w fun e w' => e = .returned (.bool true) ∧ Kp w w' := by
 have hl := (rowS_len hr).1
 have hg : g_two oo bO (wO oo) [.structs (nrmH (z_l.take len_l))] = some (true, [], fun _ => ⟨[.v (.bool true)], []⟩) := by
  show some (okH oo (nrmH (z_l.take len_l)) && Nat.ble (nrmH (z_l.take len_l)).length 9223372036854775807, ([] : List Bool), _) = _
  rw [okH_nrmH (rowS_ok hr), show (nrmH (z_l.take len_l)).length = len_l by unfold nrmH; rw [List.length_map, hl], (rowS_len hr).2]
  rfl
 exact (calls_pats (ok_two oo rfl bO rfl (wO oo) rfl) [.slice a_l len_l cap_l] (fun _ b => ∃ x, a_l = some x ∧ x.block = b) (cs := [.structs KH (nrmH (z_l.take len_l))]) (xs := [.row 0])
  (fun i c hc => by match i, hc with | 0, hc => cases hc; exact reads_nrmH (rowS_reads (by decide) hr hs)) (fun i c b hc hb => by obtain ⟨x, hx, rfl⟩ := hb; exact (hs x hx).2) rfl (by show 1 ≤ 8; decide) rfl rfl hg).mono fun _ _ ⟨he, hf⟩ => ⟨he, fr_below hf⟩
end Go.Proofs.YtebffdgghkomjaaDoor
