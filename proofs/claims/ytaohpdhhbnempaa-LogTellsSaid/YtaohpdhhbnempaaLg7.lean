/- LogTells: the walk, by the symbolic machine (printed by genLg7.py; VCs by VcTool). -/
import Derived.Test.YtaohpdhhbnempaaLv
namespace Go.Proofs.Ytaohpdhhbnempaa
open Go.RowKit Go.Lib Ckp Cfd Cpd Sx
set_option linter.unusedVariables false
set_option linter.unusedSimpArgs false
set_option maxRecDepth 1000000
theorem rowsB_mem {O : OO} {R : OB} (hr : R = bO) : ∀ {X : List (List Int)} {x : List Int}, x ∈ X → x.length ≤ (rowsB O R X).length
 | y :: ys, x, h => by
  rw [rowsB, List.length_append]
  rcases List.mem_cons.1 h with rfl | h
  ·have := lg_len (O := O) hr x; omega
  ·have := rowsB_mem (O := O) hr h; omega
theorem kpX_len {O : OO} {R : OB} {l : List (List Int)} (hL : ∀ x ∈ l, x.length ≤ 100) {fr bu : Int} : ∀ (k : Nat), ∀ y ∈ kpX O R l fr bu k, y.length ≤ 100
 | 0, y, h => by cases h
 | k + 1, y, h => by
  have ih := kpX_len (O := O) (R := R) hL (fr := fr) (bu := bu) k
  have h : y ∈ (kp1 O R (kpS O R l fr bu k) (l.getD k [])).X := h
  have hg : (l.getD k []).length ≤ 100 := by
   by_cases q : k < l.length
   ·rw [List.getD_eq_getElem?_getD, List.getElem?_eq_getElem q]; exact hL _ (List.getElem_mem q)
   ·rw [List.getD_eq_getElem?_getD, List.getElem?_eq_none (by omega)]; exact Nat.zero_le _
  have ih : ∀ y ∈ (kpS O R l fr bu k).X, y.length ≤ 100 := ih
  unfold kp1 at h
  cases c1 : (kpS O R l fr bu k).D
  ·rw [c1, cond_false] at h
   cases c2 : kpF O R (kpS O R l fr bu k) (l.getD k [])
   ·rw [c2, cond_false] at h
    cases c3 : kpG O R (kpS O R l fr bu k) (l.getD k [])
    ·rw [c3, cond_false] at h
     rcases List.mem_append.1 h with h | h
     ·exact ih y h
     ·rw [List.mem_singleton.1 h]; exact hg
    ·rw [c3, cond_true] at h; exact ih y h
   ·rw [c2, cond_true] at h; exact ih y h
  ·rw [c1, cond_true] at h; exact ih y h
def g_gtells (O : OO) (R : OB) (ds : List Dt) : Option (Bool × List Bool × (List Bool → Post)) := match ds with
 | [.ints b, .rows l, .v (.int .i64 bu)] => some ((byB b) && (l.all byB) && (iLe (-9223372036854775808) bu && iLe bu 9223372036854775807), [], fun _ => ⟨[.v (.bool true)], []⟩)
 | _ => none
set_option maxHeartbeats 4000000 in
theorem vc_gtells (O : OO) (R : OB) (b : List Int) (l : List (List Int)) (bu : Int) (F : FO O) (hr : R = bO) (hS : SB O) (h0 : (byB b) = true) (h1 : (l.all byB) = true) (h2 : (iLe (-9223372036854775808) bu && iLe bu 9223372036854775807) = true) :
 If (!fwE l) (Value.bool true = Value.bool true ∧ True ∧ True) (If (iLt 500 (iOf (Cont.ints .u8 b).n)) (Value.bool true = Value.bool true ∧ True ∧ True) (If ((nMul (nAdd 0 b.length)
  1).ble 140737488355328 && (nAdd 0 b.length).ble 9223372036854775807) (If ((app [] b).length.ble 1000000 && byB (app [] b)) (If (b.length.ble 1000000 && byB b) (If ((lgRows O R (app
  [] b)).length.ble 1000000 && (lgRows O R (app [] b)).all fun (x : List Int) => x.length.ble 1000000) (If ((lgRows O R (app [] b)).length.ble 1000000) (If (!sameR (lgRows O R (app []
  b)) (lgRows O R b)) (Value.bool false = Value.bool true ∧ True ∧ True) (If (iBne (iOf (lgEnd O R (app [] b))) (iOf (lgEnd O R b))) (Value.bool false = Value.bool true ∧ True ∧ True)
  (If (iLe 0 0 && iLe 0 (iOf (lgEnd O R b)) && iLe (iOf (lgEnd O R b)) (iOf (Cont.ints .u8 b).n)) (If (!(strOfNums (List.take (lgEnd O R (app [] b)) (app [] b))).toList == (strOfNums
  (List.take (nSub (iOf (lgEnd O R b)).toNat 0) (List.drop 0 b))).toList) (Value.bool false = Value.bool true ∧ True ∧ True) (If (fwE l && (iLe 0 (iOf (lgEnd O R b)) && iLe (iOf
  (lgEnd O R b)) 4194304) && (iLe (iNeg 9223372036854775808) bu && iLe bu 9223372036854775807)) ((∃ (x : Nat), x ≤ l.length ∧ (Value.int .i64 0 = Value.int .i64 (iOf x) ∧ Value.int
  .i64 bu = Value.int .i64 bu ∧ Value.bool true = Value.bool true ∧ Value.int .i64 0 = Value.int .i64 0 ∧ Value.int .i64 (iOf (lgEnd O R b)) = Value.int .i64 (iOf (lgEnd O R b)) ∧
  Value.int .i64 (kpT O R l (iOf (lgEnd O R b)) bu l.length) = Value.int .i64 (kpT O R l (iOf (lgEnd O R b)) bu l.length) ∧ True) ∧ (Value.int .i64 bu = Value.int .i64 (tlB O R b l bu
  x) ∧ Value.bool false = Value.bool (tlD O R b l bu x)) ∧ EqI (List.take (lgEnd O R (app [] b)) (app [] b)) (tlL O R b l bu x) ∧ (Value.int .i64 (iOf (lgEnd O R (app [] b))) =
  Value.int .i64 (tlN O R b l bu x) ∧ Value.bool false = Value.bool (tlR O R b l bu x)) ∧ EqII (lgRows O R (app [] b)) (tlX O R b l bu x) ∧ EqI (kpE O R l (iOf (lgEnd O R b)) bu
  l.length) (kpE O R l (iOf (lgEnd O R b)) bu l.length) ∧ EqII (kpX O R l (iOf (lgEnd O R b)) bu l.length) (kpX O R l (iOf (lgEnd O R b)) bu l.length) ∧ EqII (lgRows O R b) (lgRows O
  R b) ∧ EqII (lgRows O R (app [] b)) (lgRows O R (app [] b)) ∧ EqI b b ∧ Res.ros l = Res.ros l ∧ True) ∧ ∀ (x : Nat), x ≤ l.length → If (iLt (iOf x) (iOf l.length)) (If (iLe 0 (iOf
  x) && (iOf x).toNat.blt l.length) (If (true && !false && Nat.beq 1 1 && Nat.beq 0 0 && (iOf x).toNat.blt l.length) (If ((tlL O R b l bu x).length.ble 4194304 && (l.getD (iOf
  x).toNat []).length.ble 1000000 && (tlX O R b l bu x).length.ble 1000000 && (iLe (iNeg 9223372036854775808) (tlB O R b l bu x) && iLe (tlB O R b l bu x) 9223372036854775807) && (iLe
  0 (tlN O R b l bu x) && iLe (tlN O R b l bu x) 4194304)) (If (iLe 0 (iOf x) && (iOf x).toNat.blt (kpE O R l (iOf (lgEnd O R b)) bu l.length).length) (If (true && Nat.beq 1 1 && (iOf
  x).toNat.blt (kpE O R l (iOf (lgEnd O R b)) bu l.length).length) (If (iBne (apE O R (tlL O R b l bu x) (tlB O R b l bu x) (tlD O R b l bu x) (tlR O R b l bu x) (tlN O R b l bu x)
  (l.getD (iOf x).toNat [])) ((kpE O R l (iOf (lgEnd O R b)) bu l.length).getD (iOf x).toNat 0)) (Value.bool false = Value.bool true ∧ True ∧ True) (If (iLe 0 (iOf x) && (iOf
  x).toNat.blt l.length) (If (true && !false && Nat.beq 1 1 && Nat.beq 0 0 && (iOf x).toNat.blt l.length) (If ((l.getD (iOf x).toNat []).length.ble 1000000) (If (iLe 0 (iOf x) && (iOf
  x).toNat.blt l.length) (If (true && !false && Nat.beq 1 1 && Nat.beq 0 0 && (iOf x).toNat.blt l.length) (If ((l.getD (iOf x).toNat []).length.ble 1000000) (If (!(strOfNums (lgRow O
  R (l.getD (iOf x).toNat []))).toList == (strOfNums (lgRow O R (l.getD (iOf x).toNat []))).toList) (Value.bool false = Value.bool true ∧ True ∧ True) (∃ (x' : Nat), x' ≤ l.length ∧
  (nSub l.length x').succ ≤ nSub l.length x ∧ (Value.int .i64 (IntKind.i64.wrap (iAdd (iOf x) 1)) = Value.int .i64 (iOf x') ∧ Value.int .i64 bu = Value.int .i64 bu ∧ Value.bool true =
  Value.bool true ∧ Value.int .i64 0 = Value.int .i64 0 ∧ Value.int .i64 (iOf (lgEnd O R b)) = Value.int .i64 (iOf (lgEnd O R b)) ∧ Value.int .i64 (kpT O R l (iOf (lgEnd O R b)) bu
  l.length) = Value.int .i64 (kpT O R l (iOf (lgEnd O R b)) bu l.length) ∧ True) ∧ (Value.int .i64 (apB O R (tlL O R b l bu x) (tlB O R b l bu x) (tlD O R b l bu x) (tlR O R b l bu x)
  (tlN O R b l bu x) (l.getD (iOf x).toNat [])) = Value.int .i64 (tlB O R b l bu x') ∧ Value.bool (apD O R (tlL O R b l bu x) (tlB O R b l bu x) (tlD O R b l bu x) (tlR O R b l bu x)
  (tlN O R b l bu x) (l.getD (iOf x).toNat [])) = Value.bool (tlD O R b l bu x')) ∧ EqI (apL O R (tlL O R b l bu x) (tlB O R b l bu x) (tlD O R b l bu x) (tlR O R b l bu x) (tlN O R b
  l bu x) (l.getD (iOf x).toNat [])) (tlL O R b l bu x') ∧ (Value.int .i64 (apM O R (tlL O R b l bu x) (tlB O R b l bu x) (tlD O R b l bu x) (tlR O R b l bu x) (tlN O R b l bu x)
  (l.getD (iOf x).toNat [])) = Value.int .i64 (tlN O R b l bu x') ∧ Value.bool (apR O R (tlL O R b l bu x) (tlB O R b l bu x) (tlD O R b l bu x) (tlR O R b l bu x) (tlN O R b l bu x)
  (l.getD (iOf x).toNat [])) = Value.bool (tlR O R b l bu x')) ∧ EqII (apX O R (tlL O R b l bu x) (tlB O R b l bu x) (tlD O R b l bu x) (tlR O R b l bu x) (tlN O R b l bu x) (l.getD
  (iOf x).toNat []) (tlX O R b l bu x)) (tlX O R b l bu x') ∧ EqI (kpE O R l (iOf (lgEnd O R b)) bu l.length) (kpE O R l (iOf (lgEnd O R b)) bu l.length) ∧ EqII (kpX O R l (iOf (lgEnd
  O R b)) bu l.length) (kpX O R l (iOf (lgEnd O R b)) bu l.length) ∧ EqII (lgRows O R b) (lgRows O R b) ∧ EqII (lgRows O R (app [] b)) (lgRows O R (app [] b)) ∧ EqI b b ∧ Res.ros l =
  Res.ros l ∧ True)) False) False) False) False) False) False)) False) False) False) False) False) (If ((nMul (nAdd 0 (lgRows O R b).length) 24).ble 140737488355328 && (nAdd 0 (lgRows
  O R b).length).ble 9223372036854775807) (If ((nMul (nAdd (app [] (lgRows O R b)).length (kpX O R l (iOf (lgEnd O R b)) bu l.length).length) 24).ble 140737488355328 && (nAdd (app []
  (lgRows O R b)).length (kpX O R l (iOf (lgEnd O R b)) bu l.length).length).ble 9223372036854775807) (If ((app (app [] (lgRows O R b)) (kpX O R l (iOf (lgEnd O R b)) bu
  l.length)).length.ble 1000 && (app (app [] (lgRows O R b)) (kpX O R l (iOf (lgEnd O R b)) bu l.length)).all fun (x : List Int) => x.length.ble 1000) (If ((tlX O R b l bu
  x).length.ble 1000000 && (tlX O R b l bu x).all fun (x : List Int) => x.length.ble 1000000) (If ((tlX O R b l bu x).length.ble 1000000) (If (!sameR (tlX O R b l bu x) (app (app []
  (lgRows O R b)) (kpX O R l (iOf (lgEnd O R b)) bu l.length))) (Value.bool false = Value.bool true ∧ True ∧ True) (If (iBne (tlN O R b l bu x) (iOf (rowsB O R (app (app [] (lgRows O
  R b)) (kpX O R l (iOf (lgEnd O R b)) bu l.length))).length)) (Value.bool false = Value.bool true ∧ True ∧ True) (If (iBne (iOf (tlL O R b l bu x).length) (IntKind.i64.wrap (iAdd
  (iOf (rowsB O R (app (app [] (lgRows O R b)) (kpX O R l (iOf (lgEnd O R b)) bu l.length))).length) (kpT O R l (iOf (lgEnd O R b)) bu l.length)))) (Value.bool false = Value.bool true
  ∧ True ∧ True) (If (iLe 0 0 && iLe 0 (iOf (rowsB O R (app (app [] (lgRows O R b)) (kpX O R l (iOf (lgEnd O R b)) bu l.length))).length) && iLe (iOf (rowsB O R (app (app [] (lgRows O
  R b)) (kpX O R l (iOf (lgEnd O R b)) bu l.length))).length) (iOf (tlL O R b l bu x).length)) (If (!(strOfNums (List.take (nSub (iOf (rowsB O R (app (app [] (lgRows O R b)) (kpX O R
  l (iOf (lgEnd O R b)) bu l.length))).length).toNat 0) (List.drop 0 (tlL O R b l bu x)))).toList == (strOfNums (rowsB O R (app (app [] (lgRows O R b)) (kpX O R l (iOf (lgEnd O R b))
  bu l.length)))).toList) (Value.bool false = Value.bool true ∧ True ∧ True) (Value.bool (tlR O R b l bu x == tlD O R b l bu x) = Value.bool true ∧ True ∧ True)) False)))) False)
  False) False) False) False)) False)) False))) False) False) False) False) False)) := by
 have hB : ∀ x ∈ l, byB x = true := fun x hx => List.all_eq_true.1 h1 x hx
 have hn : ∀ k : Nat, (iOf k).toNat = k := fun k => by simp only [Sx.app, Sx.nAdd, Sx.nSub, Sx.nMul, Sx.nPow, Sx.nDiv, Sx.nMod, Sx.iAdd, Sx.iSub, Sx.iMul, Sx.iNeg, Sx.iPow, Sx.iOf, Int.toNat_natCast]
 simp only [Sx.app, List.nil_append, hn, Sx.nSub, Nat.sub_zero, List.drop_zero]
 refine Sx.if_both (fun _ => ⟨(by first | rfl | trivial), trivial, trivial⟩) (fun hf => Sx.if_both (fun _ => ⟨(by first | rfl | trivial), trivial, trivial⟩) (fun n5 => ?_))
 have hfw : fwE l = true := (Bool.not_eq_false' _).mp hf
 obtain ⟨l20, hL⟩ := few_all hfw
 simp only [Bool.and_eq_true, Bool.or_eq_true, Sx.iLt_t, Sx.iLt_f, Sx.iLe_t, Sx.iLe_f, Sx.iEq_t, Sx.iEq_f, Sx.iBeq_t, Sx.iBeq_f, Sx.iBne_t, Sx.iBne_f, Nat.ble_eq, Nat.beq_eq, Sx.Cont.n, Sx.app, Sx.nAdd, Sx.nSub, Sx.nMul, Sx.nPow, Sx.nDiv, Sx.nMod, Sx.iAdd, Sx.iSub, Sx.iMul, Sx.iNeg, Sx.iPow, Sx.iOf] at n5 h2
 have n5 : b.length ≤ 500 := by omega
 have hR : ∀ n : Int, (R.row n).length ≤ 10 := row_len hr
 have lb := lg_bytes hS hr h0 (b.length + 1)
 have e1 : b.take (lgEnd O R b) = rowsB O R (lgRows O R b) := lb.1
 have e2 : lgEnd O R b ≤ b.length := lb.2
 have e3 : (rowsB O R (lgRows O R b)).length = lgEnd O R b := by rw [← e1, List.length_take]; omega
 have g1 : (lgRows O R b).length ≤ 500 := by have := rowsB_len (O := O) hr (lgRows O R b); omega
 have g2 : ∀ x ∈ lgRows O R b, x.length ≤ 500 := fun x hx => by have := rowsB_mem (O := O) hr hx; omega
 have hall : ∀ (c : Nat) (z : List (List Int)), (∀ x ∈ z, x.length ≤ c) → ∀ d, c ≤ d → (z.all fun (x : List Int) => x.length.ble d) = true := fun c z hz d hd => by
  rw [List.all_eq_true]
  intro x hx
  rw [Nat.ble_eq]
  have := hz x hx
  omega
 have T : ∀ k, k ≤ l.length → TlI O R (lgRows O R b) (tlA O R b l bu k) (kpS O R l (lgEnd O R b : Nat) bu k) (500 + 118 * k) := tl_inv hS hr hR h0 n5 hL l20 (by omega)
 have EE := tl_errs hS hr hR h0 n5 hL l20 (bu := bu) (by omega) l.length (Nat.le_refl _)
 have eE : (kpE O R l (iOf (lgEnd O R b)) bu l.length).length = l.length := EE.1
 have eG : ∀ i, i < l.length → (kpE O R l (iOf (lgEnd O R b)) bu l.length).getD i 0 = apE O R (tlL O R b l bu i) (tlB O R b l bu i) (tlD O R b l bu i) (tlR O R b l bu i) (tlN O R b l bu i) (l.getD i []) := EE.2
 rw [hall 500 _ g2 1000000 (by decide), h0, hfw, e1, eE]
 refine Sx.if_true (by simp only [Bool.and_eq_true, Bool.or_eq_true, Sx.iLt_t, Sx.iLt_f, Sx.iLe_t, Sx.iLe_f, Sx.iEq_t, Sx.iEq_f, Sx.iBeq_t, Sx.iBeq_f, Sx.iBne_t, Sx.iBne_f, Nat.ble_eq, Nat.beq_eq, Sx.Cont.n, Sx.app, Sx.nAdd, Sx.nSub, Sx.nMul, Sx.nPow, Sx.nDiv, Sx.nMod, Sx.iAdd, Sx.iSub, Sx.iMul, Sx.iNeg, Sx.iPow, Sx.iOf]; omega) (Sx.if_true (by simp only [Bool.and_eq_true, Bool.or_eq_true, Sx.iLt_t, Sx.iLt_f, Sx.iLe_t, Sx.iLe_f, Sx.iEq_t, Sx.iEq_f, Sx.iBeq_t, Sx.iBeq_f, Sx.iBne_t, Sx.iBne_f, Nat.ble_eq, Nat.beq_eq, Sx.Cont.n]; exact ⟨by omega, trivial⟩) (Sx.if_true (by simp only [Bool.and_eq_true, Bool.or_eq_true, Sx.iLt_t, Sx.iLt_f, Sx.iLe_t, Sx.iLe_f, Sx.iEq_t, Sx.iEq_f, Sx.iBeq_t, Sx.iBeq_f, Sx.iBne_t, Sx.iBne_f, Nat.ble_eq, Nat.beq_eq, Sx.Cont.n]; exact ⟨by omega, trivial⟩) (Sx.if_true (by simp only [Bool.and_eq_true, Bool.or_eq_true, Sx.iLt_t, Sx.iLt_f, Sx.iLe_t, Sx.iLe_f, Sx.iEq_t, Sx.iEq_f, Sx.iBeq_t, Sx.iBeq_f, Sx.iBne_t, Sx.iBne_f, Nat.ble_eq, Nat.beq_eq, Sx.Cont.n]; exact ⟨by omega, trivial⟩) (Sx.if_true (by simp only [Bool.and_eq_true, Bool.or_eq_true, Sx.iLt_t, Sx.iLt_f, Sx.iLe_t, Sx.iLe_f, Sx.iEq_t, Sx.iEq_f, Sx.iBeq_t, Sx.iBeq_f, Sx.iBne_t, Sx.iBne_f, Nat.ble_eq, Nat.beq_eq, Sx.Cont.n]; omega) (Sx.if_false (by rw [sameR_refl]; rfl) (Sx.if_false (by simp only [Bool.and_eq_true, Bool.or_eq_true, Sx.iLt_t, Sx.iLt_f, Sx.iLe_t, Sx.iLe_f, Sx.iEq_t, Sx.iEq_f, Sx.iBeq_t, Sx.iBeq_f, Sx.iBne_t, Sx.iBne_f, Nat.ble_eq, Nat.beq_eq, Sx.Cont.n]) (Sx.if_true (by simp only [Bool.and_eq_true, Bool.or_eq_true, Sx.iLt_t, Sx.iLt_f, Sx.iLe_t, Sx.iLe_f, Sx.iEq_t, Sx.iEq_f, Sx.iBeq_t, Sx.iBeq_f, Sx.iBne_t, Sx.iBne_f, Nat.ble_eq, Nat.beq_eq, Sx.Cont.n, Sx.app, Sx.nAdd, Sx.nSub, Sx.nMul, Sx.nPow, Sx.nDiv, Sx.nMod, Sx.iAdd, Sx.iSub, Sx.iMul, Sx.iNeg, Sx.iPow, Sx.iOf]; omega) (Sx.if_false (by simp) (Sx.if_true (by simp only [Bool.and_eq_true, Bool.or_eq_true, Sx.iLt_t, Sx.iLt_f, Sx.iLe_t, Sx.iLe_f, Sx.iEq_t, Sx.iEq_f, Sx.iBeq_t, Sx.iBeq_f, Sx.iBne_t, Sx.iBne_f, Nat.ble_eq, Nat.beq_eq, Sx.Cont.n, Sx.app, Sx.nAdd, Sx.nSub, Sx.nMul, Sx.nPow, Sx.nDiv, Sx.nMod, Sx.iAdd, Sx.iSub, Sx.iMul, Sx.iNeg, Sx.iPow, Sx.iOf]; exact ⟨⟨trivial, by omega⟩, by omega⟩) ?_)))))))))
 refine ⟨⟨0, Nat.zero_le _, ⟨(by first | rfl | trivial), (by first | rfl | trivial), (by first | rfl | trivial), (by first | rfl | trivial), (by first | rfl | trivial), (by first | rfl | trivial), trivial⟩, ⟨(by first | rfl | trivial), (by first | rfl | trivial)⟩, ?_, ⟨(by first | rfl | trivial), (by first | rfl | trivial)⟩, (by first | rfl | trivial), (by first | rfl | trivial), (by first | rfl | trivial), (by first | rfl | trivial), (by first | rfl | trivial), (by first | rfl | trivial), (by first | rfl | trivial), trivial⟩, fun x hx => ?_⟩
 ·show rowsB O R (lgRows O R b) = tlL O R b l bu 0
  rw [← e1]; rfl
 have I := T x hx
 have X1 : tlX O R b l bu x = lgRows O R b ++ kpX O R l (iOf (lgEnd O R b)) bu x := I.X
 have X2 : tlN O R b l bu x = ((rowsB O R (tlX O R b l bu x)).length : Int) := I.N
 have X3 : (rowsB O R (tlX O R b l bu x)).length ≤ 500 + 118 * x := I.sz
 have X4 : -9223372036854775808 ≤ tlB O R b l bu x ∧ tlB O R b l bu x ≤ 9223372036854775807 := I.bu
 obtain ⟨t, t1, t2, t3, t4⟩ := I.torn
 have t1 : tlL O R b l bu x = rowsB O R (tlX O R b l bu x) ++ t := t1
 have t2 : (t.length : Int) = kpT O R l (iOf (lgEnd O R b)) bu x := t2
 have X5 : (tlL O R b l bu x).length = (rowsB O R (tlX O R b l bu x)).length + t.length := by rw [t1, List.length_append]
 have X6 : (tlX O R b l bu x).length ≤ (rowsB O R (tlX O R b l bu x)).length := rowsB_len (O := O) hr _
 refine Sx.if_both (fun d => ?_) (fun d => ?_)
 ·simp only [Bool.and_eq_true, Bool.or_eq_true, Sx.iLt_t, Sx.iLt_f, Sx.iLe_t, Sx.iLe_f, Sx.iEq_t, Sx.iEq_f, Sx.iBeq_t, Sx.iBeq_f, Sx.iBne_t, Sx.iBne_f, Nat.ble_eq, Nat.beq_eq, Sx.Cont.n, Sx.app, Sx.nAdd, Sx.nSub, Sx.nMul, Sx.nPow, Sx.nDiv, Sx.nMod, Sx.iAdd, Sx.iSub, Sx.iMul, Sx.iNeg, Sx.iPow, Sx.iOf] at d
  have hk : x < l.length := by omega
  have hbk : x.blt l.length = true := by rw [Nat.blt_eq]; exact hk
  have w1 : IntKind.i64.wrap (iAdd (iOf x) 1) = iOf (x + 1) := by simp only [Sx.app, Sx.nAdd, Sx.nSub, Sx.nMul, Sx.nPow, Sx.nDiv, Sx.nMod, Sx.iAdd, Sx.iSub, Sx.iMul, Sx.iNeg, Sx.iPow, Sx.iOf]; rw [IntKind.wrap_i64]; omega
  have gl : (l.getD x []).length ≤ 100 := by
   rw [List.getD_eq_getElem?_getD, List.getElem?_eq_getElem hk]
   exact hL _ (List.getElem_mem hk)
  have hidx : (iLe 0 (iOf x) && true) = true := by simp only [Bool.and_eq_true, Bool.or_eq_true, Sx.iLt_t, Sx.iLt_f, Sx.iLe_t, Sx.iLe_f, Sx.iEq_t, Sx.iEq_f, Sx.iBeq_t, Sx.iBeq_f, Sx.iBne_t, Sx.iBne_f, Nat.ble_eq, Nat.beq_eq, Sx.Cont.n, Sx.app, Sx.nAdd, Sx.nSub, Sx.nMul, Sx.nPow, Sx.nDiv, Sx.nMod, Sx.iAdd, Sx.iSub, Sx.iMul, Sx.iNeg, Sx.iPow, Sx.iOf]; exact ⟨by omega, trivial⟩
  rw [hbk, w1]
  refine Sx.if_true hidx (Sx.if_true rfl (Sx.if_true (by simp only [Bool.and_eq_true, Bool.or_eq_true, Sx.iLt_t, Sx.iLt_f, Sx.iLe_t, Sx.iLe_f, Sx.iEq_t, Sx.iEq_f, Sx.iBeq_t, Sx.iBeq_f, Sx.iBne_t, Sx.iBne_f, Nat.ble_eq, Nat.beq_eq, Sx.Cont.n, Sx.app, Sx.nAdd, Sx.nSub, Sx.nMul, Sx.nPow, Sx.nDiv, Sx.nMod, Sx.iAdd, Sx.iSub, Sx.iMul, Sx.iNeg, Sx.iPow, Sx.iOf]; omega) (Sx.if_true hidx (Sx.if_true rfl (Sx.if_false (by simp only [Bool.and_eq_true, Bool.or_eq_true, Sx.iLt_t, Sx.iLt_f, Sx.iLe_t, Sx.iLe_f, Sx.iEq_t, Sx.iEq_f, Sx.iBeq_t, Sx.iBeq_f, Sx.iBne_t, Sx.iBne_f, Nat.ble_eq, Nat.beq_eq, Sx.Cont.n]; exact (eG x hk).symm) (Sx.if_true hidx (Sx.if_true rfl (Sx.if_true (by simp only [Bool.and_eq_true, Bool.or_eq_true, Sx.iLt_t, Sx.iLt_f, Sx.iLe_t, Sx.iLe_f, Sx.iEq_t, Sx.iEq_f, Sx.iBeq_t, Sx.iBeq_f, Sx.iBne_t, Sx.iBne_f, Nat.ble_eq, Nat.beq_eq, Sx.Cont.n]; omega) (Sx.if_true hidx (Sx.if_true rfl (Sx.if_true (by simp only [Bool.and_eq_true, Bool.or_eq_true, Sx.iLt_t, Sx.iLt_f, Sx.iLe_t, Sx.iLe_f, Sx.iEq_t, Sx.iEq_f, Sx.iBeq_t, Sx.iBeq_f, Sx.iBne_t, Sx.iBne_f, Nat.ble_eq, Nat.beq_eq, Sx.Cont.n]; omega) (Sx.if_false (by simp) ?_))))))))))))
  exact ⟨x + 1, hk, by omega, ⟨(by first | rfl | trivial), (by first | rfl | trivial), (by first | rfl | trivial), (by first | rfl | trivial), (by first | rfl | trivial), (by first | rfl | trivial), trivial⟩, ⟨(by first | rfl | trivial), (by first | rfl | trivial)⟩, (by first | rfl | trivial), ⟨(by first | rfl | trivial), (by first | rfl | trivial)⟩, (by first | rfl | trivial), (by first | rfl | trivial), (by first | rfl | trivial), (by first | rfl | trivial), (by first | rfl | trivial), (by first | rfl | trivial), (by first | rfl | trivial), trivial⟩
 ·simp only [Bool.and_eq_true, Bool.or_eq_true, Sx.iLt_t, Sx.iLt_f, Sx.iLe_t, Sx.iLe_f, Sx.iEq_t, Sx.iEq_f, Sx.iBeq_t, Sx.iBeq_f, Sx.iBne_t, Sx.iBne_f, Nat.ble_eq, Nat.beq_eq, Sx.Cont.n, Sx.app, Sx.nAdd, Sx.nSub, Sx.nMul, Sx.nPow, Sx.nDiv, Sx.nMod, Sx.iAdd, Sx.iSub, Sx.iMul, Sx.iNeg, Sx.iPow, Sx.iOf] at d
  obtain rfl : x = l.length := by omega
  have k1 : (kpX O R l (iOf (lgEnd O R b)) bu l.length).length ≤ 20 := by
   have := (kp_inv (O := O) (R := R) (l := l) (fr := (lgEnd O R b : Nat)) (bu := bu) (by omega) (by omega) l.length).x
   have : (kpX O R l (iOf (lgEnd O R b)) bu l.length).length ≤ l.length := this
   omega
  have k2 : ∀ y ∈ kpX O R l (iOf (lgEnd O R b)) bu l.length, y.length ≤ 100 := kpX_len hL _
  rw [← X1]
  have x2 : ∀ y ∈ tlX O R b l bu l.length, y.length ≤ 500 := fun y hy => by
   rw [X1] at hy
   rcases List.mem_append.1 hy with h | h
   ·exact g2 y h
   ·exact Nat.le_trans (k2 y h) (by decide)
  have x3 : (tlX O R b l bu l.length).length ≤ 520 := by rw [X1, List.length_append]; omega
  have w2 : IntKind.i64.wrap (iAdd (iOf (rowsB O R (tlX O R b l bu l.length)).length) (kpT O R l (iOf (lgEnd O R b)) bu l.length)) = iOf (tlL O R b l bu l.length).length := by
   rw [X5, ← t2]; simp only [Sx.app, Sx.nAdd, Sx.nSub, Sx.nMul, Sx.nPow, Sx.nDiv, Sx.nMod, Sx.iAdd, Sx.iSub, Sx.iMul, Sx.iNeg, Sx.iPow, Sx.iOf]; rw [IntKind.wrap_i64]; omega
  rw [hall 500 _ x2 1000 (by decide), hall 500 _ x2 1000000 (by decide), w2]
  have tk : List.take (rowsB O R (tlX O R b l bu l.length)).length (tlL O R b l bu l.length) = rowsB O R (tlX O R b l bu l.length) := by
   rw [t1]; exact List.take_left' rfl
  rw [tk]
  refine Sx.if_true (by simp only [Bool.and_eq_true, Bool.or_eq_true, Sx.iLt_t, Sx.iLt_f, Sx.iLe_t, Sx.iLe_f, Sx.iEq_t, Sx.iEq_f, Sx.iBeq_t, Sx.iBeq_f, Sx.iBne_t, Sx.iBne_f, Nat.ble_eq, Nat.beq_eq, Sx.Cont.n, Sx.app, Sx.nAdd, Sx.nSub, Sx.nMul, Sx.nPow, Sx.nDiv, Sx.nMod, Sx.iAdd, Sx.iSub, Sx.iMul, Sx.iNeg, Sx.iPow, Sx.iOf]; omega) (Sx.if_true (by have k := k1; simp only [Bool.and_eq_true, Bool.or_eq_true, Sx.iLt_t, Sx.iLt_f, Sx.iLe_t, Sx.iLe_f, Sx.iEq_t, Sx.iEq_f, Sx.iBeq_t, Sx.iBeq_f, Sx.iBne_t, Sx.iBne_f, Nat.ble_eq, Nat.beq_eq, Sx.Cont.n, Sx.app, Sx.nAdd, Sx.nSub, Sx.nMul, Sx.nPow, Sx.nDiv, Sx.nMod, Sx.iAdd, Sx.iSub, Sx.iMul, Sx.iNeg, Sx.iPow, Sx.iOf] at k ⊢; omega) (Sx.if_true (by simp only [Bool.and_eq_true, Bool.or_eq_true, Sx.iLt_t, Sx.iLt_f, Sx.iLe_t, Sx.iLe_f, Sx.iEq_t, Sx.iEq_f, Sx.iBeq_t, Sx.iBeq_f, Sx.iBne_t, Sx.iBne_f, Nat.ble_eq, Nat.beq_eq, Sx.Cont.n]; exact ⟨by omega, trivial⟩) (Sx.if_true (by simp only [Bool.and_eq_true, Bool.or_eq_true, Sx.iLt_t, Sx.iLt_f, Sx.iLe_t, Sx.iLe_f, Sx.iEq_t, Sx.iEq_f, Sx.iBeq_t, Sx.iBeq_f, Sx.iBne_t, Sx.iBne_f, Nat.ble_eq, Nat.beq_eq, Sx.Cont.n]; exact ⟨by omega, trivial⟩) (Sx.if_true (by simp only [Bool.and_eq_true, Bool.or_eq_true, Sx.iLt_t, Sx.iLt_f, Sx.iLe_t, Sx.iLe_f, Sx.iEq_t, Sx.iEq_f, Sx.iBeq_t, Sx.iBeq_f, Sx.iBne_t, Sx.iBne_f, Nat.ble_eq, Nat.beq_eq, Sx.Cont.n]; omega) (Sx.if_false (by rw [sameR_refl]; rfl) (Sx.if_false (by simp only [Bool.and_eq_true, Bool.or_eq_true, Sx.iLt_t, Sx.iLt_f, Sx.iLe_t, Sx.iLe_f, Sx.iEq_t, Sx.iEq_f, Sx.iBeq_t, Sx.iBeq_f, Sx.iBne_t, Sx.iBne_f, Nat.ble_eq, Nat.beq_eq, Sx.Cont.n, Sx.app, Sx.nAdd, Sx.nSub, Sx.nMul, Sx.nPow, Sx.nDiv, Sx.nMod, Sx.iAdd, Sx.iSub, Sx.iMul, Sx.iNeg, Sx.iPow, Sx.iOf]; exact X2) (Sx.if_false (by simp only [Bool.and_eq_true, Bool.or_eq_true, Sx.iLt_t, Sx.iLt_f, Sx.iLe_t, Sx.iLe_f, Sx.iEq_t, Sx.iEq_f, Sx.iBeq_t, Sx.iBeq_f, Sx.iBne_t, Sx.iBne_f, Nat.ble_eq, Nat.beq_eq, Sx.Cont.n]) (Sx.if_true (by simp only [Bool.and_eq_true, Bool.or_eq_true, Sx.iLt_t, Sx.iLt_f, Sx.iLe_t, Sx.iLe_f, Sx.iEq_t, Sx.iEq_f, Sx.iBeq_t, Sx.iBeq_f, Sx.iBne_t, Sx.iBne_f, Nat.ble_eq, Nat.beq_eq, Sx.Cont.n, Sx.app, Sx.nAdd, Sx.nSub, Sx.nMul, Sx.nPow, Sx.nDiv, Sx.nMod, Sx.iAdd, Sx.iSub, Sx.iMul, Sx.iNeg, Sx.iPow, Sx.iOf]; omega) (Sx.if_false (by simp) ⟨?_, trivial, trivial⟩)))))))))
  have q : tlR O R b l bu l.length = tlD O R b l bu l.length := I.br.trans I.de.symm
  rw [q]; simp
theorem wpc_gtells (O : OO) (R : OB) (b : List Int) (l : List (List Int)) (bu : Int) (F : FO O) (hr : R = bO) (hS : SB O) (h0 : (byB b) = true) (h1 : (l.all byB) = true) (h2 : (iLe (-9223372036854775808) bu && iLe bu 9223372036854775807) = true) : wpcI Try.prog (spU4 O R) Try.f3.ntmps [⟨Nat, [0, 1, 2, 7, 8, 9, 10, 11, 12, 13, 14, 15], [(100008, 5, .ints .u8 []), (200009, 22, .ints .u8 []), (1000200009, 22, .ints .u8 [])], fun B k => [(16, .v (.int .i64 (k : Nat)))], fun B k => [(1088, .blk 28 [.row B, .v (.int .i64 (tlB O R b l bu k)), .v (.bool (tlD O R b l bu k))]), (B, .own 5 (.ints .u8 (tlL O R b l bu k))), (1280, .blk 74 [.ptr 1088 0, .row (B + 1), .v (.int .i64 (tlN O R b l bu k)), .v (.bool (tlR O R b l bu k))]), (B + 1, .ownp 22 (B + 2)), (B + 2, .pool (tlX O R b l bu k))], fun k => k ≤ l.length, fun k => l.length - k, 0⟩] (bodyOf Try.f3) 0 64 (envP (mks [.ro .u8, .ros, .v] [.ints b, .rows l, .v (.int .i64 bu)] 0).1 0) (mks [.ro .u8, .ros, .v] [.ints b, .rows l, .v (.int .i64 bu)] 0).2 (retP Try.prog Try.f3.results.toList 2 (⟨[.v (.bool true)], []⟩ : Post)) :=
 Eq.mpr (by kernel_rfl) (vc_gtells O R b l bu F hr hS h0 h1 h2)
theorem ok_gtells (I : Sx.Interp) (O : OO) (hO : O = oo) (R : OB) (hR : R = bO) : Sx.SpecOK I Try.prog 3 (pspec [.ro .u8, .ros, .v] false (g_gtells O R)) := by
 refine spec_pI (spU4_ok I O hO R hR) (by kernel_rfl) (fun ds => match ds with | [.ints b, .rows l, .v (.int .i64 bu)] => [⟨Nat, [0, 1, 2, 7, 8, 9, 10, 11, 12, 13, 14, 15], [(100008, 5, .ints .u8 []), (200009, 22, .ints .u8 []), (1000200009, 22, .ints .u8 [])], fun B k => [(16, .v (.int .i64 (k : Nat)))], fun B k => [(1088, .blk 28 [.row B, .v (.int .i64 (tlB O R b l bu k)), .v (.bool (tlD O R b l bu k))]), (B, .own 5 (.ints .u8 (tlL O R b l bu k))), (1280, .blk 74 [.ptr 1088 0, .row (B + 1), .v (.int .i64 (tlN O R b l bu k)), .v (.bool (tlR O R b l bu k))]), (B + 1, .ownp 22 (B + 2)), (B + 2, .pool (tlX O R b l bu k))], fun k => k ≤ l.length, fun k => l.length - k, 0⟩] | _ => []) Try.func3 (by kernel_rfl) (by kernel_rfl) rfl Try.ntmps3 (by decide) ?_ ?_
 ·intro ds p bs F h
  unfold g_gtells at h
  split at h
  ·rename_i b l bu
   simp only [Option.some.injEq, Prod.mk.injEq] at h
   obtain ⟨_, _, rfl⟩ := h
   kernel_rfl
  ·cases h
 ·intro ds bs F hl h
  unfold g_gtells at h
  split at h
  ·rename_i b l bu
   simp only [Option.some.injEq, Prod.mk.injEq, Bool.and_eq_true] at h
   obtain ⟨⟨⟨h0, h1⟩, h2⟩, _, rfl⟩ := h
   exact wpc_gtells O R b l bu (fo_oo O hO) hR (by subst hO; exact sb_oo) (by first | exact h0 | (simp only [Bool.and_eq_true]; exact h0)) (by first | exact h1 | (simp only [Bool.and_eq_true]; exact h1)) (by first | exact h2 | (simp only [Bool.and_eq_true]; exact h2))
  ·cases h
theorem row_byB {w : World} {a : Option Addr} {len cap : Nat} {z : List Int} (hq : IsRow .u8 w a len cap z) : byB (z.take len) = true := by
 rw [byB_iff]
 intro n hn
 have hn := List.mem_of_mem_take hn
 rcases hq with ⟨_, _, _, rfl⟩ | ⟨_, _, _, _, _, _, hw⟩
 ·cases hn
 ·obtain ⟨m, hm, rfl⟩ := nat_u8 (hw n hn)
  omega
theorem walk_gtells (w : World) (a_b : Option Addr) (len_b cap_b : Nat) (z_b : List Int) (hq : IsRow .u8 w a_b len_b cap_b z_b) (hs_b : ∀ x, a_b = some x → x.spot = none ∧ x.block < w.heap.size) (a_l : Option Addr) (len_l cap_l : Nat) (z_l : List (List Int)) (hr : IsRow2 w a_l len_l cap_l z_l) (hs : ∀ x, a_l = some x → x.spot = none ∧ x.block < w.heap.size) (bu : Int) (hbu : -9223372036854775808 ≤ bu ∧ bu ≤ 9223372036854775807) :
  Calls Try.prog 3 #[.slice a_b len_b cap_b, .slice a_l len_l cap_l, .int .i64 bu] w fun e w' => e = .returned (.bool true) ∧ Kp w w' := by
 have hg : g_gtells oo bO [.ints (z_b.take len_b), .rows (z_l.take len_l), .v (.int .i64 bu)] = some (true, [], fun _ => ⟨[.v (.bool true)], []⟩) := by
  show some ((byB (z_b.take len_b) && (z_l.take len_l).all byB) && (iLe (-9223372036854775808) bu && iLe bu 9223372036854775807), ([] : List Bool), _) = _
  rw [rows_byB hr, row_byB hq, show (iLe (-9223372036854775808) bu && iLe bu 9223372036854775807) = true by simp only [Bool.and_eq_true, Bool.or_eq_true, Sx.iLt_t, Sx.iLt_f, Sx.iLe_t, Sx.iLe_f, Sx.iEq_t, Sx.iEq_f, Sx.iBeq_t, Sx.iBeq_f, Sx.iBne_t, Sx.iBne_f, Nat.ble_eq, Nat.beq_eq, Sx.Cont.n]; exact hbu]; rfl
 exact (calls_patsR (ok_gtells I0 oo rfl bO rfl) [.slice a_b len_b cap_b, .slice a_l len_l cap_l] (fun _ b => b < w.heap.size) (fun i => match i with | 0 => some (.ro (.ints .u8 (z_b.take len_b))) | 1 => some (.ros (z_l.take len_l)) | _ => none) (xs := [.row 0, .row 1, .v (.int .i64 bu)])
  (fun i r h => by
   match i, h with
   | 0, h => cases h; exact ⟨by omega, .inl ⟨_, rfl, row_readsK hq⟩⟩
   | 1, h => cases h; exact ⟨by omega, .inr ⟨_, rfl, row2_reads hr hs⟩⟩
   | _ + 2, h => cases h) (fun _ _ h => h) rfl rfl rfl hg).mono fun _ _ ⟨he, hf⟩ => ⟨he, fr_below hf⟩
end Go.Proofs.Ytaohpdhhbnempaa
