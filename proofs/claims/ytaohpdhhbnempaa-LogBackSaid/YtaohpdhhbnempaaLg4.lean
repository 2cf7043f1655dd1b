/- LogBack: the walk, by the symbolic machine (printed by genLg4.py; VCs by VcTool). -/
import Derived.Test.YtaohpdhhbnempaaLg3
import Derived.Test.YtaohpdhhbnempaaLu
namespace Go.Proofs.Ytaohpdhhbnempaa
open Go.RowKit Go.Lib Ckp Cfd Cpd Sx
set_option linter.unusedVariables false
set_option linter.unusedSimpArgs false
set_option maxRecDepth 1000000

def g_gback (O : OO) (R : OB) (ds : List Dt) : Option (Bool × List Bool × (List Bool → Post)) := match ds with
 | [.rows l, .ints bs] => some ((l.all byB) && (bs.all fun n => iLe (-9223372036854775808) n && iLe n 9223372036854775807), [], fun _ => ⟨[.v (.bool true)], []⟩)
 | _ => none
set_option maxHeartbeats 4000000 in
theorem vc_gback (O : OO) (R : OB) (l : List (List Int)) (bs : List Int) (F : FO O) (hr : R = bO) (hS : SB O) (h0 : (l.all byB) = true) (h1 : (bs.all fun n => iLe (-9223372036854775808) n && iLe n 9223372036854775807) = true) :
 If (!fwE l) (Value.bool true = Value.bool true ∧ True ∧ True) (If (iLt 5 (iOf (Cont.ints .i64 bs).n)) (Value.bool true = Value.bool true ∧ True ∧ True) ((∃ (x : Nat), x ≤ bs.length
  ∧ (Value.int .i64 0 = Value.int .i64 (iOf x) ∧ Value.bool true = Value.bool true ∧ True) ∧ (Value.int .i64 (iNeg 1) = Value.int .i64 (otB O R l bs x) ∧ Value.bool false = Value.bool
  (otD O R l bs x)) ∧ EqI [] (otL O R l bs x) ∧ EqII [] (otX O R l bs x) ∧ Res.ros l = Res.ros l ∧ EqI bs bs ∧ True) ∧ ∀ (x : Nat), x ≤ bs.length → If (iLt (iOf x) (iOf (Cont.ints
  .i64 bs).n)) (If (iLe 0 (iOf x) && (iOf x).toNat.blt bs.length) (If (true && Nat.beq 1 1 && (iOf x).toNat.blt bs.length) (If ((otL O R l bs x).length.ble 8388608) (If ((otL O R l bs
  x).length.ble 1000000 && byB (otL O R l bs x)) (If ((lgRows O R (otL O R l bs x)).length.ble 1000000 && (lgRows O R (otL O R l bs x)).all fun (x : List Int) => x.length.ble 1000000)
  (If ((lgRows O R (otL O R l bs x)).length.ble 1000000) (If (!sameR (lgRows O R (otL O R l bs x)) (otX O R l bs x)) (Value.bool false = Value.bool true ∧ True ∧ True) (∃ (x0 : Nat ×
  Nat), (x0.1.succ ≤ bs.length ∧ x0.2 ≤ l.length) ∧ ((Value.int .i64 0 = Value.int .i64 (iOf x0.2) ∧ Value.bool true = Value.bool true ∧ Value.int .i64 (iOf x) = Value.int .i64 (iOf
  x) ∧ True) ∧ EqII (otX O R l bs x) (bkX O R l bs x0.1 x0.2) ∧ (Value.int .i64 (bs.getD (iOf x).toNat 0) = Value.int .i64 (bkB O R l bs x0.1 x0.2) ∧ Value.bool false = Value.bool
  (bkD O R l bs x0.1 x0.2)) ∧ EqI (List.take (lgEnd O R (otL O R l bs x)) (otL O R l bs x)) (bkL O R l bs x0.1 x0.2) ∧ (Value.int .i64 (iOf (lgEnd O R (otL O R l bs x))) = Value.int
  .i64 (bkN O R l bs x0.1 x0.2) ∧ Value.bool false = Value.bool (bkR O R l bs x0.1 x0.2)) ∧ EqII (lgRows O R (otL O R l bs x)) (bkX O R l bs x0.1 x0.2) ∧ EqII (lgRows O R (otL O R l
  bs x)) (lgRows O R (otL O R l bs x)) ∧ Res.ros l = Res.ros l ∧ EqI bs bs ∧ True) ∧ ∀ (x_1 : Nat × Nat), x_1.1.succ ≤ bs.length ∧ x_1.2 ≤ l.length → x_1.1 = x0.1 → If (iLt (iOf
  x_1.snd) (iOf l.length)) (If (iLe 0 (iOf x_1.snd) && (iOf x_1.2).toNat.blt l.length) (If (true && !false && Nat.beq 1 1 && Nat.beq 0 0 && (iOf x_1.2).toNat.blt l.length) (If ((bkL O
  R l bs x_1.1 x_1.2).length.ble 4194304 && (l.getD (iOf x_1.2).toNat []).length.ble 1000000 && (bkX O R l bs x_1.1 x_1.2).length.ble 1000000 && (iLe (iNeg 9223372036854775808) (bkB O
  R l bs x_1.fst x_1.snd) && iLe (bkB O R l bs x_1.fst x_1.snd) 9223372036854775807) && (iLe 0 (bkN O R l bs x_1.fst x_1.snd) && iLe (bkN O R l bs x_1.fst x_1.snd) 4194304)) (If (iBeq
  (apE O R (bkL O R l bs x_1.1 x_1.2) (bkB O R l bs x_1.1 x_1.2) (bkD O R l bs x_1.1 x_1.2) (bkR O R l bs x_1.1 x_1.2) (bkN O R l bs x_1.1 x_1.2) (l.getD (iOf x_1.2).toNat [])) 0) (If
  (iLe 0 (iOf x_1.snd) && (iOf x_1.2).toNat.blt l.length) (If (true && !false && Nat.beq 1 1 && Nat.beq 0 0 && (iOf x_1.2).toNat.blt l.length) (If ((nMul (nAdd (bkX O R l bs x_1.1
  x_1.2).length 1) 24).ble 140737488355328 && (nAdd (bkX O R l bs x_1.1 x_1.2).length 1).ble 9223372036854775807) (∃ (x' : Nat × Nat), (x'.1.succ ≤ bs.length ∧ x'.2 ≤ l.length) ∧ x'.1
  = x0.1 ∧ (nSub l.length x'.2).succ ≤ nSub l.length x_1.2 ∧ (Value.int .i64 (IntKind.i64.wrap (iAdd (iOf x_1.2) 1)) = Value.int .i64 (iOf x'.2) ∧ Value.bool true = Value.bool true ∧
  Value.int .i64 (iOf x) = Value.int .i64 (iOf x) ∧ True) ∧ EqII (app (bkX O R l bs x_1.1 x_1.2) [l.getD (iOf x_1.2).toNat []]) (bkX O R l bs x'.1 x'.2) ∧ (Value.int .i64 (apB O R
  (bkL O R l bs x_1.1 x_1.2) (bkB O R l bs x_1.1 x_1.2) (bkD O R l bs x_1.1 x_1.2) (bkR O R l bs x_1.1 x_1.2) (bkN O R l bs x_1.1 x_1.2) (l.getD (iOf x_1.2).toNat [])) = Value.int
  .i64 (bkB O R l bs x'.1 x'.2) ∧ Value.bool (apD O R (bkL O R l bs x_1.1 x_1.2) (bkB O R l bs x_1.1 x_1.2) (bkD O R l bs x_1.1 x_1.2) (bkR O R l bs x_1.1 x_1.2) (bkN O R l bs x_1.1
  x_1.2) (l.getD (iOf x_1.2).toNat [])) = Value.bool (bkD O R l bs x'.1 x'.2)) ∧ EqI (apL O R (bkL O R l bs x_1.1 x_1.2) (bkB O R l bs x_1.1 x_1.2) (bkD O R l bs x_1.1 x_1.2) (bkR O R
  l bs x_1.1 x_1.2) (bkN O R l bs x_1.1 x_1.2) (l.getD (iOf x_1.2).toNat [])) (bkL O R l bs x'.1 x'.2) ∧ (Value.int .i64 (apM O R (bkL O R l bs x_1.1 x_1.2) (bkB O R l bs x_1.1 x_1.2)
  (bkD O R l bs x_1.1 x_1.2) (bkR O R l bs x_1.1 x_1.2) (bkN O R l bs x_1.1 x_1.2) (l.getD (iOf x_1.2).toNat [])) = Value.int .i64 (bkN O R l bs x'.1 x'.2) ∧ Value.bool (apR O R (bkL
  O R l bs x_1.1 x_1.2) (bkB O R l bs x_1.1 x_1.2) (bkD O R l bs x_1.1 x_1.2) (bkR O R l bs x_1.1 x_1.2) (bkN O R l bs x_1.1 x_1.2) (l.getD (iOf x_1.2).toNat [])) = Value.bool (bkR O
  R l bs x'.1 x'.2)) ∧ EqII (apX O R (bkL O R l bs x_1.1 x_1.2) (bkB O R l bs x_1.1 x_1.2) (bkD O R l bs x_1.1 x_1.2) (bkR O R l bs x_1.1 x_1.2) (bkN O R l bs x_1.1 x_1.2) (l.getD
  (iOf x_1.2).toNat []) (bkX O R l bs x_1.1 x_1.2)) (bkX O R l bs x'.1 x'.2) ∧ EqII (lgRows O R (otL O R l bs x)) (lgRows O R (otL O R l bs x)) ∧ Res.ros l = Res.ros l ∧ EqI bs bs ∧
  True) False) False) False) (If (iBne (apE O R (bkL O R l bs x_1.1 x_1.2) (bkB O R l bs x_1.1 x_1.2) (bkD O R l bs x_1.1 x_1.2) (bkR O R l bs x_1.1 x_1.2) (bkN O R l bs x_1.1 x_1.2)
  (l.getD (iOf x_1.2).toNat [])) 21) (Value.bool false = Value.bool true ∧ True ∧ True) (If (!apD O R (bkL O R l bs x_1.1 x_1.2) (bkB O R l bs x_1.1 x_1.2) (bkD O R l bs x_1.1 x_1.2)
  (bkR O R l bs x_1.1 x_1.2) (bkN O R l bs x_1.1 x_1.2) (l.getD (iOf x_1.2).toNat [])) (Value.bool false = Value.bool true ∧ True ∧ True) (∃ (x' : Nat × Nat), (x'.1.succ ≤ bs.length ∧
  x'.2 ≤ l.length) ∧ x'.1 = x0.1 ∧ (nSub l.length x'.2).succ ≤ nSub l.length x_1.2 ∧ (Value.int .i64 (IntKind.i64.wrap (iAdd (iOf x_1.2) 1)) = Value.int .i64 (iOf x'.2) ∧ Value.bool
  true = Value.bool true ∧ Value.int .i64 (iOf x) = Value.int .i64 (iOf x) ∧ True) ∧ EqII (bkX O R l bs x_1.1 x_1.2) (bkX O R l bs x'.1 x'.2) ∧ (Value.int .i64 (apB O R (bkL O R l bs
  x_1.1 x_1.2) (bkB O R l bs x_1.1 x_1.2) (bkD O R l bs x_1.1 x_1.2) (bkR O R l bs x_1.1 x_1.2) (bkN O R l bs x_1.1 x_1.2) (l.getD (iOf x_1.2).toNat [])) = Value.int .i64 (bkB O R l
  bs x'.1 x'.2) ∧ Value.bool (apD O R (bkL O R l bs x_1.1 x_1.2) (bkB O R l bs x_1.1 x_1.2) (bkD O R l bs x_1.1 x_1.2) (bkR O R l bs x_1.1 x_1.2) (bkN O R l bs x_1.1 x_1.2) (l.getD
  (iOf x_1.2).toNat [])) = Value.bool (bkD O R l bs x'.1 x'.2)) ∧ EqI (apL O R (bkL O R l bs x_1.1 x_1.2) (bkB O R l bs x_1.1 x_1.2) (bkD O R l bs x_1.1 x_1.2) (bkR O R l bs x_1.1
  x_1.2) (bkN O R l bs x_1.1 x_1.2) (l.getD (iOf x_1.2).toNat [])) (bkL O R l bs x'.1 x'.2) ∧ (Value.int .i64 (apM O R (bkL O R l bs x_1.1 x_1.2) (bkB O R l bs x_1.1 x_1.2) (bkD O R l
  bs x_1.1 x_1.2) (bkR O R l bs x_1.1 x_1.2) (bkN O R l bs x_1.1 x_1.2) (l.getD (iOf x_1.2).toNat [])) = Value.int .i64 (bkN O R l bs x'.1 x'.2) ∧ Value.bool (apR O R (bkL O R l bs
  x_1.1 x_1.2) (bkB O R l bs x_1.1 x_1.2) (bkD O R l bs x_1.1 x_1.2) (bkR O R l bs x_1.1 x_1.2) (bkN O R l bs x_1.1 x_1.2) (l.getD (iOf x_1.2).toNat [])) = Value.bool (bkR O R l bs
  x'.1 x'.2)) ∧ EqII (apX O R (bkL O R l bs x_1.1 x_1.2) (bkB O R l bs x_1.1 x_1.2) (bkD O R l bs x_1.1 x_1.2) (bkR O R l bs x_1.1 x_1.2) (bkN O R l bs x_1.1 x_1.2) (l.getD (iOf
  x_1.2).toNat []) (bkX O R l bs x_1.1 x_1.2)) (bkX O R l bs x'.1 x'.2) ∧ EqII (lgRows O R (otL O R l bs x)) (lgRows O R (otL O R l bs x)) ∧ Res.ros l = Res.ros l ∧ EqI bs bs ∧
  True)))) False) False) False) (If ((bkX O R l bs x_1.1 x_1.2).length.ble 1000000 && (bkX O R l bs x_1.1 x_1.2).all fun (x : List Int) => x.length.ble 1000000) (If ((bkX O R l bs
  x_1.1 x_1.2).length.ble 1000000) (If (!sameR (bkX O R l bs x_1.1 x_1.2) (bkX O R l bs x_1.1 x_1.2)) (Value.bool false = Value.bool true ∧ True ∧ True) (∃ (x' : Nat), x' ≤ bs.length
  ∧ (nSub bs.length x').succ ≤ nSub bs.length x ∧ (Value.int .i64 (IntKind.i64.wrap (iAdd (iOf x) 1)) = Value.int .i64 (iOf x') ∧ Value.bool true = Value.bool true ∧ True) ∧
  (Value.int .i64 (bkB O R l bs x_1.1 x_1.2) = Value.int .i64 (otB O R l bs x') ∧ Value.bool (bkD O R l bs x_1.1 x_1.2) = Value.bool (otD O R l bs x')) ∧ EqI (bkL O R l bs x_1.1
  x_1.2) (otL O R l bs x') ∧ EqII (bkX O R l bs x_1.1 x_1.2) (otX O R l bs x') ∧ Res.ros l = Res.ros l ∧ EqI bs bs ∧ True)) False) False))) False) False) False) False) False) False)
  (If ((otL O R l bs x).length.ble 8388608) (If ((otL O R l bs x).length.ble 1000000 && byB (otL O R l bs x)) (If ((lgRows O R (otL O R l bs x)).length.ble 1000000 && (lgRows O R (otL
  O R l bs x)).all fun (x : List Int) => x.length.ble 1000000) (If ((lgRows O R (otL O R l bs x)).length.ble 1000000) (Value.bool (sameR (lgRows O R (otL O R l bs x)) (otX O R l bs
  x)) = Value.bool true ∧ True ∧ True) False) False) False) False))) := by
 have hB : ∀ x ∈ l, byB x = true := fun x hx => List.all_eq_true.1 h0 x hx
 have hn : ∀ k : Nat, (iOf k).toNat = k := fun k => by simp only [Sx.app, Sx.nAdd, Sx.nSub, Sx.nMul, Sx.nPow, Sx.nDiv, Sx.nMod, Sx.iAdd, Sx.iSub, Sx.iMul, Sx.iNeg, Sx.iPow, Sx.iOf, Int.toNat_natCast]
 simp only [hn]
 refine Sx.if_both (fun _ => ⟨(by first | rfl | trivial), trivial, trivial⟩) (fun hf => Sx.if_both (fun _ => ⟨(by first | rfl | trivial), trivial, trivial⟩) (fun n5 => ?_))
 obtain ⟨l20, hL⟩ := few_all ((Bool.not_eq_false' _).mp hf)
 simp only [Bool.and_eq_true, Bool.or_eq_true, Sx.iLt_t, Sx.iLt_f, Sx.iLe_t, Sx.iLe_f, Sx.iEq_t, Sx.iEq_f, Sx.iBeq_t, Sx.iBeq_f, Sx.iBne_t, Sx.iBne_f, Nat.ble_eq, Nat.beq_eq, Sx.Cont.n, Sx.app, Sx.nAdd, Sx.nSub, Sx.nMul, Sx.nPow, Sx.nDiv, Sx.nMod, Sx.iAdd, Sx.iSub, Sx.iMul, Sx.iNeg, Sx.iPow, Sx.iOf] at n5
 have hR : ∀ n : Int, (R.row n).length ≤ 10 := row_len hr
 have hl : ∀ x ∈ l, byB x = true ∧ x.length ≤ 100 := fun x hx => ⟨hB x hx, hL x hx⟩
 have hb : ∀ n ∈ bs, -9223372036854775808 ≤ n ∧ n ≤ 9223372036854775807 := fun n hn => by
  have := List.all_eq_true.1 h1 n hn
  simp only [Bool.and_eq_true, Bool.or_eq_true, Sx.iLt_t, Sx.iLt_f, Sx.iLe_t, Sx.iLe_f, Sx.iEq_t, Sx.iEq_f, Sx.iBeq_t, Sx.iBeq_f, Sx.iBne_t, Sx.iBne_f, Nat.ble_eq, Nat.beq_eq, Sx.Cont.n] at this
  exact this
 have hbd : ∀ i, i < bs.length → -9223372036854775808 ≤ bs.getD i 0 ∧ bs.getD i 0 ≤ 9223372036854775807 := fun i hi => by
  rw [List.getD_eq_getElem?_getD, List.getElem?_eq_getElem hi]
  exact hb _ (List.getElem_mem hi)
 have hot : ∀ i, i ≤ bs.length → OtI O R (otS O R l bs i) (20 * i) := ot_inv hS hr hR hl (by omega) hb (by omega)
 have hbk : ∀ i k, i < bs.length → k ≤ l.length → BkI O R (bkA O R l bs i k) (20 * i + k) := fun i k hi hk => bk_inv hS hr hR hl (op_inv hS hr (hot i (by omega)) (hbd i hi)) (by omega) k hk
 have hotF : ∀ i, i ≤ bs.length → lgRows O R (otL O R l bs i) = otX O R l bs i ∧ (otL O R l bs i).length ≤ 20000 ∧ byB (otL O R l bs i) = true ∧ (otX O R l bs i).length ≤ 100 ∧ ∀ x ∈ otX O R l bs i, x.length ≤ 100 := fun i hi => by
  have h := hot i hi
  have k := ot_len hr hR h
  refine ⟨(ot_found hS hr h).1, ?_, ot_byB hS hr h, ?_, fun x hx => (h.ok x hx).2⟩
  ·have : (otL O R l bs i).length ≤ 118 * (20 * i) + 118 := k.2
   omega
  ·have : (otX O R l bs i).length ≤ 20 * i := h.few
   omega
 have hall : ∀ z : List (List Int), (∀ x ∈ z, x.length ≤ 100) → (z.all fun (x : List Int) => x.length.ble 1000000) = true := fun z hz => by
  rw [List.all_eq_true]
  intro x hx
  rw [Nat.ble_eq]
  have := hz x hx
  omega
 refine ⟨⟨0, Nat.zero_le _, ⟨rfl, (by first | rfl | trivial), trivial⟩, ⟨rfl, rfl⟩, rfl, rfl, (by first | rfl | trivial), (by first | rfl | trivial), trivial⟩, fun x hx => ?_⟩
 obtain ⟨f1, f2, f3, f4, f5⟩ := hotF x hx
 rw [f1, f3, hall _ f5]
 refine Sx.if_both (fun d => ?_) (fun d => ?_)
 ·simp only [Bool.and_eq_true, Bool.or_eq_true, Sx.iLt_t, Sx.iLt_f, Sx.iLe_t, Sx.iLe_f, Sx.iEq_t, Sx.iEq_f, Sx.iBeq_t, Sx.iBeq_f, Sx.iBne_t, Sx.iBne_f, Nat.ble_eq, Nat.beq_eq, Sx.Cont.n, Sx.app, Sx.nAdd, Sx.nSub, Sx.nMul, Sx.nPow, Sx.nDiv, Sx.nMod, Sx.iAdd, Sx.iSub, Sx.iMul, Sx.iNeg, Sx.iPow, Sx.iOf] at d
  have hx' : x < bs.length := by omega
  have hbx : x.blt bs.length = true := by rw [Nat.blt_eq]; exact hx'
  rw [hbx]
  refine Sx.if_true (by simp only [Bool.and_eq_true, Bool.or_eq_true, Sx.iLt_t, Sx.iLt_f, Sx.iLe_t, Sx.iLe_f, Sx.iEq_t, Sx.iEq_f, Sx.iBeq_t, Sx.iBeq_f, Sx.iBne_t, Sx.iBne_f, Nat.ble_eq, Nat.beq_eq, Sx.Cont.n, Sx.app, Sx.nAdd, Sx.nSub, Sx.nMul, Sx.nPow, Sx.nDiv, Sx.nMod, Sx.iAdd, Sx.iSub, Sx.iMul, Sx.iNeg, Sx.iPow, Sx.iOf]; exact ⟨by omega, trivial⟩) (Sx.if_true rfl (Sx.if_true (by simp only [Bool.and_eq_true, Bool.or_eq_true, Sx.iLt_t, Sx.iLt_f, Sx.iLe_t, Sx.iLe_f, Sx.iEq_t, Sx.iEq_f, Sx.iBeq_t, Sx.iBeq_f, Sx.iBne_t, Sx.iBne_f, Nat.ble_eq, Nat.beq_eq, Sx.Cont.n]; omega) (Sx.if_true (by simp only [Bool.and_eq_true, Bool.or_eq_true, Sx.iLt_t, Sx.iLt_f, Sx.iLe_t, Sx.iLe_f, Sx.iEq_t, Sx.iEq_f, Sx.iBeq_t, Sx.iBeq_f, Sx.iBne_t, Sx.iBne_f, Nat.ble_eq, Nat.beq_eq, Sx.Cont.n]; exact ⟨by omega, trivial⟩) (Sx.if_true (by simp only [Bool.and_eq_true, Bool.or_eq_true, Sx.iLt_t, Sx.iLt_f, Sx.iLe_t, Sx.iLe_f, Sx.iEq_t, Sx.iEq_f, Sx.iBeq_t, Sx.iBeq_f, Sx.iBne_t, Sx.iBne_f, Nat.ble_eq, Nat.beq_eq, Sx.Cont.n]; exact ⟨by omega, trivial⟩) (Sx.if_true (by simp only [Bool.and_eq_true, Bool.or_eq_true, Sx.iLt_t, Sx.iLt_f, Sx.iLe_t, Sx.iLe_f, Sx.iEq_t, Sx.iEq_f, Sx.iBeq_t, Sx.iBeq_f, Sx.iBne_t, Sx.iBne_f, Nat.ble_eq, Nat.beq_eq, Sx.Cont.n]; omega) (Sx.if_false (by rw [sameR_refl]; rfl) ?_))))))
  refine ⟨(x, 0), ⟨hx', Nat.zero_le _⟩, ⟨⟨rfl, (by first | rfl | trivial), (by first | rfl | trivial), trivial⟩, rfl, ⟨rfl, rfl⟩, rfl, ⟨rfl, rfl⟩, rfl, (by first | rfl | trivial), (by first | rfl | trivial), (by first | rfl | trivial), trivial⟩, ?_⟩
  rintro ⟨i, k⟩ ⟨y1, y2⟩ e
  have e : i = x := e
  subst e
  have y1 : i < bs.length := y1
  have y2 : k ≤ l.length := y2
  dsimp only
  have BI := hbk i k y1 y2
  have g1 : (bkL O R l bs i k).length ≤ 118 * (20 * i + k) + 118 := (ot_len hr hR BI.toOtI).2
  have g2 : (bkX O R l bs i k).length ≤ 20 * i + k := BI.few
  have g3 : ∀ x ∈ bkX O R l bs i k, x.length ≤ 100 := fun x hx => (BI.ok x hx).2
  have g4 : -9223372036854775808 ≤ bkB O R l bs i k ∧ bkB O R l bs i k ≤ 9223372036854775807 := BI.bu
  have g5 : bkN O R l bs i k = ((rowsB O R (bkX O R l bs i k)).length : Int) := BI.ends
  have g6 : (rowsB O R (bkX O R l bs i k)).length ≤ 118 * (20 * i + k) := (ot_len hr hR BI.toOtI).1
  refine Sx.if_both (fun d2 => ?_) (fun d2 => ?_)
  ·simp only [Bool.and_eq_true, Bool.or_eq_true, Sx.iLt_t, Sx.iLt_f, Sx.iLe_t, Sx.iLe_f, Sx.iEq_t, Sx.iEq_f, Sx.iBeq_t, Sx.iBeq_f, Sx.iBne_t, Sx.iBne_f, Nat.ble_eq, Nat.beq_eq, Sx.Cont.n, Sx.app, Sx.nAdd, Sx.nSub, Sx.nMul, Sx.nPow, Sx.nDiv, Sx.nMod, Sx.iAdd, Sx.iSub, Sx.iMul, Sx.iNeg, Sx.iPow, Sx.iOf] at d2
   have hk : k < l.length := by omega
   have hbk' : k.blt l.length = true := by rw [Nat.blt_eq]; exact hk
   have hg : l.getD k [] = l[k] := by rw [List.getD_eq_getElem?_getD, List.getElem?_eq_getElem hk]; rfl
   have hgl := hl l[k] (List.getElem_mem hk)
   rw [← hg] at hgl
   have st := (bk_step hS hr hR BI (by omega) hgl.1 hgl.2).2
   have w1 : IntKind.i64.wrap (iAdd (iOf k) 1) = iOf (k + 1) := by simp only [Sx.app, Sx.nAdd, Sx.nSub, Sx.nMul, Sx.nPow, Sx.nDiv, Sx.nMod, Sx.iAdd, Sx.iSub, Sx.iMul, Sx.iNeg, Sx.iPow, Sx.iOf]; rw [IntKind.wrap_i64]; omega
   have gl := hgl.2
   rw [hbk', w1]
   have eX : bkX O R l bs i (k + 1) = apX O R (bkL O R l bs i k) (bkB O R l bs i k) (bkD O R l bs i k) (bkR O R l bs i k) (bkN O R l bs i k) (l.getD k []) (bkX O R l bs i k) := rfl
   refine Sx.if_true (by simp only [Bool.and_eq_true, Bool.or_eq_true, Sx.iLt_t, Sx.iLt_f, Sx.iLe_t, Sx.iLe_f, Sx.iEq_t, Sx.iEq_f, Sx.iBeq_t, Sx.iBeq_f, Sx.iBne_t, Sx.iBne_f, Nat.ble_eq, Nat.beq_eq, Sx.Cont.n, Sx.app, Sx.nAdd, Sx.nSub, Sx.nMul, Sx.nPow, Sx.nDiv, Sx.nMod, Sx.iAdd, Sx.iSub, Sx.iMul, Sx.iNeg, Sx.iPow, Sx.iOf]; exact ⟨by omega, trivial⟩) (Sx.if_true rfl (Sx.if_true (by simp only [Bool.and_eq_true, Bool.or_eq_true, Sx.iLt_t, Sx.iLt_f, Sx.iLe_t, Sx.iLe_f, Sx.iEq_t, Sx.iEq_f, Sx.iBeq_t, Sx.iBeq_f, Sx.iBne_t, Sx.iBne_f, Nat.ble_eq, Nat.beq_eq, Sx.Cont.n, Sx.app, Sx.nAdd, Sx.nSub, Sx.nMul, Sx.nPow, Sx.nDiv, Sx.nMod, Sx.iAdd, Sx.iSub, Sx.iMul, Sx.iNeg, Sx.iPow, Sx.iOf]; rw [g5]; omega) ?_))
   rcases st with E | ⟨E, E2⟩
   ·have E : apE O R (bkL O R l bs i k) (bkB O R l bs i k) (bkD O R l bs i k) (bkR O R l bs i k) (bkN O R l bs i k) (l.getD k []) = 0 := E
    refine Sx.if_true (by rw [E]; rfl) (Sx.if_true (by simp only [Bool.and_eq_true, Bool.or_eq_true, Sx.iLt_t, Sx.iLt_f, Sx.iLe_t, Sx.iLe_f, Sx.iEq_t, Sx.iEq_f, Sx.iBeq_t, Sx.iBeq_f, Sx.iBne_t, Sx.iBne_f, Nat.ble_eq, Nat.beq_eq, Sx.Cont.n, Sx.app, Sx.nAdd, Sx.nSub, Sx.nMul, Sx.nPow, Sx.nDiv, Sx.nMod, Sx.iAdd, Sx.iSub, Sx.iMul, Sx.iNeg, Sx.iPow, Sx.iOf]; exact ⟨by omega, trivial⟩) (Sx.if_true rfl (Sx.if_true (by simp only [Bool.and_eq_true, Bool.or_eq_true, Sx.iLt_t, Sx.iLt_f, Sx.iLe_t, Sx.iLe_f, Sx.iEq_t, Sx.iEq_f, Sx.iBeq_t, Sx.iBeq_f, Sx.iBne_t, Sx.iBne_f, Nat.ble_eq, Nat.beq_eq, Sx.Cont.n, Sx.app, Sx.nAdd, Sx.nSub, Sx.nMul, Sx.nPow, Sx.nDiv, Sx.nMod, Sx.iAdd, Sx.iSub, Sx.iMul, Sx.iNeg, Sx.iPow, Sx.iOf]; omega) ?_)))
    refine ⟨(i, k + 1), ⟨y1, hk⟩, rfl, by simp only [Sx.app, Sx.nAdd, Sx.nSub, Sx.nMul, Sx.nPow, Sx.nDiv, Sx.nMod, Sx.iAdd, Sx.iSub, Sx.iMul, Sx.iNeg, Sx.iPow, Sx.iOf]; omega, ⟨rfl, (by first | rfl | trivial), (by first | rfl | trivial), trivial⟩, ?_, ⟨rfl, rfl⟩, rfl, ⟨rfl, rfl⟩, rfl, (by first | rfl | trivial), (by first | rfl | trivial), (by first | rfl | trivial), trivial⟩
    show _ = bkX O R l bs i (k + 1)
    rw [eX]
    unfold apX
    rw [E]; rfl
   ·have E : apE O R (bkL O R l bs i k) (bkB O R l bs i k) (bkD O R l bs i k) (bkR O R l bs i k) (bkN O R l bs i k) (l.getD k []) = 21 := E
    have E2 : apD O R (bkL O R l bs i k) (bkB O R l bs i k) (bkD O R l bs i k) (bkR O R l bs i k) (bkN O R l bs i k) (l.getD k []) = true := E2
    refine Sx.if_false (by rw [E]; rfl) (Sx.if_false (by rw [E]; rfl) (Sx.if_false (by rw [E2]; rfl) ?_))
    refine ⟨(i, k + 1), ⟨y1, hk⟩, rfl, by simp only [Sx.app, Sx.nAdd, Sx.nSub, Sx.nMul, Sx.nPow, Sx.nDiv, Sx.nMod, Sx.iAdd, Sx.iSub, Sx.iMul, Sx.iNeg, Sx.iPow, Sx.iOf]; omega, ⟨rfl, (by first | rfl | trivial), (by first | rfl | trivial), trivial⟩, ?_, ⟨rfl, rfl⟩, rfl, ⟨rfl, rfl⟩, rfl, (by first | rfl | trivial), (by first | rfl | trivial), (by first | rfl | trivial), trivial⟩
    show _ = bkX O R l bs i (k + 1)
    rw [eX]
    unfold apX
    rw [E]; rfl
  ·simp only [Bool.and_eq_true, Bool.or_eq_true, Sx.iLt_t, Sx.iLt_f, Sx.iLe_t, Sx.iLe_f, Sx.iEq_t, Sx.iEq_f, Sx.iBeq_t, Sx.iBeq_f, Sx.iBne_t, Sx.iBne_f, Nat.ble_eq, Nat.beq_eq, Sx.Cont.n, Sx.app, Sx.nAdd, Sx.nSub, Sx.nMul, Sx.nPow, Sx.nDiv, Sx.nMod, Sx.iAdd, Sx.iSub, Sx.iMul, Sx.iNeg, Sx.iPow, Sx.iOf] at d2
   obtain rfl : k = l.length := by omega
   have w1 : IntKind.i64.wrap (iAdd (iOf i) 1) = iOf (i + 1) := by simp only [Sx.app, Sx.nAdd, Sx.nSub, Sx.nMul, Sx.nPow, Sx.nDiv, Sx.nMod, Sx.iAdd, Sx.iSub, Sx.iMul, Sx.iNeg, Sx.iPow, Sx.iOf]; rw [IntKind.wrap_i64]; omega
   rw [hall _ g3, w1]
   refine Sx.if_true (by simp only [Bool.and_eq_true, Bool.or_eq_true, Sx.iLt_t, Sx.iLt_f, Sx.iLe_t, Sx.iLe_f, Sx.iEq_t, Sx.iEq_f, Sx.iBeq_t, Sx.iBeq_f, Sx.iBne_t, Sx.iBne_f, Nat.ble_eq, Nat.beq_eq, Sx.Cont.n]; exact ⟨by omega, trivial⟩) (Sx.if_true (by simp only [Bool.and_eq_true, Bool.or_eq_true, Sx.iLt_t, Sx.iLt_f, Sx.iLe_t, Sx.iLe_f, Sx.iEq_t, Sx.iEq_f, Sx.iBeq_t, Sx.iBeq_f, Sx.iBne_t, Sx.iBne_f, Nat.ble_eq, Nat.beq_eq, Sx.Cont.n]; omega) (Sx.if_false (by rw [sameR_refl]; rfl) ?_))
   exact ⟨i + 1, y1, by simp only [Sx.app, Sx.nAdd, Sx.nSub, Sx.nMul, Sx.nPow, Sx.nDiv, Sx.nMod, Sx.iAdd, Sx.iSub, Sx.iMul, Sx.iNeg, Sx.iPow, Sx.iOf]; omega, ⟨rfl, (by first | rfl | trivial), trivial⟩, ⟨rfl, rfl⟩, rfl, rfl, (by first | rfl | trivial), (by first | rfl | trivial), trivial⟩
 ·refine Sx.if_true (by simp only [Bool.and_eq_true, Bool.or_eq_true, Sx.iLt_t, Sx.iLt_f, Sx.iLe_t, Sx.iLe_f, Sx.iEq_t, Sx.iEq_f, Sx.iBeq_t, Sx.iBeq_f, Sx.iBne_t, Sx.iBne_f, Nat.ble_eq, Nat.beq_eq, Sx.Cont.n]; omega) (Sx.if_true (by simp only [Bool.and_eq_true, Bool.or_eq_true, Sx.iLt_t, Sx.iLt_f, Sx.iLe_t, Sx.iLe_f, Sx.iEq_t, Sx.iEq_f, Sx.iBeq_t, Sx.iBeq_f, Sx.iBne_t, Sx.iBne_f, Nat.ble_eq, Nat.beq_eq, Sx.Cont.n]; exact ⟨by omega, trivial⟩) (Sx.if_true (by simp only [Bool.and_eq_true, Bool.or_eq_true, Sx.iLt_t, Sx.iLt_f, Sx.iLe_t, Sx.iLe_f, Sx.iEq_t, Sx.iEq_f, Sx.iBeq_t, Sx.iBeq_f, Sx.iBne_t, Sx.iBne_f, Nat.ble_eq, Nat.beq_eq, Sx.Cont.n]; exact ⟨by omega, trivial⟩) (Sx.if_true (by simp only [Bool.and_eq_true, Bool.or_eq_true, Sx.iLt_t, Sx.iLt_f, Sx.iLe_t, Sx.iLe_f, Sx.iEq_t, Sx.iEq_f, Sx.iBeq_t, Sx.iBeq_f, Sx.iBne_t, Sx.iBne_f, Nat.ble_eq, Nat.beq_eq, Sx.Cont.n]; omega) ⟨?_, trivial, trivial⟩)))
  rw [sameR_refl]
theorem wpc_gback (O : OO) (R : OB) (l : List (List Int)) (bs : List Int) (F : FO O) (hr : R = bO) (hS : SB O) (h0 : (l.all byB) = true) (h1 : (bs.all fun n => iLe (-9223372036854775808) n && iLe n 9223372036854775807) = true) : wpcI Try.prog (spG4 O R) Try.f4.ntmps [⟨Nat, [0, 1, 5], [(6, 28, .ints .u8 []), (100006, 5, .ints .u8 []), (7, 22, .ints .u8 []), (1000000007, 22, .ints .u8 [])], fun B i => [(6, .ptr B 0), (7, .row (B + 2)), (8, .v (.int .i64 (i : Nat)))], fun B i => [(B, .blk 28 [.row (B + 1), .v (.int .i64 (otB O R l bs i)), .v (.bool (otD O R l bs i))]), (B + 1, .own 5 (.ints .u8 (otL O R l bs i))), (B + 2, .ownp 22 (B + 3)), (B + 3, .pool (otX O R l bs i))], fun i => i ≤ bs.length, fun i => bs.length - i, 0⟩, ⟨Nat × Nat, [0, 1, 5, 6, 8, 9], [(7, 22, .ints .u8 []), (1000000007, 22, .ints .u8 []), (100006, 5, .ints .u8 []), (200009, 22, .ints .u8 []), (1000200009, 22, .ints .u8 [])], fun B x => [(7, .row B), (11, .v (.int .i64 (x.2 : Nat)))], fun B x => [(B, .ownp 22 (B + 1)), (B + 1, .pool (bkX O R l bs x.1 x.2)), (1672, .blk 28 [.row (B + 2), .v (.int .i64 (bkB O R l bs x.1 x.2)), .v (.bool (bkD O R l bs x.1 x.2))]), (B + 2, .own 5 (.ints .u8 (bkL O R l bs x.1 x.2))), (1864, .blk 74 [.ptr 1672 0, .row (B + 3), .v (.int .i64 (bkN O R l bs x.1 x.2)), .v (.bool (bkR O R l bs x.1 x.2))]), (B + 3, .ownp 22 (B + 4)), (B + 4, .pool (bkX O R l bs x.1 x.2))], fun x => x.1 < bs.length ∧ x.2 ≤ l.length, fun x => l.length - x.2, .fix (fun x => x.1)⟩] (bodyOf Try.f4) 0 64 (envP (mks [.ros, .ro .i64] [.rows l, .ints bs] 0).1 0) (mks [.ros, .ro .i64] [.rows l, .ints bs] 0).2 (retP Try.prog Try.f4.results.toList 2 (⟨[.v (.bool true)], []⟩ : Post)) :=
 Eq.mpr (by kernel_rfl) (vc_gback O R l bs F hr hS h0 h1)
theorem ok_gback (I : Sx.Interp) (O : OO) (hO : O = oo) (R : OB) (hR : R = bO) : Sx.SpecOK I Try.prog 4 (pspec [.ros, .ro .i64] false (g_gback O R)) := by
 refine spec_pI (spG4_ok I O hO R hR) (by kernel_rfl) (fun ds => match ds with | [.rows l, .ints bs] => [⟨Nat, [0, 1, 5], [(6, 28, .ints .u8 []), (100006, 5, .ints .u8 []), (7, 22, .ints .u8 []), (1000000007, 22, .ints .u8 [])], fun B i => [(6, .ptr B 0), (7, .row (B + 2)), (8, .v (.int .i64 (i : Nat)))], fun B i => [(B, .blk 28 [.row (B + 1), .v (.int .i64 (otB O R l bs i)), .v (.bool (otD O R l bs i))]), (B + 1, .own 5 (.ints .u8 (otL O R l bs i))), (B + 2, .ownp 22 (B + 3)), (B + 3, .pool (otX O R l bs i))], fun i => i ≤ bs.length, fun i => bs.length - i, 0⟩, ⟨Nat × Nat, [0, 1, 5, 6, 8, 9], [(7, 22, .ints .u8 []), (1000000007, 22, .ints .u8 []), (100006, 5, .ints .u8 []), (200009, 22, .ints .u8 []), (1000200009, 22, .ints .u8 [])], fun B x => [(7, .row B), (11, .v (.int .i64 (x.2 : Nat)))], fun B x => [(B, .ownp 22 (B + 1)), (B + 1, .pool (bkX O R l bs x.1 x.2)), (1672, .blk 28 [.row (B + 2), .v (.int .i64 (bkB O R l bs x.1 x.2)), .v (.bool (bkD O R l bs x.1 x.2))]), (B + 2, .own 5 (.ints .u8 (bkL O R l bs x.1 x.2))), (1864, .blk 74 [.ptr 1672 0, .row (B + 3), .v (.int .i64 (bkN O R l bs x.1 x.2)), .v (.bool (bkR O R l bs x.1 x.2))]), (B + 3, .ownp 22 (B + 4)), (B + 4, .pool (bkX O R l bs x.1 x.2))], fun x => x.1 < bs.length ∧ x.2 ≤ l.length, fun x => l.length - x.2, .fix (fun x => x.1)⟩] | _ => []) Try.func4 (by kernel_rfl) (by kernel_rfl) rfl Try.ntmps4 (by decide) ?_ ?_
 ·intro ds p bs F h
  unfold g_gback at h
  split at h
  ·rename_i l bs
   simp only [Option.some.injEq, Prod.mk.injEq] at h
   obtain ⟨_, _, rfl⟩ := h
   kernel_rfl
  ·cases h
 ·intro ds bs F hl h
  unfold g_gback at h
  split at h
  ·rename_i l bs
   simp only [Option.some.injEq, Prod.mk.injEq, Bool.and_eq_true] at h
   obtain ⟨⟨h0, h1⟩, _, rfl⟩ := h
   exact wpc_gback O R l bs (fo_oo O hO) hR (by subst hO; exact sb_oo) (by first | exact h0 | (simp only [Bool.and_eq_true]; exact h0)) (by first | exact h1 | (simp only [Bool.and_eq_true]; exact h1))
  ·cases h
theorem walk_gback (w : World) (a_l : Option Addr) (len_l cap_l : Nat) (z_l : List (List Int)) (hr : IsRow2 w a_l len_l cap_l z_l) (hs : ∀ x, a_l = some x → x.spot = none ∧ x.block < w.heap.size) (a_b : Option Addr) (len_b cap_b : Nat) (z_b : List Int) (hq : IsRow .i64 w a_b len_b cap_b z_b) (hs_b : ∀ x, a_b = some x → x.spot = none ∧ x.block < w.heap.size) :
  Calls Try.prog 4 #[.slice a_l len_l cap_l, .slice a_b len_b cap_b] w fun e w' => e = .returned (.bool true) ∧ Kp w w' := by
 have hbs : ((z_b.take len_b).all fun n => iLe (-9223372036854775808) n && iLe n 9223372036854775807) = true := by
  rw [List.all_eq_true]
  intro n hn
  have hn := List.mem_of_mem_take hn
  rcases hq with ⟨_, _, _, rfl⟩ | ⟨_, _, _, _, _, _, hw⟩
  ·cases hn
  ·have := bounds_i64 (hw n hn)
   simp only [Bool.and_eq_true, Bool.or_eq_true, Sx.iLt_t, Sx.iLt_f, Sx.iLe_t, Sx.iLe_f, Sx.iEq_t, Sx.iEq_f, Sx.iBeq_t, Sx.iBeq_f, Sx.iBne_t, Sx.iBne_f, Nat.ble_eq, Nat.beq_eq, Sx.Cont.n]
   exact this
 have hg : g_gback oo bO [.rows (z_l.take len_l), .ints (z_b.take len_b)] = some (true, [], fun _ => ⟨[.v (.bool true)], []⟩) := by
  show some ((z_l.take len_l).all byB && ((z_b.take len_b).all fun n => iLe (-9223372036854775808) n && iLe n 9223372036854775807), ([] : List Bool), _) = _
  rw [rows_byB hr, hbs]; rfl
 exact (calls_patsR (ok_gback I0 oo rfl bO rfl) [.slice a_l len_l cap_l, .slice a_b len_b cap_b] (fun _ b => b < w.heap.size) (fun i => match i with | 0 => some (.ros (z_l.take len_l)) | 1 => some (.ro (.ints .i64 (z_b.take len_b))) | _ => none) (xs := [.row 0, .row 1])
  (fun i r h => by
   match i, h with
   | 0, h => cases h; exact ⟨by omega, .inr ⟨_, rfl, row2_reads hr hs⟩⟩
   | 1, h => cases h; exact ⟨by omega, .inl ⟨_, rfl, row_readsK hq⟩⟩
   | _ + 2, h => cases h) (fun _ _ h => h) rfl rfl rfl hg).mono fun _ _ ⟨he, hf⟩ => ⟨he, fr_below hf⟩
end Go.Proofs.Ytaohpdhhbnempaa
