/- Log: the log's functions, by the symbolic machine (printed by genLg2.py; VCs by VcTool). -/
import Derived.Test.YtaohpdhhbnempaaLp
namespace Go.Proofs.Ytaohpdhhbnempaa
open Go.RowKit Go.Lib Ckp Cfd Cpd Sx
set_option linter.unusedVariables false
set_option linter.unusedSimpArgs false
set_option maxRecDepth 1000000
def lgX (O : OO) (R : OB) (b : List Int) (k : Nat) : List (List Int) := (lgS O R b k).1
def lgN (O : OO) (R : OB) (b : List Int) (k : Nat) : Nat := (lgS O R b k).2
def lgW (O : OO) (R : OB) (b : List Int) (e : Nat) (xs : List (List Int)) : List (List Int) := bif nxtOk O R b e then xs ++ [nxtB R b e] else xs
def lgE (O : OO) (R : OB) (b : List Int) (e : Nat) : Nat := bif nxtOk O R b e then e + (lgRow O R (nxtB R b e)).length else e
/-- An append: its error; the log and the disk behind it. -/
def agN (O : OO) (R : OB) (b : List Int) (e : Int) : Bool := bif iLt 65536 (b.length : Int) then true else iLt (4194304 - ((lgRow O R b).length : Int)) e
def apE (O : OO) (R : OB) (l : List Int) (bu : Int) (de br : Bool) (e : Int) (b : List Int) : Int := bif (bif br then true else de) then 21 else bif agN O R b e then 3 else bif wrO l (lgRow O R b) bu de then 0 else 21
def apX (O : OO) (R : OB) (l : List Int) (bu : Int) (de br : Bool) (e : Int) (b : List Int) (xs : List (List Int)) : List (List Int) := bif iBeq (apE O R l bu de br e b) 0 then xs ++ [b] else xs
def apM (O : OO) (R : OB) (l : List Int) (bu : Int) (de br : Bool) (e : Int) (b : List Int) : Int := bif iBeq (apE O R l bu de br e b) 0 then e + ((lgRow O R b).length : Int) else e
/-- Is the disk written to? -/
def apW (O : OO) (R : OB) (de br : Bool) (e : Int) (b : List Int) : Bool := bif (bif br then true else de) then false else !(agN O R b e)
def apL (O : OO) (R : OB) (l : List Int) (bu : Int) (de br : Bool) (e : Int) (b : List Int) : List Int := bif apW O R de br e b then wrL l (lgRow O R b) bu de else l
def apB (O : OO) (R : OB) (l : List Int) (bu : Int) (de br : Bool) (e : Int) (b : List Int) : Int := bif apW O R de br e b then wrB l (lgRow O R b) bu de else bu
def apD (O : OO) (R : OB) (l : List Int) (bu : Int) (de br : Bool) (e : Int) (b : List Int) : Bool := bif apW O R de br e b then wrD l (lgRow O R b) bu de else de
def apR (O : OO) (R : OB) (l : List Int) (bu : Int) (de br : Bool) (e : Int) (b : List Int) : Bool := bif apW O R de br e b then (bif wrO l (lgRow O R b) bu de then br else true) else br
def g_lnext (O : OO) (R : OB) (ds : List Dt) : Option (Bool × List Bool × (List Bool → Post)) := match ds with
 | [.node [.ints b], .node [.node [.node [.ints dl, .v (.int .i64 bu), .v (.bool de)], .rows xs, .v (.int .i64 e), .v (.bool br)]]] => some ((Nat.ble b.length 1000000) && (iLe 0 e && iLe e (b.length : Int)) && (byB b) && (Nat.ble xs.length 1000000), [], fun _ => ⟨[.v (.bool (nxtOk O R b e.toNat))], [(3, .blk 74 [.ptr 4 0, .row 8, .v (.int .i64 (lgE O R b e.toNat : Nat)), .v (.bool br)]), (8, .ownp 22 9), (9, .pool (lgW O R b e.toNat xs)), (4, .blk 28 [.row 10, .v (.int .i64 bu), .v (.bool de)]), (10, .own 5 (.ints .u8 dl)), (0, .blk 22 [.row 11]), (11, .ro (.ints .u8 b)), (2, .blk 29 [.ptr 3 0])]⟩)
 | _ => none
set_option maxHeartbeats 4000000 in
theorem vc_lnext (O : OO) (R : OB) (b dl : List Int) (bu : Int) (de : Bool) (xs : List (List Int)) (e : Int) (br : Bool) (F : FO O) (hr : R = bO) (hS : SB O) (h0 : (Nat.ble b.length 1000000) = true) (h1 : (iLe 0 e && iLe e (b.length : Int)) = true) (h2 : (byB b) = true) (h3 : (Nat.ble xs.length 1000000) = true) :
 If (iLe 0 e && iLe e (iOf (Cont.ints .u8 b).n) && iLe (iOf (Cont.ints .u8 b).n) (iOf (Cont.ints .u8 b).n)) (If ((List.take (nSub (iOf b.length).toNat e.toNat) (List.drop e.toNat
  b)).length.ble 1000000) (If ((List.take (nSub (iOf b.length).toNat e.toNat) (List.drop e.toNat b)).length.ble 1000000) (If (!!bif R.nOk (List.take (nSub (iOf b.length).toNat
  e.toNat) (List.drop e.toNat b)) then false else true) (Value.bool false = Value.bool (nxtOk O R b e.toNat) ∧ True ∧ (Value.int .i64 e = Value.int .i64 (iOf (bif nxtOk O R b e.toNat
  then nAdd e.toNat (lgRow O R (nxtB R b e.toNat)).length else e.toNat)) ∧ Value.bool br = Value.bool br) ∧ EqII xs (lgW O R b e.toNat xs) ∧ (Value.int .i64 bu = Value.int .i64 bu ∧
  Value.bool de = Value.bool de) ∧ EqI dl dl ∧ EqI b b ∧ True) (If (iLt 65536 (R.nV (List.take (nSub (iOf (Cont.ints .u8 b).n).toNat e.toNat) (List.drop e.toNat b)))) (Value.bool
  false = Value.bool (nxtOk O R b e.toNat) ∧ True ∧ (Value.int .i64 e = Value.int .i64 (iOf (bif nxtOk O R b e.toNat then nAdd e.toNat (lgRow O R (nxtB R b e.toNat)).length else
  e.toNat)) ∧ Value.bool br = Value.bool br) ∧ EqII xs (lgW O R b e.toNat xs) ∧ (Value.int .i64 bu = Value.int .i64 bu ∧ Value.bool de = Value.bool de) ∧ EqI dl dl ∧ EqI b b ∧ True)
  (If (iLt (IntKind.i64.wrap (iSub (iOf (R.nR (List.take (nSub (iOf (Cont.ints .u8 b).n).toNat e.toNat) (List.drop e.toNat b))).length) 8)) (R.nV (List.take (nSub (iOf (Cont.ints .u8
  b).n).toNat e.toNat) (List.drop e.toNat b)))) (Value.bool false = Value.bool (nxtOk O R b e.toNat) ∧ True ∧ (Value.int .i64 e = Value.int .i64 (iOf (bif nxtOk O R b e.toNat then
  nAdd e.toNat (lgRow O R (nxtB R b e.toNat)).length else e.toNat)) ∧ Value.bool br = Value.bool br) ∧ EqII xs (lgW O R b e.toNat xs) ∧ (Value.int .i64 bu = Value.int .i64 bu ∧
  Value.bool de = Value.bool de) ∧ EqI dl dl ∧ EqI b b ∧ True) (If (iLe 0 (IntKind.i64.wrap (iAdd (IntKind.i64.wrap (iSub (iOf (Cont.ints .u8 b).n) (iOf (R.nR (List.take (nSub (iOf
  (Cont.ints .u8 b).n).toNat e.toNat) (List.drop e.toNat b))).length))) 8)) && iLe (IntKind.i64.wrap (iAdd (IntKind.i64.wrap (iSub (iOf (Cont.ints .u8 b).n) (iOf (R.nR (List.take
  (nSub (iOf (Cont.ints .u8 b).n).toNat e.toNat) (List.drop e.toNat b))).length))) 8)) (IntKind.i64.wrap (iAdd (IntKind.i64.wrap (iAdd (IntKind.i64.wrap (iSub (iOf (Cont.ints .u8
  b).n) (iOf (R.nR (List.take (nSub (iOf (Cont.ints .u8 b).n).toNat e.toNat) (List.drop e.toNat b))).length))) 8)) (R.nV (List.take (nSub (iOf (Cont.ints .u8 b).n).toNat e.toNat)
  (List.drop e.toNat b))))) && iLe (IntKind.i64.wrap (iAdd (IntKind.i64.wrap (iAdd (IntKind.i64.wrap (iSub (iOf (Cont.ints .u8 b).n) (iOf (R.nR (List.take (nSub (iOf (Cont.ints .u8
  b).n).toNat e.toNat) (List.drop e.toNat b))).length))) 8)) (R.nV (List.take (nSub (iOf (Cont.ints .u8 b).n).toNat e.toNat) (List.drop e.toNat b))))) (iOf (Cont.ints .u8 b).n)) (If
  ((List.take (nSub (IntKind.i64.wrap (iAdd (IntKind.i64.wrap (iAdd (IntKind.i64.wrap (iSub (iOf b.length) (iOf (R.nR (List.take (nSub (iOf b.length).toNat e.toNat) (List.drop e.toNat
  b))).length))) 8)) (R.nV (List.take (nSub (iOf b.length).toNat e.toNat) (List.drop e.toNat b))))).toNat (IntKind.i64.wrap (iAdd (IntKind.i64.wrap (iSub (iOf b.length) (iOf (R.nR
  (List.take (nSub (iOf b.length).toNat e.toNat) (List.drop e.toNat b))).length))) 8)).toNat) (List.drop (IntKind.i64.wrap (iAdd (IntKind.i64.wrap (iSub (iOf b.length) (iOf (R.nR
  (List.take (nSub (iOf b.length).toNat e.toNat) (List.drop e.toNat b))).length))) 8)).toNat b)).length.ble 1000000) (If (iLe 0 e && iLe e (iOf (Cont.ints .u8 b).n) && iLe (iOf
  (Cont.ints .u8 b).n) (iOf (Cont.ints .u8 b).n)) (If (!prfE (List.take (nSub (iOf b.length).toNat e.toNat) (List.drop e.toNat b)) (lgRow O R (List.take (nSub (IntKind.i64.wrap (iAdd
  (IntKind.i64.wrap (iAdd (IntKind.i64.wrap (iSub (iOf b.length) (iOf (R.nR (List.take (nSub (iOf b.length).toNat e.toNat) (List.drop e.toNat b))).length))) 8)) (R.nV (List.take (nSub
  (iOf b.length).toNat e.toNat) (List.drop e.toNat b))))).toNat (IntKind.i64.wrap (iAdd (IntKind.i64.wrap (iSub (iOf b.length) (iOf (R.nR (List.take (nSub (iOf b.length).toNat
  e.toNat) (List.drop e.toNat b))).length))) 8)).toNat) (List.drop (IntKind.i64.wrap (iAdd (IntKind.i64.wrap (iSub (iOf b.length) (iOf (R.nR (List.take (nSub (iOf b.length).toNat
  e.toNat) (List.drop e.toNat b))).length))) 8)).toNat b)))) (Value.bool false = Value.bool (nxtOk O R b e.toNat) ∧ True ∧ (Value.int .i64 e = Value.int .i64 (iOf (bif nxtOk O R b
  e.toNat then nAdd e.toNat (lgRow O R (nxtB R b e.toNat)).length else e.toNat)) ∧ Value.bool br = Value.bool br) ∧ EqII xs (lgW O R b e.toNat xs) ∧ (Value.int .i64 bu = Value.int
  .i64 bu ∧ Value.bool de = Value.bool de) ∧ EqI dl dl ∧ EqI b b ∧ True) (If (iLe 0 (IntKind.i64.wrap (iAdd (IntKind.i64.wrap (iSub (iOf (Cont.ints .u8 b).n) (iOf (R.nR (List.take
  (nSub (iOf (Cont.ints .u8 b).n).toNat e.toNat) (List.drop e.toNat b))).length))) 8)) && iLe (IntKind.i64.wrap (iAdd (IntKind.i64.wrap (iSub (iOf (Cont.ints .u8 b).n) (iOf (R.nR
  (List.take (nSub (iOf (Cont.ints .u8 b).n).toNat e.toNat) (List.drop e.toNat b))).length))) 8)) (IntKind.i64.wrap (iAdd (IntKind.i64.wrap (iAdd (IntKind.i64.wrap (iSub (iOf
  (Cont.ints .u8 b).n) (iOf (R.nR (List.take (nSub (iOf (Cont.ints .u8 b).n).toNat e.toNat) (List.drop e.toNat b))).length))) 8)) (R.nV (List.take (nSub (iOf (Cont.ints .u8
  b).n).toNat e.toNat) (List.drop e.toNat b))))) && iLe (IntKind.i64.wrap (iAdd (IntKind.i64.wrap (iAdd (IntKind.i64.wrap (iSub (iOf (Cont.ints .u8 b).n) (iOf (R.nR (List.take (nSub
  (iOf (Cont.ints .u8 b).n).toNat e.toNat) (List.drop e.toNat b))).length))) 8)) (R.nV (List.take (nSub (iOf (Cont.ints .u8 b).n).toNat e.toNat) (List.drop e.toNat b))))) (iOf
  (Cont.ints .u8 b).n)) (If ((List.take (nSub (IntKind.i64.wrap (iAdd (IntKind.i64.wrap (iAdd (IntKind.i64.wrap (iSub (iOf b.length) (iOf (R.nR (List.take (nSub (iOf b.length).toNat
  e.toNat) (List.drop e.toNat b))).length))) 8)) (R.nV (List.take (nSub (iOf b.length).toNat e.toNat) (List.drop e.toNat b))))).toNat (IntKind.i64.wrap (iAdd (IntKind.i64.wrap (iSub
  (iOf b.length) (iOf (R.nR (List.take (nSub (iOf b.length).toNat e.toNat) (List.drop e.toNat b))).length))) 8)).toNat) (List.drop (IntKind.i64.wrap (iAdd (IntKind.i64.wrap (iSub (iOf
  b.length) (iOf (R.nR (List.take (nSub (iOf b.length).toNat e.toNat) (List.drop e.toNat b))).length))) 8)).toNat b)).length.ble 8388608) (If ((nMul (nAdd xs.length 1) 24).ble
  140737488355328 && (nAdd xs.length 1).ble 9223372036854775807) (Value.bool true = Value.bool (nxtOk O R b e.toNat) ∧ True ∧ (Value.int .i64 (IntKind.i64.wrap (iAdd e (iOf (lgRow O R
  (List.take (nSub (IntKind.i64.wrap (iAdd (IntKind.i64.wrap (iAdd (IntKind.i64.wrap (iSub (iOf b.length) (iOf (R.nR (List.take (nSub (iOf b.length).toNat e.toNat) (List.drop e.toNat
  b))).length))) 8)) (R.nV (List.take (nSub (iOf b.length).toNat e.toNat) (List.drop e.toNat b))))).toNat (IntKind.i64.wrap (iAdd (IntKind.i64.wrap (iSub (iOf b.length) (iOf (R.nR
  (List.take (nSub (iOf b.length).toNat e.toNat) (List.drop e.toNat b))).length))) 8)).toNat) (List.drop (IntKind.i64.wrap (iAdd (IntKind.i64.wrap (iSub (iOf b.length) (iOf (R.nR
  (List.take (nSub (iOf b.length).toNat e.toNat) (List.drop e.toNat b))).length))) 8)).toNat b))).length))) = Value.int .i64 (iOf (bif nxtOk O R b e.toNat then nAdd e.toNat (lgRow O R
  (nxtB R b e.toNat)).length else e.toNat)) ∧ Value.bool br = Value.bool br) ∧ EqII (app xs [List.take (nSub (IntKind.i64.wrap (iAdd (IntKind.i64.wrap (iAdd (IntKind.i64.wrap (iSub
  (iOf b.length) (iOf (R.nR (List.take (nSub (iOf b.length).toNat e.toNat) (List.drop e.toNat b))).length))) 8)) (R.nV (List.take (nSub (iOf b.length).toNat e.toNat) (List.drop
  e.toNat b))))).toNat (IntKind.i64.wrap (iAdd (IntKind.i64.wrap (iSub (iOf b.length) (iOf (R.nR (List.take (nSub (iOf b.length).toNat e.toNat) (List.drop e.toNat b))).length)))
  8)).toNat) (List.drop (IntKind.i64.wrap (iAdd (IntKind.i64.wrap (iSub (iOf b.length) (iOf (R.nR (List.take (nSub (iOf b.length).toNat e.toNat) (List.drop e.toNat b))).length)))
  8)).toNat b)]) (lgW O R b e.toNat xs) ∧ (Value.int .i64 bu = Value.int .i64 bu ∧ Value.bool de = Value.bool de) ∧ EqI dl dl ∧ EqI b b ∧ True) False) False) False)) False) False)
  False)))) False) False) False := by
 have h0' := Nat.le_of_ble_eq_true h0
 have h3' := Nat.le_of_ble_eq_true h3
 simp only [Sx.Bz, Sx.Cont.n, Sx.app, Sx.nAdd, Sx.nSub, Sx.nMul, Sx.nPow, Sx.nDiv, Sx.nMod, Sx.iAdd, Sx.iSub, Sx.iMul, Sx.iNeg, Sx.iPow, Sx.iOf] at h1
 have e0 : List.take (nSub (iOf b.length).toNat e.toNat) (List.drop e.toNat b) = b.drop e.toNat := by
  simp only [Sx.app, Sx.nAdd, Sx.nSub, Sx.nMul, Sx.nPow, Sx.nDiv, Sx.nMod, Sx.iAdd, Sx.iSub, Sx.iMul, Sx.iNeg, Sx.iPow, Sx.iOf, Int.toNat_natCast]; exact List.take_of_length_le (by rw [List.length_drop]; omega)
 simp only [show (Cont.ints IntKind.u8 b).n = b.length from rfl, e0]
 have hsl : (b.drop e.toNat).length = b.length - e.toNat := List.length_drop
 have hby : byB (b.drop e.toNat) = true := byB_drop h2 _
 have fin : nxtOk O R b e.toNat = false → (Value.bool false = Value.bool (nxtOk O R b e.toNat) ∧ Value.int IntKind.i64 e = Value.int IntKind.i64 (iOf (bif nxtOk O R b e.toNat then nAdd e.toNat (lgRow O R (nxtB R b e.toNat)).length else e.toNat)) ∧ xs = lgW O R b e.toNat xs) := by
  intro c
  unfold lgW
  rw [c]
  refine ⟨rfl, ?_, rfl⟩
  have : e = iOf e.toNat := by simp only [Sx.app, Sx.nAdd, Sx.nSub, Sx.nMul, Sx.nPow, Sx.nDiv, Sx.nMod, Sx.iAdd, Sx.iSub, Sx.iMul, Sx.iNeg, Sx.iPow, Sx.iOf]; omega
  rw [cond_false, ← this]
 have t1 : ∀ {p q : Bool}, (bif (bif p then true else q) then false else true) = true → p = false ∧ q = false := by intro p q; cases p <;> cases q <;> decide
 refine Sx.if_true (by simp only [Sx.Bz, Sx.Cont.n, Sx.app, Sx.nAdd, Sx.nSub, Sx.nMul, Sx.nPow, Sx.nDiv, Sx.nMod, Sx.iAdd, Sx.iSub, Sx.iMul, Sx.iNeg, Sx.iPow, Sx.iOf]; omega) (Sx.if_true (by simp only [Sx.Bz, Sx.Cont.n]; omega) (Sx.if_true (by simp only [Sx.Bz, Sx.Cont.n]; omega) ?_))
 have hok : nxtOk O R b e.toNat = bif nxtT R b e.toNat then false else prfE (b.drop e.toNat) (lgRow O R (nxtB R b e.toNat)) := rfl
 cases k0 : R.nOk (b.drop e.toNat)
 ·exact Sx.if_true rfl (by
  have c : nxtOk O R b e.toNat = false := by rw [hok]; unfold nxtT; rw [k0]; rfl
  have k := fin c
  exact ⟨k.1, trivial, ⟨k.2.1, (by first | rfl | trivial)⟩, k.2.2, ⟨(by first | rfl | trivial), (by first | rfl | trivial)⟩, (by first | rfl | trivial), (by first | rfl | trivial), trivial⟩)
 refine Sx.if_false rfl ?_
 have hnum : 0 ≤ R.nV (b.drop e.toNat) ∧ R.nV (b.drop e.toNat) < 9223372036854775808 ∧ (R.nR (b.drop e.toNat)).length ≤ (b.drop e.toNat).length := by
  subst hr
  have k1 : (numG (b.drop e.toNat) 10 0 0).1 = true := k0
  have k2 := num_back hby (v := (numG (b.drop e.toNat) 10 0 0).2.1) (m := (numG (b.drop e.toNat) 10 0 0).2.2) (Prod.ext k1 rfl)
  refine ⟨k2.1, k2.2.1, ?_⟩
  show (bif (numG (b.drop e.toNat) 10 0 0).1 then (b.drop e.toNat).drop (numG (b.drop e.toNat) 10 0 0).2.2 else []).length ≤ _
  rw [k1, cond_true, List.length_drop]; omega
 obtain ⟨v0, v1, v2⟩ := hnum
 have w1 : IntKind.i64.wrap (iSub (iOf b.length) (iOf (R.nR (b.drop e.toNat)).length)) = (b.length : Int) - ((R.nR (b.drop e.toNat)).length : Int) := by simp only [Sx.app, Sx.nAdd, Sx.nSub, Sx.nMul, Sx.nPow, Sx.nDiv, Sx.nMod, Sx.iAdd, Sx.iSub, Sx.iMul, Sx.iNeg, Sx.iPow, Sx.iOf]; rw [IntKind.wrap_i64]; omega
 have w2 : IntKind.i64.wrap (iAdd ((b.length : Int) - ((R.nR (b.drop e.toNat)).length : Int)) 8) = nxtF R b e.toNat := by unfold nxtF; simp only [Sx.app, Sx.nAdd, Sx.nSub, Sx.nMul, Sx.nPow, Sx.nDiv, Sx.nMod, Sx.iAdd, Sx.iSub, Sx.iMul, Sx.iNeg, Sx.iPow, Sx.iOf]; rw [IntKind.wrap_i64]; omega
 have w4 : IntKind.i64.wrap (iSub (iOf (R.nR (b.drop e.toNat)).length) 8) = ((R.nR (b.drop e.toNat)).length : Int) - 8 := by simp only [Sx.app, Sx.nAdd, Sx.nSub, Sx.nMul, Sx.nPow, Sx.nDiv, Sx.nMod, Sx.iAdd, Sx.iSub, Sx.iMul, Sx.iNeg, Sx.iPow, Sx.iOf]; rw [IntKind.wrap_i64]; omega
 simp only [w1, w2, w4]
 refine Sx.if_both (fun h => by
  have c : nxtOk O R b e.toNat = false := by rw [hok]; unfold nxtT; rw [k0, h]; rfl
  have k := fin c
  exact ⟨k.1, trivial, ⟨k.2.1, (by first | rfl | trivial)⟩, k.2.2, ⟨(by first | rfl | trivial), (by first | rfl | trivial)⟩, (by first | rfl | trivial), (by first | rfl | trivial), trivial⟩) (fun k1 => Sx.if_both (fun h => by
  have c : nxtOk O R b e.toNat = false := by rw [hok]; unfold nxtT; rw [k0, k1, h]; rfl
  have k := fin c
  exact ⟨k.1, trivial, ⟨k.2.1, (by first | rfl | trivial)⟩, k.2.2, ⟨(by first | rfl | trivial), (by first | rfl | trivial)⟩, (by first | rfl | trivial), (by first | rfl | trivial), trivial⟩) (fun k2 => ?_))
 have ht : nxtT R b e.toNat = false := by unfold nxtT; rw [k0, k1, k2]; rfl
 rw [ht, cond_false] at hok
 have k1' := k1
 have k2' := k2
 simp only [Sx.Bz, Sx.Cont.n] at k1' k2'
 have hF : nxtF R b e.toNat = (b.length : Int) - ((R.nR (b.drop e.toNat)).length : Int) + 8 := rfl
 have w3 : IntKind.i64.wrap (iAdd (nxtF R b e.toNat) (R.nV (b.drop e.toNat))) = nxtF R b e.toNat + R.nV (b.drop e.toNat) := by simp only [Sx.app, Sx.nAdd, Sx.nSub, Sx.nMul, Sx.nPow, Sx.nDiv, Sx.nMod, Sx.iAdd, Sx.iSub, Sx.iMul, Sx.iNeg, Sx.iPow, Sx.iOf]; rw [IntKind.wrap_i64]; omega
 have w5 : nSub (nxtF R b e.toNat + R.nV (b.drop e.toNat)).toNat (nxtF R b e.toNat).toNat = (R.nV (b.drop e.toNat)).toNat := by simp only [Sx.app, Sx.nAdd, Sx.nSub, Sx.nMul, Sx.nPow, Sx.nDiv, Sx.nMod, Sx.iAdd, Sx.iSub, Sx.iMul, Sx.iNeg, Sx.iPow, Sx.iOf]; omega
 have hB : List.take (R.nV (b.drop e.toNat)).toNat (List.drop (nxtF R b e.toNat).toNat b) = nxtB R b e.toNat := rfl
 simp only [w3, w5, hB]
 have hBl : (nxtB R b e.toNat).length ≤ 65536 := by unfold nxtB; rw [List.length_take]; omega
 refine Sx.if_true (by simp only [Sx.Bz, Sx.Cont.n, Sx.app, Sx.nAdd, Sx.nSub, Sx.nMul, Sx.nPow, Sx.nDiv, Sx.nMod, Sx.iAdd, Sx.iSub, Sx.iMul, Sx.iNeg, Sx.iPow, Sx.iOf]; omega) (Sx.if_true (by simp only [Sx.Bz, Sx.Cont.n]; omega) (Sx.if_true (by simp only [Sx.Bz, Sx.Cont.n, Sx.app, Sx.nAdd, Sx.nSub, Sx.nMul, Sx.nPow, Sx.nDiv, Sx.nMod, Sx.iAdd, Sx.iSub, Sx.iMul, Sx.iNeg, Sx.iPow, Sx.iOf]; omega) ?_))
 rw [← hok]
 cases hp : nxtOk O R b e.toNat
 ·rw [hp] at fin
  have k := fin rfl
  exact Sx.if_true rfl ⟨k.1, trivial, ⟨k.2.1, (by first | rfl | trivial)⟩, k.2.2, ⟨(by first | rfl | trivial), (by first | rfl | trivial)⟩, (by first | rfl | trivial), (by first | rfl | trivial), trivial⟩
 refine Sx.if_false rfl (Sx.if_true (by simp only [Sx.Bz, Sx.Cont.n, Sx.app, Sx.nAdd, Sx.nSub, Sx.nMul, Sx.nPow, Sx.nDiv, Sx.nMod, Sx.iAdd, Sx.iSub, Sx.iMul, Sx.iNeg, Sx.iPow, Sx.iOf]; omega) (Sx.if_true (by simp only [Sx.Bz, Sx.Cont.n]; omega) (Sx.if_true (by simp only [Sx.Bz, Sx.Cont.n, Sx.app, Sx.nAdd, Sx.nSub, Sx.nMul, Sx.nPow, Sx.nDiv, Sx.nMod, Sx.iAdd, Sx.iSub, Sx.iMul, Sx.iNeg, Sx.iPow, Sx.iOf]; omega) ?_)))
 have hl := lg_len (O := O) hr (nxtB R b e.toNat)
 have hl2 := row_len hr ((nxtB R b e.toNat).length : Int)
 have w6 : IntKind.i64.wrap (iAdd e (iOf (lgRow O R (nxtB R b e.toNat)).length)) = iOf (nAdd e.toNat (lgRow O R (nxtB R b e.toNat)).length) := by simp only [Sx.app, Sx.nAdd, Sx.nSub, Sx.nMul, Sx.nPow, Sx.nDiv, Sx.nMod, Sx.iAdd, Sx.iSub, Sx.iMul, Sx.iNeg, Sx.iPow, Sx.iOf]; rw [IntKind.wrap_i64]; omega
 refine ⟨rfl, trivial, ⟨?_, (by first | rfl | trivial)⟩, ?_, ⟨(by first | rfl | trivial), (by first | rfl | trivial)⟩, (by first | rfl | trivial), (by first | rfl | trivial), trivial⟩
 ·rw [w6]; rfl
 ·unfold lgW; rw [hp]; rfl
theorem wpc_lnext (O : OO) (R : OB) (b dl : List Int) (bu : Int) (de : Bool) (xs : List (List Int)) (e : Int) (br : Bool) (F : FO O) (hr : R = bO) (hS : SB O) (h0 : (Nat.ble b.length 1000000) = true) (h1 : (iLe 0 e && iLe e (b.length : Int)) = true) (h2 : (byB b) = true) (h3 : (Nat.ble xs.length 1000000) = true) : wpcI Try.prog (spL1 O R) Try.f31.ntmps [] (bodyOf Try.f31) 0 64 (envP (mks [.obj 22 [.ro .u8], .obj 29 [.obj 74 [.obj 28 [.own 5 .u8, .v, .v], .ownps 22, .v, .v]]] [.node [.ints b], .node [.node [.node [.ints dl, .v (.int .i64 bu), .v (.bool de)], .rows xs, .v (.int .i64 e), .v (.bool br)]]] 0).1 0) (mks [.obj 22 [.ro .u8], .obj 29 [.obj 74 [.obj 28 [.own 5 .u8, .v, .v], .ownps 22, .v, .v]]] [.node [.ints b], .node [.node [.node [.ints dl, .v (.int .i64 bu), .v (.bool de)], .rows xs, .v (.int .i64 e), .v (.bool br)]]] 0).2 (retP Try.prog Try.f31.results.toList 8 (⟨[.v (.bool (nxtOk O R b e.toNat))], [(3, .blk 74 [.ptr 4 0, .row 8, .v (.int .i64 (lgE O R b e.toNat : Nat)), .v (.bool br)]), (8, .ownp 22 9), (9, .pool (lgW O R b e.toNat xs)), (4, .blk 28 [.row 10, .v (.int .i64 bu), .v (.bool de)]), (10, .own 5 (.ints .u8 dl)), (0, .blk 22 [.row 11]), (11, .ro (.ints .u8 b)), (2, .blk 29 [.ptr 3 0])]⟩ : Post)) :=
 Eq.mpr (by kernel_rfl) (vc_lnext O R b dl bu de xs e br F hr hS h0 h1 h2 h3)
theorem ok_lnext (I : Sx.Interp) (O : OO) (hO : O = oo) (R : OB) (hR : R = bO) : Sx.SpecOK I Try.prog 31 (pspec [.obj 22 [.ro .u8], .obj 29 [.obj 74 [.obj 28 [.own 5 .u8, .v, .v], .ownps 22, .v, .v]]] true (g_lnext O R)) := by
 refine spec_pI (spL1_ok I O hO R hR) (by kernel_rfl) (fun ds => match ds with | [.node [.ints b], .node [.node [.node [.ints dl, .v (.int .i64 bu), .v (.bool de)], .rows xs, .v (.int .i64 e), .v (.bool br)]]] => [] | _ => []) Try.func31 (by kernel_rfl) (by kernel_rfl) rfl Try.ntmps31 (by decide) ?_ ?_
 ·intro ds p bs F h
  unfold g_lnext at h
  split at h
  ·rename_i b dl bu de xs e br
   simp only [Option.some.injEq, Prod.mk.injEq] at h
   obtain ⟨_, _, rfl⟩ := h
   kernel_rfl
  ·cases h
 ·intro ds bs F hl h
  unfold g_lnext at h
  split at h
  ·rename_i b dl bu de xs e br
   simp only [Option.some.injEq, Prod.mk.injEq, Bool.and_eq_true] at h
   obtain ⟨⟨⟨⟨h0, h1⟩, h2⟩, h3⟩, _, rfl⟩ := h
   exact wpc_lnext O R b dl bu de xs e br (fo_oo O hO) hR (by subst hO; exact sb_oo) (by first | exact h0 | (simp only [Bool.and_eq_true]; exact h0)) (by first | exact h1 | (simp only [Bool.and_eq_true]; exact h1)) (by first | exact h2 | (simp only [Bool.and_eq_true]; exact h2)) (by first | exact h3 | (simp only [Bool.and_eq_true]; exact h3))
  ·cases h
def spG2 (O : OO) (R : OB) (f : FuncId) : Option Sx.Spec := match f with
 | 31 => some (pspec [.obj 22 [.ro .u8], .obj 29 [.obj 74 [.obj 28 [.own 5 .u8, .v, .v], .ownps 22, .v, .v]]] true (g_lnext O R))
 | f => spL1 O R f
theorem spG2_ok (I : Sx.Interp) (O : OO) (hO : O = oo) (R : OB) (hR : R = bO) : ∀ f s, spG2 O R f = some s → Sx.SpecOK I Try.prog f s := by
 intro f s h
 unfold spG2 at h
 split at h
 · cases h; exact ok_lnext I O hO R hR
 ·exact spL1_ok I O hO R hR _ s h
def p_gopen (O : OO) (R : OB) (l : List Int) (bu : Int) (de : Bool) (bs : List Bool) : Post := match bs with
 | [true] => ⟨[.v (.pointer none), .v (.int .i64 21)], [(0, .blk 28 [.row 2, .v (.int .i64 bu), .v (.bool de)]), (2, .own 5 (.ints .u8 l))]⟩
 | [false] => ⟨[.ptr 2 0, .v (.int .i64 0)], [(2, .blk 74 [.ptr 0 0, .row 3, .v (.int .i64 (lgEnd O R l : Nat)), .v (.bool false)]), (3, .ownp 22 4), (4, .pool (lgRows O R l)), (0, .blk 28 [.row 5, .v (.int .i64 bu), .v (.bool de)]), (5, .own 5 (.ints .u8 (l.take (lgEnd O R l))))]⟩
 | _ => ⟨[], []⟩
def g_gopen (O : OO) (R : OB) (ds : List Dt) : Option (Bool × List Bool × (List Bool → Post)) := match ds with
 | [.node [.ints l, .v (.int .i64 bu), .v (.bool de)]] => some ((Nat.ble l.length 1000000) && (byB l), [or de false], p_gopen O R l bu de)
 | _ => none
set_option maxHeartbeats 4000000 in
theorem vc_gopen_t (O : OO) (R : OB) (l : List Int) (bu : Int) (de : Bool) (F : FO O) (hr : R = bO) (hS : SB O) (h0 : (Nat.ble l.length 1000000) = true) (h1 : (byB l) = true) (hb0 : (or de false) = true) :
 If de ((Value.pointer none = Value.pointer none ∧ Value.int .i64 21 = Value.int .i64 21) ∧ True ∧ (Value.int .i64 bu = Value.int .i64 bu ∧ Value.bool de = Value.bool de) ∧ EqI l l ∧
  True) (If (l.length.ble 8388608) ((∃ (x : Nat), (lgN O R l x ≤ l.length ∧ (lgX O R l x).length ≤ lgN O R l x ∧ x ≤ lgN O R l x) ∧ (SV.fn (Fn.func 31) [SV.ptr
  1152 0, SV.ptr 896 0] = SV.fn (Fn.func 31) [SV.ptr 1152 0, SV.ptr 896 0] ∧ True) ∧ (Value.int .i64 0 = Value.int .i64 (iOf (lgN O R l x)) ∧ Value.bool false =
  Value.bool false) ∧ EqII [] (lgX O R l x) ∧ (Value.int .i64 bu = Value.int .i64 bu ∧ Value.bool de = Value.bool de) ∧ EqI l l ∧ EqI (bif de then [] else l) l ∧ True) ∧ ∀ (x : Nat),
  lgN O R l x ≤ l.length ∧ (lgX O R l x).length ≤ lgN O R l x ∧ x ≤ lgN O R l x → If (l.length.ble 1000000 && (iLe 0 (iOf (lgN O R l x)) && iLe (iOf (lgN O R l x)) (iOf l.length)) &&
  byB l && (lgX O R l x).length.ble 1000000) (If (nxtOk O R l (iOf (lgN O R l x)).toNat) (∃ (x' : Nat), (lgN O R l x' ≤ l.length ∧ (lgX O R l x').length ≤ lgN O R l x' ∧ x' ≤ lgN O R
  l x') ∧ (nSub l.length (lgN O R l x')).succ ≤ nSub l.length (lgN O R l x) ∧ (SV.fn (Fn.func 31) [SV.ptr 1152 0, SV.ptr 896 0] = SV.fn (Fn.func
  31) [SV.ptr 1152 0, SV.ptr 896 0] ∧ True) ∧ (Value.int .i64 (iOf (bif nxtOk O R l (iOf (lgN O R l x)).toNat then nAdd (iOf (lgN O R l x)).toNat (lgRow O R (nxtB
  R l (iOf (lgN O R l x)).toNat)).length else (iOf (lgN O R l x)).toNat)) = Value.int .i64 (iOf (lgN O R l x')) ∧ Value.bool false = Value.bool false) ∧ EqII (lgW O R l (iOf (lgN O R
  l x)).toNat (lgX O R l x)) (lgX O R l x') ∧ (Value.int .i64 bu = Value.int .i64 bu ∧ Value.bool de = Value.bool de) ∧ EqI l l ∧ EqI l l ∧ True) (If (iLt (iOf (lgE O R l (iOf (lgN O
  R l x)).toNat)) (iOf (Cont.ints .u8 l).n)) (If (l.length.ble 8388608) False False) False)) False) False) := by
 rw [Bool.or_false] at hb0
 subst hb0
 exact Sx.if_true rfl ⟨⟨rfl, rfl⟩, trivial, ⟨rfl, rfl⟩, rfl, trivial⟩
theorem wpc_gopen_t (O : OO) (R : OB) (l : List Int) (bu : Int) (de : Bool) (F : FO O) (hr : R = bO) (hS : SB O) (h0 : (Nat.ble l.length 1000000) = true) (h1 : (byB l) = true) (hb0 : (or de false) = true) : wpcI Try.prog (spG2 O R) Try.f10.ntmps [⟨Nat, [0, 4, 5, 6, 17], [(200017, 22, .ints .u8 []), (1000200017, 22, .ints .u8 []), (100000, 5, .ints .u8 []), (100005, 5, .ints .u8 [])], fun B k => [], fun B k => [(832, .blk 74 [.ptr 0 0, .row B, .v (.int .i64 (lgN O R l k : Nat)), .v (.bool false)]), (B, .ownp 22 (B + 1)), (B + 1, .pool (lgX O R l k)), (0, .blk 28 [.row (B + 2), .v (.int .i64 bu), .v (.bool de)]), (B + 2, .own 5 (.ints .u8 l)), (B + 3, .ro (.ints .u8 l)), (1152, .blk 22 [.row (B + 3)])], fun k => lgN O R l k ≤ l.length ∧ (lgX O R l k).length ≤ lgN O R l k ∧ k ≤ lgN O R l k, fun k => l.length - lgN O R l k, 0⟩] (bodyOf Try.f10) 0 64 (envP (mks [.obj 28 [.own 5 .u8, .v, .v]] [.node [.ints l, .v (.int .i64 bu), .v (.bool de)]] 0).1 0) (mks [.obj 28 [.own 5 .u8, .v, .v]] [.node [.ints l, .v (.int .i64 bu), .v (.bool de)]] 0).2 (retP Try.prog Try.f10.results.toList 2 (p_gopen O R l bu de [true] : Post)) :=
 Eq.mpr (by kernel_rfl) (vc_gopen_t O R l bu de F hr hS h0 h1 hb0)
set_option maxHeartbeats 4000000 in
theorem vc_gopen_f (O : OO) (R : OB) (l : List Int) (bu : Int) (de : Bool) (F : FO O) (hr : R = bO) (hS : SB O) (h0 : (Nat.ble l.length 1000000) = true) (h1 : (byB l) = true) (hb0 : (or de false) = false) :
 If de ((SV.v (Value.pointer none) = SV.ptr 2 0 ∧ Value.int .i64 21 = Value.int .i64 0) ∧ True ∧ False) (If (l.length.ble 8388608) ((∃ (x : Nat), (lgN O R l x ≤ l.length ∧ (lgX O R l
  x).length ≤ lgN O R l x ∧ x ≤ lgN O R l x) ∧ (SV.fn (Fn.func 31) [SV.ptr 1152 0, SV.ptr 896 0] = SV.fn (Fn.func 31) [SV.ptr 1152 0, SV.ptr
  896 0] ∧ True) ∧ (Value.int .i64 0 = Value.int .i64 (iOf (lgN O R l x)) ∧ Value.bool false = Value.bool false) ∧ EqII [] (lgX O R l x) ∧ (Value.int .i64 bu = Value.int .i64 bu ∧
  Value.bool de = Value.bool de) ∧ EqI l l ∧ EqI (bif de then [] else l) l ∧ True) ∧ ∀ (x : Nat), lgN O R l x ≤ l.length ∧ (lgX O R l x).length ≤ lgN O R l x ∧ x ≤ lgN O R l x → If
  (l.length.ble 1000000 && (iLe 0 (iOf (lgN O R l x)) && iLe (iOf (lgN O R l x)) (iOf l.length)) && byB l && (lgX O R l x).length.ble 1000000) (If (nxtOk O R l (iOf (lgN O R l
  x)).toNat) (∃ (x' : Nat), (lgN O R l x' ≤ l.length ∧ (lgX O R l x').length ≤ lgN O R l x' ∧ x' ≤ lgN O R l x') ∧ (nSub l.length (lgN O R l x')).succ ≤ nSub l.length (lgN O R l x) ∧
  (SV.fn (Fn.func 31) [SV.ptr 1152 0, SV.ptr 896 0] = SV.fn (Fn.func 31) [SV.ptr 1152 0, SV.ptr 896 0] ∧ True) ∧ (Value.int .i64 (iOf (bif
  nxtOk O R l (iOf (lgN O R l x)).toNat then nAdd (iOf (lgN O R l x)).toNat (lgRow O R (nxtB R l (iOf (lgN O R l x)).toNat)).length else (iOf (lgN O R l x)).toNat)) = Value.int .i64
  (iOf (lgN O R l x')) ∧ Value.bool false = Value.bool false) ∧ EqII (lgW O R l (iOf (lgN O R l x)).toNat (lgX O R l x)) (lgX O R l x') ∧ (Value.int .i64 bu = Value.int .i64 bu ∧
  Value.bool de = Value.bool de) ∧ EqI l l ∧ EqI l l ∧ True) (If (iLt (iOf (lgE O R l (iOf (lgN O R l x)).toNat)) (iOf (Cont.ints .u8 l).n)) (If (l.length.ble 8388608) (Value.int .i64
  0 = Value.int .i64 0 ∧ True ∧ (Value.int .i64 (iOf (bif nxtOk O R l (iOf (lgN O R l x)).toNat then nAdd (iOf (lgN O R l x)).toNat (lgRow O R (nxtB R l (iOf (lgN O R l
  x)).toNat)).length else (iOf (lgN O R l x)).toNat)) = Value.int .i64 (iOf (lgEnd O R l)) ∧ Value.bool false = Value.bool false) ∧ EqII (lgW O R l (iOf (lgN O R l x)).toNat (lgX O R
  l x)) (lgRows O R l) ∧ (Value.int .i64 bu = Value.int .i64 bu ∧ Value.bool de = Value.bool de) ∧ EqI (bif cutN l (iOf (bif nxtOk O R l (iOf (lgN O R l x)).toNat then nAdd (iOf (lgN
  O R l x)).toNat (lgRow O R (nxtB R l (iOf (lgN O R l x)).toNat)).length else (iOf (lgN O R l x)).toNat)) de then l else List.take (iOf (bif nxtOk O R l (iOf (lgN O R l x)).toNat
  then nAdd (iOf (lgN O R l x)).toNat (lgRow O R (nxtB R l (iOf (lgN O R l x)).toNat)).length else (iOf (lgN O R l x)).toNat)).toNat l) (List.take (lgEnd O R l) l) ∧ True) False)
  (Value.int .i64 0 = Value.int .i64 0 ∧ True ∧ (Value.int .i64 (iOf (bif nxtOk O R l (iOf (lgN O R l x)).toNat then nAdd (iOf (lgN O R l x)).toNat (lgRow O R (nxtB R l (iOf (lgN O R
  l x)).toNat)).length else (iOf (lgN O R l x)).toNat)) = Value.int .i64 (iOf (lgEnd O R l)) ∧ Value.bool false = Value.bool false) ∧ EqII (lgW O R l (iOf (lgN O R l x)).toNat (lgX O
  R l x)) (lgRows O R l) ∧ (Value.int .i64 bu = Value.int .i64 bu ∧ Value.bool de = Value.bool de) ∧ EqI l (List.take (lgEnd O R l) l) ∧ True))) False) False) := by
 have h0' := Nat.le_of_ble_eq_true h0
 rw [Bool.or_false] at hb0
 subst hb0
 have hn : ∀ k : Nat, (iOf (lgN O R l k)).toNat = lgN O R l k := fun k => by simp only [Sx.app, Sx.nAdd, Sx.nSub, Sx.nMul, Sx.nPow, Sx.nDiv, Sx.nMod, Sx.iAdd, Sx.iSub, Sx.iMul, Sx.iNeg, Sx.iPow, Sx.iOf, Int.toNat_natCast]
 have hE : ∀ k : Nat, (bif nxtOk O R l (lgN O R l k) then nAdd (lgN O R l k) (lgRow O R (nxtB R l (lgN O R l k))).length else lgN O R l k) = lgE O R l (lgN O R l k) := fun k => rfl
 simp only [hn, hE]
 refine Sx.if_false rfl (Sx.if_true (by simp only [Sx.Bz, Sx.Cont.n]; omega) ⟨⟨0, ⟨Nat.zero_le _, Nat.le_refl _, Nat.le_refl _⟩, (by first | rfl | trivial), ⟨rfl, (by first | rfl | trivial)⟩, rfl, ⟨(by first | rfl | trivial), (by first | rfl | trivial)⟩, (by first | rfl | trivial), (by first | rfl | trivial), trivial⟩, fun x hx => ?_⟩)
 obtain ⟨x1, x2, x3⟩ := hx
 refine Sx.if_true (by simp only [Sx.Bz, Sx.Cont.n, Sx.app, Sx.nAdd, Sx.nSub, Sx.nMul, Sx.nPow, Sx.nDiv, Sx.nMod, Sx.iAdd, Sx.iSub, Sx.iMul, Sx.iNeg, Sx.iPow, Sx.iOf]; exact ⟨⟨⟨by omega, by omega⟩, h1⟩, by omega⟩) ?_
 cases c : nxtOk O R l (lgN O R l x)
 ·have st := lgS_stop (m := l.length + 1) c (by omega)
  have e1 : lgRows O R l = lgX O R l x := congrArg (fun p => p.1) st
  have e2 : lgEnd O R l = lgN O R l x := congrArg (fun p => p.2) st
  have e3 : lgE O R l (lgN O R l x) = lgN O R l x := by unfold lgE; rw [c]; rfl
  have e4 : lgW O R l (lgN O R l x) (lgX O R l x) = lgX O R l x := by unfold lgW; rw [c]; rfl
  refine Sx.if_false rfl ?_
  rw [e3, e4, e1, e2]
  refine Sx.if_both (fun d => Sx.if_true (by simp only [Sx.Bz, Sx.Cont.n]; omega) ⟨(by first | rfl | trivial), trivial, ⟨(by first | rfl | trivial), (by first | rfl | trivial)⟩, (by first | rfl | trivial), ⟨(by first | rfl | trivial), (by first | rfl | trivial)⟩, ?_, trivial⟩) (fun d => ⟨(by first | rfl | trivial), trivial, ⟨(by first | rfl | trivial), (by first | rfl | trivial)⟩, (by first | rfl | trivial), ⟨(by first | rfl | trivial), (by first | rfl | trivial)⟩, ?_, trivial⟩)
  ·have hc : cutN l (iOf (lgN O R l x)) false = false := by
    unfold cutN
    rw [show iLt (iOf (lgN O R l x)) 0 = false by simp only [Sx.Bz, Sx.Cont.n, Sx.app, Sx.nAdd, Sx.nSub, Sx.nMul, Sx.nPow, Sx.nDiv, Sx.nMod, Sx.iAdd, Sx.iSub, Sx.iMul, Sx.iNeg, Sx.iPow, Sx.iOf]; omega, show iLt (l.length : Int) (iOf (lgN O R l x)) = false by simp only [Sx.Bz, Sx.Cont.n, Sx.app, Sx.nAdd, Sx.nSub, Sx.nMul, Sx.nPow, Sx.nDiv, Sx.nMod, Sx.iAdd, Sx.iSub, Sx.iMul, Sx.iNeg, Sx.iPow, Sx.iOf]; omega]; rfl
   rw [hc, hn]; rfl
  ·simp only [Sx.Bz, Sx.Cont.n, Sx.app, Sx.nAdd, Sx.nSub, Sx.nMul, Sx.nPow, Sx.nDiv, Sx.nMod, Sx.iAdd, Sx.iSub, Sx.iMul, Sx.iNeg, Sx.iPow, Sx.iOf] at d
   exact (List.take_of_length_le (by omega)).symm
 ·have hp : prfE (l.drop (lgN O R l x)) (lgRow O R (nxtB R l (lgN O R l x))) = true := by
   unfold nxtOk at c
   cases t : nxtT R l (lgN O R l x)
   ·rw [t] at c; exact c
   ·rw [t] at c; cases c
  have hf : (lgRow O R (nxtB R l (lgN O R l x))).length ≤ l.length - lgN O R l x := by
   unfold prfE at hp
   rw [List.length_drop] at hp
   cases t : iLe ((lgRow O R (nxtB R l (lgN O R l x))).length : Int) ((l.length - lgN O R l x : Nat) : Int)
   ·rw [t] at hp; cases hp
   ·simp only [iLe_t] at t; omega
  have hl := lg_pos (O := O) hr (nxtB R l (lgN O R l x))
  have st : lgS O R l (x + 1) = (lgX O R l x ++ [nxtB R l (lgN O R l x)], lgN O R l x + (lgRow O R (nxtB R l (lgN O R l x))).length) := by
   show (bif nxtOk O R l (lgN O R l x) then _ else _) = _
   rw [c]; rfl
  have e1 : lgX O R l (x + 1) = lgX O R l x ++ [nxtB R l (lgN O R l x)] := congrArg (fun p => p.1) st
  have e2 : lgN O R l (x + 1) = lgN O R l x + (lgRow O R (nxtB R l (lgN O R l x))).length := congrArg (fun p => p.2) st
  have e3 : lgE O R l (lgN O R l x) = lgN O R l (x + 1) := by unfold lgE; rw [c, e2]; rfl
  have e4 : lgW O R l (lgN O R l x) (lgX O R l x) = lgX O R l (x + 1) := by unfold lgW; rw [c, e1]; rfl
  refine Sx.if_true rfl ?_
  rw [e3, e4]
  refine ⟨x + 1, ⟨by omega, by rw [e1, List.length_append]; simp only [List.length_cons, List.length_nil]; omega, by omega⟩, by simp only [Sx.app, Sx.nAdd, Sx.nSub, Sx.nMul, Sx.nPow, Sx.nDiv, Sx.nMod, Sx.iAdd, Sx.iSub, Sx.iMul, Sx.iNeg, Sx.iPow, Sx.iOf]; omega, (by first | rfl | trivial), ⟨(by first | rfl | trivial), (by first | rfl | trivial)⟩, (by first | rfl | trivial), ⟨(by first | rfl | trivial), (by first | rfl | trivial)⟩, (by first | rfl | trivial), (by first | rfl | trivial), trivial⟩
theorem wpc_gopen_f (O : OO) (R : OB) (l : List Int) (bu : Int) (de : Bool) (F : FO O) (hr : R = bO) (hS : SB O) (h0 : (Nat.ble l.length 1000000) = true) (h1 : (byB l) = true) (hb0 : (or de false) = false) : wpcI Try.prog (spG2 O R) Try.f10.ntmps [⟨Nat, [0, 4, 5, 6, 17], [(200017, 22, .ints .u8 []), (1000200017, 22, .ints .u8 []), (100000, 5, .ints .u8 []), (100005, 5, .ints .u8 [])], fun B k => [], fun B k => [(832, .blk 74 [.ptr 0 0, .row B, .v (.int .i64 (lgN O R l k : Nat)), .v (.bool false)]), (B, .ownp 22 (B + 1)), (B + 1, .pool (lgX O R l k)), (0, .blk 28 [.row (B + 2), .v (.int .i64 bu), .v (.bool de)]), (B + 2, .own 5 (.ints .u8 l)), (B + 3, .ro (.ints .u8 l)), (1152, .blk 22 [.row (B + 3)])], fun k => lgN O R l k ≤ l.length ∧ (lgX O R l k).length ≤ lgN O R l k ∧ k ≤ lgN O R l k, fun k => l.length - lgN O R l k, 0⟩] (bodyOf Try.f10) 0 64 (envP (mks [.obj 28 [.own 5 .u8, .v, .v]] [.node [.ints l, .v (.int .i64 bu), .v (.bool de)]] 0).1 0) (mks [.obj 28 [.own 5 .u8, .v, .v]] [.node [.ints l, .v (.int .i64 bu), .v (.bool de)]] 0).2 (retP Try.prog Try.f10.results.toList 2 (p_gopen O R l bu de [false] : Post)) :=
 Eq.mpr (by kernel_rfl) (vc_gopen_f O R l bu de F hr hS h0 h1 hb0)
theorem ok_gopen (I : Sx.Interp) (O : OO) (hO : O = oo) (R : OB) (hR : R = bO) : Sx.SpecOK I Try.prog 10 (pspec [.obj 28 [.own 5 .u8, .v, .v]] true (g_gopen O R)) := by
 refine spec_pI (spG2_ok I O hO R hR) (by kernel_rfl) (fun ds => match ds with | [.node [.ints l, .v (.int .i64 bu), .v (.bool de)]] => [⟨Nat, [0, 4, 5, 6, 17], [(200017, 22, .ints .u8 []), (1000200017, 22, .ints .u8 []), (100000, 5, .ints .u8 []), (100005, 5, .ints .u8 [])], fun B k => [], fun B k => [(832, .blk 74 [.ptr 0 0, .row B, .v (.int .i64 (lgN O R l k : Nat)), .v (.bool false)]), (B, .ownp 22 (B + 1)), (B + 1, .pool (lgX O R l k)), (0, .blk 28 [.row (B + 2), .v (.int .i64 bu), .v (.bool de)]), (B + 2, .own 5 (.ints .u8 l)), (B + 3, .ro (.ints .u8 l)), (1152, .blk 22 [.row (B + 3)])], fun k => lgN O R l k ≤ l.length ∧ (lgX O R l k).length ≤ lgN O R l k ∧ k ≤ lgN O R l k, fun k => l.length - lgN O R l k, 0⟩] | _ => []) Try.func10 (by kernel_rfl) (by kernel_rfl) rfl Try.ntmps10 (by decide) ?_ ?_
 ·intro ds p bs F h
  unfold g_gopen at h
  split at h
  ·rename_i l bu de
   simp only [Option.some.injEq, Prod.mk.injEq] at h
   obtain ⟨_, rfl, rfl⟩ := h
   generalize (or de false) = t0
   cases t0 <;> kernel_rfl
  ·cases h
 ·intro ds bs F hl h
  unfold g_gopen at h
  split at h
  ·rename_i l bu de
   simp only [Option.some.injEq, Prod.mk.injEq, Bool.and_eq_true] at h
   obtain ⟨⟨h0, h1⟩, rfl, rfl⟩ := h
   cases hb0 : (or de false) with
   | true => exact wpc_gopen_t O R l bu de (fo_oo O hO) hR (by subst hO; exact sb_oo) (by first | exact h0 | (simp only [Bool.and_eq_true]; exact h0)) (by first | exact h1 | (simp only [Bool.and_eq_true]; exact h1)) hb0
   | false => exact wpc_gopen_f O R l bu de (fo_oo O hO) hR (by subst hO; exact sb_oo) (by first | exact h0 | (simp only [Bool.and_eq_true]; exact h0)) (by first | exact h1 | (simp only [Bool.and_eq_true]; exact h1)) hb0
  ·cases h
def g_gapp (O : OO) (R : OB) (ds : List Dt) : Option (Bool × List Bool × (List Bool → Post)) := match ds with
 | [.node [.node [.ints l, .v (.int .i64 bu), .v (.bool de)], .rows xs, .v (.int .i64 e), .v (.bool br)], .ints b] => some ((Nat.ble l.length 4194304) && (Nat.ble b.length 1000000) && (Nat.ble xs.length 1000000) && (iLe (-9223372036854775808) bu && iLe bu 9223372036854775807) && (iLe 0 e && iLe e 4194304), [], fun _ => ⟨[.v (.int .i64 (apE O R l bu de br e b))], [(0, .blk 74 [.ptr 1 0, .row 6, .v (.int .i64 (apM O R l bu de br e b)), .v (.bool (apR O R l bu de br e b))]), (6, .ownp 22 7), (7, .pool (apX O R l bu de br e b xs)), (1, .blk 28 [.row 8, .v (.int .i64 (apB O R l bu de br e b)), .v (.bool (apD O R l bu de br e b))]), (8, .own 5 (.ints .u8 (apL O R l bu de br e b)))]⟩)
 | _ => none
set_option maxHeartbeats 4000000 in
theorem vc_gapp (O : OO) (R : OB) (l : List Int) (bu : Int) (de : Bool) (xs : List (List Int)) (e : Int) (br : Bool) (b : List Int) (F : FO O) (hr : R = bO) (hS : SB O) (h0 : (Nat.ble l.length 4194304) = true) (h1 : (Nat.ble b.length 1000000) = true) (h2 : (Nat.ble xs.length 1000000) = true) (h3 : (iLe (-9223372036854775808) bu && iLe bu 9223372036854775807) = true) (h4 : (iLe 0 e && iLe e 4194304) = true) :
 If (b.length.ble 1000000) (If br (Value.int .i64 21 = Value.int .i64 (apE O R l bu de br e b) ∧ True ∧ (Value.int .i64 e = Value.int .i64 (apM O R l bu de br e b) ∧ Value.bool br =
  Value.bool (apR O R l bu de br e b)) ∧ EqII xs (apX O R l bu de br e b xs) ∧ (Value.int .i64 bu = Value.int .i64 (apB O R l bu de br e b) ∧ Value.bool de = Value.bool (apD O R l bu
  de br e b)) ∧ EqI l (apL O R l bu de br e b) ∧ True) (If de (Value.int .i64 21 = Value.int .i64 (apE O R l bu de br e b) ∧ True ∧ (Value.int .i64 e = Value.int .i64 (apM O R l bu de
  br e b) ∧ Value.bool br = Value.bool (apR O R l bu de br e b)) ∧ EqII xs (apX O R l bu de br e b xs) ∧ (Value.int .i64 bu = Value.int .i64 (apB O R l bu de br e b) ∧ Value.bool de =
  Value.bool (apD O R l bu de br e b)) ∧ EqI l (apL O R l bu de br e b) ∧ True) (If (iLt 65536 (iOf (Cont.ints .u8 b).n)) (Value.int .i64 3 = Value.int .i64 (apE O R l bu de br e b) ∧
  True ∧ (Value.int .i64 e = Value.int .i64 (apM O R l bu de br e b) ∧ Value.bool br = Value.bool (apR O R l bu de br e b)) ∧ EqII xs (apX O R l bu de br e b xs) ∧ (Value.int .i64 bu
  = Value.int .i64 (apB O R l bu de br e b) ∧ Value.bool de = Value.bool (apD O R l bu de br e b)) ∧ EqI l (apL O R l bu de br e b) ∧ True) (If (iLt (IntKind.i64.wrap (iSub 4194304
  (iOf (Cont.ints .u8 (lgRow O R b)).n))) e) (Value.int .i64 3 = Value.int .i64 (apE O R l bu de br e b) ∧ True ∧ (Value.int .i64 e = Value.int .i64 (apM O R l bu de br e b) ∧
  Value.bool br = Value.bool (apR O R l bu de br e b)) ∧ EqII xs (apX O R l bu de br e b xs) ∧ (Value.int .i64 bu = Value.int .i64 (apB O R l bu de br e b) ∧ Value.bool de =
  Value.bool (apD O R l bu de br e b)) ∧ EqI l (apL O R l bu de br e b) ∧ True) (If (l.length.ble 8388608 && (lgRow O R b).length.ble 8388608 && (iLe (iNeg 9223372036854775808) bu &&
  iLe bu 9223372036854775807)) (If (!wrO l (lgRow O R b) bu de) (Value.int .i64 21 = Value.int .i64 (apE O R l bu de br e b) ∧ True ∧ (Value.int .i64 e = Value.int .i64 (apM O R l bu
  de br e b) ∧ Value.bool true = Value.bool (apR O R l bu de br e b)) ∧ EqII xs (apX O R l bu de br e b xs) ∧ (Value.int .i64 (wrB l (lgRow O R b) bu de) = Value.int .i64 (apB O R l
  bu de br e b) ∧ Value.bool (wrD l (lgRow O R b) bu de) = Value.bool (apD O R l bu de br e b)) ∧ EqI (wrL l (lgRow O R b) bu de) (apL O R l bu de br e b) ∧ True) (If (b.length.ble
  8388608) (If ((nMul (nAdd xs.length 1) 24).ble 140737488355328 && (nAdd xs.length 1).ble 9223372036854775807) (Value.int .i64 0 = Value.int .i64 (apE O R l bu de br e b) ∧ True ∧
  (Value.int .i64 (IntKind.i64.wrap (iAdd e (iOf (lgRow O R b).length))) = Value.int .i64 (apM O R l bu de br e b) ∧ Value.bool br = Value.bool (apR O R l bu de br e b)) ∧ EqII (app
  xs [b]) (apX O R l bu de br e b xs) ∧ (Value.int .i64 (wrB l (lgRow O R b) bu de) = Value.int .i64 (apB O R l bu de br e b) ∧ Value.bool (wrD l (lgRow O R b) bu de) = Value.bool
  (apD O R l bu de br e b)) ∧ EqI (wrL l (lgRow O R b) bu de) (apL O R l bu de br e b) ∧ True) False) False)) False))))) False := by
 have h0' := Nat.le_of_ble_eq_true h0
 have h1' := Nat.le_of_ble_eq_true h1
 have h2' := Nat.le_of_ble_eq_true h2
 simp only [Sx.Bz, Sx.Cont.n] at h3 h4
 have hl := lg_len (O := O) hr b
 have hl2 := row_len hr (b.length : Int)
 have w1 : IntKind.i64.wrap (iSub 4194304 (iOf (Cont.ints IntKind.u8 (lgRow O R b)).n)) = 4194304 - ((lgRow O R b).length : Int) := by simp only [Sx.app, Sx.nAdd, Sx.nSub, Sx.nMul, Sx.nPow, Sx.nDiv, Sx.nMod, Sx.iAdd, Sx.iSub, Sx.iMul, Sx.iNeg, Sx.iPow, Sx.iOf, Sx.Cont.n]; rw [IntKind.wrap_i64]; omega
 rw [w1]
 refine Sx.if_true (by simp only [Sx.Bz, Sx.Cont.n]; omega) (Sx.if_both (fun hb => ?_) (fun hb => Sx.if_both (fun hd => ?_) (fun hd => Sx.if_both (fun k1 => ?_) (fun k1 => Sx.if_both (fun k2 => ?_) (fun k2 => Sx.if_true (by simp only [Sx.Bz, Sx.Cont.n, Sx.app, Sx.nAdd, Sx.nSub, Sx.nMul, Sx.nPow, Sx.nDiv, Sx.nMod, Sx.iAdd, Sx.iSub, Sx.iMul, Sx.iNeg, Sx.iPow, Sx.iOf]; omega) (Sx.if_both (fun k3 => ?_) (fun k3 => Sx.if_true (by simp only [Sx.Bz, Sx.Cont.n]; omega) (Sx.if_true (by simp only [Sx.Bz, Sx.Cont.n, Sx.app, Sx.nAdd, Sx.nSub, Sx.nMul, Sx.nPow, Sx.nDiv, Sx.nMod, Sx.iAdd, Sx.iSub, Sx.iMul, Sx.iNeg, Sx.iPow, Sx.iOf]; omega) ?_))))))))
 ·subst hb
  exact ⟨rfl, trivial, ⟨rfl, rfl⟩, rfl, ⟨rfl, rfl⟩, rfl, trivial⟩
 ·subst hb
  subst hd
  exact ⟨rfl, trivial, ⟨rfl, rfl⟩, rfl, ⟨rfl, rfl⟩, rfl, trivial⟩
 ·subst hb
  subst hd
  have c : agN O R b e = true := by unfold agN; rw [show iLt 65536 (b.length : Int) = true from k1]; rfl
  have E : apE O R l bu false false e b = 3 := by unfold apE; rw [c]; rfl
  have W : apW O R false false e b = false := by unfold apW; rw [c]; rfl
  exact ⟨congrArg _ E.symm, trivial, ⟨by unfold apM; rw [E]; rfl, by unfold apR; rw [W]; rfl⟩, by unfold apX; rw [E]; rfl, ⟨by unfold apB; rw [W]; rfl, by unfold apD; rw [W]; rfl⟩, by unfold apL; rw [W]; rfl, trivial⟩
 ·subst hb
  subst hd
  have c : agN O R b e = true := by unfold agN; rw [show iLt 65536 (b.length : Int) = false from k1, k2]; rfl
  have E : apE O R l bu false false e b = 3 := by unfold apE; rw [c]; rfl
  have W : apW O R false false e b = false := by unfold apW; rw [c]; rfl
  exact ⟨congrArg _ E.symm, trivial, ⟨by unfold apM; rw [E]; rfl, by unfold apR; rw [W]; rfl⟩, by unfold apX; rw [E]; rfl, ⟨by unfold apB; rw [W]; rfl, by unfold apD; rw [W]; rfl⟩, by unfold apL; rw [W]; rfl, trivial⟩
 ·subst hb
  subst hd
  have c : agN O R b e = false := by unfold agN; rw [show iLt 65536 (b.length : Int) = false from k1, k2]; rfl
  have k3 : wrO l (lgRow O R b) bu false = false := by cases q : wrO l (lgRow O R b) bu false <;> rw [q] at k3 <;> first | rfl | cases k3
  have E : apE O R l bu false false e b = 21 := by unfold apE; rw [c, k3]; rfl
  have W : apW O R false false e b = true := by unfold apW; rw [c]; rfl
  exact ⟨congrArg _ E.symm, trivial, ⟨by unfold apM; rw [E]; rfl, by unfold apR; rw [W, k3]; rfl⟩, by unfold apX; rw [E]; rfl, ⟨by unfold apB; rw [W]; rfl, by unfold apD; rw [W]; rfl⟩, by unfold apL; rw [W]; rfl, trivial⟩
 ·subst hb
  subst hd
  have c : agN O R b e = false := by unfold agN; rw [show iLt 65536 (b.length : Int) = false from k1, k2]; rfl
  have k3 : wrO l (lgRow O R b) bu false = true := by cases q : wrO l (lgRow O R b) bu false <;> rw [q] at k3 <;> first | rfl | cases k3
  have E : apE O R l bu false false e b = 0 := by unfold apE; rw [c, k3]; rfl
  have W : apW O R false false e b = true := by unfold apW; rw [c]; rfl
  simp only [Sx.Bz, Sx.Cont.n] at k2
  have w2 : IntKind.i64.wrap (iAdd e (iOf (lgRow O R b).length)) = e + ((lgRow O R b).length : Int) := by simp only [Sx.app, Sx.nAdd, Sx.nSub, Sx.nMul, Sx.nPow, Sx.nDiv, Sx.nMod, Sx.iAdd, Sx.iSub, Sx.iMul, Sx.iNeg, Sx.iPow, Sx.iOf]; rw [IntKind.wrap_i64]; omega
  exact ⟨congrArg _ E.symm, trivial, ⟨by unfold apM; rw [E, w2]; rfl, by unfold apR; rw [W, k3]; rfl⟩, by unfold apX; rw [E]; rfl, ⟨by unfold apB; rw [W]; rfl, by unfold apD; rw [W]; rfl⟩, by unfold apL; rw [W]; rfl, trivial⟩
theorem wpc_gapp (O : OO) (R : OB) (l : List Int) (bu : Int) (de : Bool) (xs : List (List Int)) (e : Int) (br : Bool) (b : List Int) (F : FO O) (hr : R = bO) (hS : SB O) (h0 : (Nat.ble l.length 4194304) = true) (h1 : (Nat.ble b.length 1000000) = true) (h2 : (Nat.ble xs.length 1000000) = true) (h3 : (iLe (-9223372036854775808) bu && iLe bu 9223372036854775807) = true) (h4 : (iLe 0 e && iLe e 4194304) = true) : wpcI Try.prog (spG2 O R) Try.f16.ntmps [] (bodyOf Try.f16) 0 64 (envP (mks [.obj 74 [.obj 28 [.own 5 .u8, .v, .v], .ownps 22, .v, .v], .ro .u8] [.node [.node [.ints l, .v (.int .i64 bu), .v (.bool de)], .rows xs, .v (.int .i64 e), .v (.bool br)], .ints b] 0).1 0) (mks [.obj 74 [.obj 28 [.own 5 .u8, .v, .v], .ownps 22, .v, .v], .ro .u8] [.node [.node [.ints l, .v (.int .i64 bu), .v (.bool de)], .rows xs, .v (.int .i64 e), .v (.bool br)], .ints b] 0).2 (retP Try.prog Try.f16.results.toList 6 (⟨[.v (.int .i64 (apE O R l bu de br e b))], [(0, .blk 74 [.ptr 1 0, .row 6, .v (.int .i64 (apM O R l bu de br e b)), .v (.bool (apR O R l bu de br e b))]), (6, .ownp 22 7), (7, .pool (apX O R l bu de br e b xs)), (1, .blk 28 [.row 8, .v (.int .i64 (apB O R l bu de br e b)), .v (.bool (apD O R l bu de br e b))]), (8, .own 5 (.ints .u8 (apL O R l bu de br e b)))]⟩ : Post)) :=
 Eq.mpr (by kernel_rfl) (vc_gapp O R l bu de xs e br b F hr hS h0 h1 h2 h3 h4)
theorem ok_gapp (I : Sx.Interp) (O : OO) (hO : O = oo) (R : OB) (hR : R = bO) : Sx.SpecOK I Try.prog 16 (pspec [.obj 74 [.obj 28 [.own 5 .u8, .v, .v], .ownps 22, .v, .v], .ro .u8] true (g_gapp O R)) := by
 refine spec_pI (spG2_ok I O hO R hR) (by kernel_rfl) (fun ds => match ds with | [.node [.node [.ints l, .v (.int .i64 bu), .v (.bool de)], .rows xs, .v (.int .i64 e), .v (.bool br)], .ints b] => [] | _ => []) Try.func16 (by kernel_rfl) (by kernel_rfl) rfl Try.ntmps16 (by decide) ?_ ?_
 ·intro ds p bs F h
  unfold g_gapp at h
  split at h
  ·rename_i l bu de xs e br b
   simp only [Option.some.injEq, Prod.mk.injEq] at h
   obtain ⟨_, _, rfl⟩ := h
   kernel_rfl
  ·cases h
 ·intro ds bs F hl h
  unfold g_gapp at h
  split at h
  ·rename_i l bu de xs e br b
   simp only [Option.some.injEq, Prod.mk.injEq, Bool.and_eq_true] at h
   obtain ⟨⟨⟨⟨⟨h0, h1⟩, h2⟩, h3⟩, h4⟩, _, rfl⟩ := h
   exact wpc_gapp O R l bu de xs e br b (fo_oo O hO) hR (by subst hO; exact sb_oo) (by first | exact h0 | (simp only [Bool.and_eq_true]; exact h0)) (by first | exact h1 | (simp only [Bool.and_eq_true]; exact h1)) (by first | exact h2 | (simp only [Bool.and_eq_true]; exact h2)) (by first | exact h3 | (simp only [Bool.and_eq_true]; exact h3)) (by first | exact h4 | (simp only [Bool.and_eq_true]; exact h4))
  ·cases h
def g_grows (O : OO) (R : OB) (ds : List Dt) : Option (Bool × List Bool × (List Bool → Post)) := match ds with
 | [.node [.node [.ints l, .v (.int .i64 bu), .v (.bool de)], .rows xs, .v (.int .i64 e), .v (.bool br)]] => some ((Nat.ble xs.length 1000000) && (xs.all fun x => Nat.ble x.length 1000000), [], fun _ => ⟨[.row 8], [(8, .ownp 22 9), (9, .pool xs), (0, .blk 74 [.ptr 1 0, .row 5, .v (.int .i64 e), .v (.bool br)]), (5, .ownp 22 6), (6, .pool xs), (1, .blk 28 [.row 7, .v (.int .i64 bu), .v (.bool de)]), (7, .own 5 (.ints .u8 l))]⟩)
 | _ => none
set_option maxHeartbeats 4000000 in
theorem vc_grows (O : OO) (R : OB) (l : List Int) (bu : Int) (de : Bool) (xs : List (List Int)) (e : Int) (br : Bool) (F : FO O) (hr : R = bO) (hS : SB O) (h0 : (Nat.ble xs.length 1000000) = true) (h1 : (xs.all fun x => Nat.ble x.length 1000000) = true) :
 (∃ (x : Nat), x ≤ xs.length ∧ (Value.int .i64 0 = Value.int .i64 (iOf x) ∧ Value.int .i64 (iOf xs.length) = Value.int .i64 (iOf xs.length) ∧ True) ∧ EqII [] (List.take x xs) ∧
  (Value.int .i64 e = Value.int .i64 e ∧ Value.bool br = Value.bool br) ∧ (Value.int .i64 bu = Value.int .i64 bu ∧ Value.bool de = Value.bool de) ∧ EqI l l ∧ EqII xs xs ∧ True) ∧ ∀ (x
  : Nat), x ≤ xs.length → If (iLt (iOf x) (iOf xs.length)) (If (iLe 0 (iOf x) && (iOf x).toNat.blt xs.length) (If (true && !false && Nat.beq 1 1 && Nat.beq 0 0 && (iOf x).toNat.blt
  xs.length) (If ((xs.getD (iOf x).toNat []).length.ble 8388608) (If ((nMul (nAdd (List.take x xs).length 1) 24).ble 140737488355328 && (nAdd (List.take x xs).length 1).ble
  9223372036854775807) (∃ (x' : Nat), x' ≤ xs.length ∧ (nSub xs.length x').succ ≤ nSub xs.length x ∧ (Value.int .i64 (IntKind.i64.wrap (iAdd (iOf x) 1)) = Value.int .i64 (iOf x') ∧
  Value.int .i64 (iOf xs.length) = Value.int .i64 (iOf xs.length) ∧ True) ∧ EqII (app (List.take x xs) [xs.getD (iOf x).toNat []]) (List.take x' xs) ∧ (Value.int .i64 e = Value.int
  .i64 e ∧ Value.bool br = Value.bool br) ∧ (Value.int .i64 bu = Value.int .i64 bu ∧ Value.bool de = Value.bool de) ∧ EqI l l ∧ EqII xs xs ∧ True) False) False) False) False) (True ∧
  EqII (List.take x xs) xs ∧ (Value.int .i64 e = Value.int .i64 e ∧ Value.bool br = Value.bool br) ∧ EqII xs xs ∧ (Value.int .i64 bu = Value.int .i64 bu ∧ Value.bool de = Value.bool
  de) ∧ EqI l l ∧ True) := by
 have h0' := Nat.le_of_ble_eq_true h0
 have hn : ∀ k : Nat, (iOf k).toNat = k := fun k => by simp only [Sx.app, Sx.nAdd, Sx.nSub, Sx.nMul, Sx.nPow, Sx.nDiv, Sx.nMod, Sx.iAdd, Sx.iSub, Sx.iMul, Sx.iNeg, Sx.iPow, Sx.iOf, Int.toNat_natCast]
 simp only [hn]
 refine ⟨⟨0, Nat.zero_le _, ⟨rfl, (by first | rfl | trivial), trivial⟩, rfl, ⟨(by first | rfl | trivial), (by first | rfl | trivial)⟩, ⟨(by first | rfl | trivial), (by first | rfl | trivial)⟩, (by first | rfl | trivial), (by first | rfl | trivial), trivial⟩, fun x hx => ?_⟩
 refine Sx.if_both (fun d => ?_) (fun d => ?_)
 ·simp only [Sx.Bz, Sx.Cont.n, Sx.app, Sx.nAdd, Sx.nSub, Sx.nMul, Sx.nPow, Sx.nDiv, Sx.nMod, Sx.iAdd, Sx.iSub, Sx.iMul, Sx.iNeg, Sx.iPow, Sx.iOf] at d
  have hb : x.blt xs.length = true := by rw [Nat.blt_eq]; omega
  have hg : xs[x]? = some (xs.getD x []) := by rw [List.getD_eq_getElem?_getD, List.getElem?_eq_getElem (by omega)]; rfl
  have hm : (xs.getD x []).length ≤ 1000000 := by
   have := List.all_eq_true.1 h1 (xs.getD x []) (List.mem_of_getElem? hg)
   exact Nat.le_of_ble_eq_true this
  have ht : app (xs.take x) [xs.getD x []] = xs.take (x + 1) := by
   simp only [Sx.app, Sx.nAdd, Sx.nSub, Sx.nMul, Sx.nPow, Sx.nDiv, Sx.nMod, Sx.iAdd, Sx.iSub, Sx.iMul, Sx.iNeg, Sx.iPow, Sx.iOf]
   rw [List.take_add_one, hg]; rfl
  have w1 : IntKind.i64.wrap (iAdd (iOf x) 1) = iOf (x + 1) := by simp only [Sx.app, Sx.nAdd, Sx.nSub, Sx.nMul, Sx.nPow, Sx.nDiv, Sx.nMod, Sx.iAdd, Sx.iSub, Sx.iMul, Sx.iNeg, Sx.iPow, Sx.iOf]; rw [IntKind.wrap_i64]; omega
  rw [ht, w1, hb]
  refine Sx.if_true (by simp only [Sx.Bz, Sx.Cont.n, Sx.app, Sx.nAdd, Sx.nSub, Sx.nMul, Sx.nPow, Sx.nDiv, Sx.nMod, Sx.iAdd, Sx.iSub, Sx.iMul, Sx.iNeg, Sx.iPow, Sx.iOf]; exact ⟨by omega, trivial⟩) (Sx.if_true rfl (Sx.if_true (by simp only [Sx.Bz, Sx.Cont.n]; omega) (Sx.if_true (by simp only [Sx.Bz, Sx.Cont.n, Sx.app, Sx.nAdd, Sx.nSub, Sx.nMul, Sx.nPow, Sx.nDiv, Sx.nMod, Sx.iAdd, Sx.iSub, Sx.iMul, Sx.iNeg, Sx.iPow, Sx.iOf, List.length_take]; omega) ?_)))
  exact ⟨x + 1, by omega, by simp only [Sx.app, Sx.nAdd, Sx.nSub, Sx.nMul, Sx.nPow, Sx.nDiv, Sx.nMod, Sx.iAdd, Sx.iSub, Sx.iMul, Sx.iNeg, Sx.iPow, Sx.iOf]; omega, ⟨rfl, (by first | rfl | trivial), trivial⟩, rfl, ⟨(by first | rfl | trivial), (by first | rfl | trivial)⟩, ⟨(by first | rfl | trivial), (by first | rfl | trivial)⟩, (by first | rfl | trivial), (by first | rfl | trivial), trivial⟩
 ·simp only [Sx.Bz, Sx.Cont.n, Sx.app, Sx.nAdd, Sx.nSub, Sx.nMul, Sx.nPow, Sx.nDiv, Sx.nMod, Sx.iAdd, Sx.iSub, Sx.iMul, Sx.iNeg, Sx.iPow, Sx.iOf] at d
  exact ⟨trivial, List.take_of_length_le (by omega), ⟨(by first | rfl | trivial), (by first | rfl | trivial)⟩, (by first | rfl | trivial), ⟨(by first | rfl | trivial), (by first | rfl | trivial)⟩, (by first | rfl | trivial), trivial⟩
theorem wpc_grows (O : OO) (R : OB) (l : List Int) (bu : Int) (de : Bool) (xs : List (List Int)) (e : Int) (br : Bool) (F : FO O) (hr : R = bO) (hS : SB O) (h0 : (Nat.ble xs.length 1000000) = true) (h1 : (xs.all fun x => Nat.ble x.length 1000000) = true) : wpcI Try.prog (spG2 O R) Try.f13.ntmps [⟨Nat, [0, 1, 8, 9], [(2, 22, .ints .u8 []), (1000000002, 22, .ints .u8 [])], fun B k => [(2, .row B), (10, .v (.int .i64 (k : Nat)))], fun B k => [(B, .ownp 22 (B + 1)), (B + 1, .pool (xs.take k))], fun k => k ≤ xs.length, fun k => xs.length - k, 0⟩] (bodyOf Try.f13) 0 64 (envP (mks [.obj 74 [.obj 28 [.own 5 .u8, .v, .v], .ownps 22, .v, .v]] [.node [.node [.ints l, .v (.int .i64 bu), .v (.bool de)], .rows xs, .v (.int .i64 e), .v (.bool br)]] 0).1 0) (mks [.obj 74 [.obj 28 [.own 5 .u8, .v, .v], .ownps 22, .v, .v]] [.node [.node [.ints l, .v (.int .i64 bu), .v (.bool de)], .rows xs, .v (.int .i64 e), .v (.bool br)]] 0).2 (retP Try.prog Try.f13.results.toList 5 (⟨[.row 8], [(8, .ownp 22 9), (9, .pool xs), (0, .blk 74 [.ptr 1 0, .row 5, .v (.int .i64 e), .v (.bool br)]), (5, .ownp 22 6), (6, .pool xs), (1, .blk 28 [.row 7, .v (.int .i64 bu), .v (.bool de)]), (7, .own 5 (.ints .u8 l))]⟩ : Post)) :=
 Eq.mpr (by kernel_rfl) (vc_grows O R l bu de xs e br F hr hS h0 h1)
theorem ok_grows (I : Sx.Interp) (O : OO) (hO : O = oo) (R : OB) (hR : R = bO) : Sx.SpecOK I Try.prog 13 (pspec [.obj 74 [.obj 28 [.own 5 .u8, .v, .v], .ownps 22, .v, .v]] true (g_grows O R)) := by
 refine spec_pI (spG2_ok I O hO R hR) (by kernel_rfl) (fun ds => match ds with | [.node [.node [.ints l, .v (.int .i64 bu), .v (.bool de)], .rows xs, .v (.int .i64 e), .v (.bool br)]] => [⟨Nat, [0, 1, 8, 9], [(2, 22, .ints .u8 []), (1000000002, 22, .ints .u8 [])], fun B k => [(2, .row B), (10, .v (.int .i64 (k : Nat)))], fun B k => [(B, .ownp 22 (B + 1)), (B + 1, .pool (xs.take k))], fun k => k ≤ xs.length, fun k => xs.length - k, 0⟩] | _ => []) Try.func13 (by kernel_rfl) (by kernel_rfl) rfl Try.ntmps13 (by decide) ?_ ?_
 ·intro ds p bs F h
  unfold g_grows at h
  split at h
  ·rename_i l bu de xs e br
   simp only [Option.some.injEq, Prod.mk.injEq] at h
   obtain ⟨_, _, rfl⟩ := h
   kernel_rfl
  ·cases h
 ·intro ds bs F hl h
  unfold g_grows at h
  split at h
  ·rename_i l bu de xs e br
   simp only [Option.some.injEq, Prod.mk.injEq, Bool.and_eq_true] at h
   obtain ⟨⟨h0, h1⟩, _, rfl⟩ := h
   exact wpc_grows O R l bu de xs e br (fo_oo O hO) hR (by subst hO; exact sb_oo) (by first | exact h0 | (simp only [Bool.and_eq_true]; exact h0)) (by first | exact h1 | (simp only [Bool.and_eq_true]; exact h1))
  ·cases h
def g_gbytes (O : OO) (R : OB) (ds : List Dt) : Option (Bool × List Bool × (List Bool → Post)) := match ds with
 | [.node [.node [.ints l, .v (.int .i64 bu), .v (.bool de)], .rows xs, .v (.int .i64 e), .v (.bool br)]] => some (true, [], fun _ => ⟨[.v (.int .i64 e)], []⟩)
 | _ => none
set_option maxHeartbeats 4000000 in
theorem vc_gbytes (O : OO) (R : OB) (l : List Int) (bu : Int) (de : Bool) (xs : List (List Int)) (e : Int) (br : Bool) (F : FO O) (hr : R = bO) (hS : SB O) :
 Value.int .i64 e = Value.int .i64 e ∧ True ∧ True := by
 exact ⟨(by first | rfl | trivial), trivial, trivial⟩
theorem wpc_gbytes (O : OO) (R : OB) (l : List Int) (bu : Int) (de : Bool) (xs : List (List Int)) (e : Int) (br : Bool) (F : FO O) (hr : R = bO) (hS : SB O) : wpcI Try.prog (spG2 O R) Try.f14.ntmps [] (bodyOf Try.f14) 0 64 (envP (mks [.robj 74 [.robj 28 [.ro .u8, .v, .v], .ros, .v, .v]] [.node [.node [.ints l, .v (.int .i64 bu), .v (.bool de)], .rows xs, .v (.int .i64 e), .v (.bool br)]] 0).1 0) (mks [.robj 74 [.robj 28 [.ro .u8, .v, .v], .ros, .v, .v]] [.node [.node [.ints l, .v (.int .i64 bu), .v (.bool de)], .rows xs, .v (.int .i64 e), .v (.bool br)]] 0).2 (retP Try.prog Try.f14.results.toList 6 (⟨[.v (.int .i64 e)], []⟩ : Post)) :=
 Eq.mpr (by kernel_rfl) (vc_gbytes O R l bu de xs e br F hr hS)
theorem ok_gbytes (I : Sx.Interp) (O : OO) (hO : O = oo) (R : OB) (hR : R = bO) : Sx.SpecOK I Try.prog 14 (pspec [.robj 74 [.robj 28 [.ro .u8, .v, .v], .ros, .v, .v]] false (g_gbytes O R)) := by
 refine spec_pI (spG2_ok I O hO R hR) (by kernel_rfl) (fun ds => match ds with | [.node [.node [.ints l, .v (.int .i64 bu), .v (.bool de)], .rows xs, .v (.int .i64 e), .v (.bool br)]] => [] | _ => []) Try.func14 (by kernel_rfl) (by kernel_rfl) rfl Try.ntmps14 (by decide) ?_ ?_
 ·intro ds p bs F h
  unfold g_gbytes at h
  split at h
  ·rename_i l bu de xs e br
   simp only [Option.some.injEq, Prod.mk.injEq] at h
   obtain ⟨_, _, rfl⟩ := h
   kernel_rfl
  ·cases h
 ·intro ds bs F hl h
  unfold g_gbytes at h
  split at h
  ·rename_i l bu de xs e br
   simp only [Option.some.injEq, Prod.mk.injEq, Bool.and_eq_true] at h
   obtain ⟨_, _, rfl⟩ := h
   exact wpc_gbytes O R l bu de xs e br (fo_oo O hO) hR (by subst hO; exact sb_oo) 
  ·cases h
def g_gbroken (O : OO) (R : OB) (ds : List Dt) : Option (Bool × List Bool × (List Bool → Post)) := match ds with
 | [.node [.node [.ints l, .v (.int .i64 bu), .v (.bool de)], .rows xs, .v (.int .i64 e), .v (.bool br)]] => some (true, [], fun _ => ⟨[.v (.bool br)], []⟩)
 | _ => none
set_option maxHeartbeats 4000000 in
theorem vc_gbroken (O : OO) (R : OB) (l : List Int) (bu : Int) (de : Bool) (xs : List (List Int)) (e : Int) (br : Bool) (F : FO O) (hr : R = bO) (hS : SB O) :
 Value.bool br = Value.bool br ∧ True ∧ True := by
 exact ⟨(by first | rfl | trivial), trivial, trivial⟩
theorem wpc_gbroken (O : OO) (R : OB) (l : List Int) (bu : Int) (de : Bool) (xs : List (List Int)) (e : Int) (br : Bool) (F : FO O) (hr : R = bO) (hS : SB O) : wpcI Try.prog (spG2 O R) Try.f20.ntmps [] (bodyOf Try.f20) 0 64 (envP (mks [.robj 74 [.robj 28 [.ro .u8, .v, .v], .ros, .v, .v]] [.node [.node [.ints l, .v (.int .i64 bu), .v (.bool de)], .rows xs, .v (.int .i64 e), .v (.bool br)]] 0).1 0) (mks [.robj 74 [.robj 28 [.ro .u8, .v, .v], .ros, .v, .v]] [.node [.node [.ints l, .v (.int .i64 bu), .v (.bool de)], .rows xs, .v (.int .i64 e), .v (.bool br)]] 0).2 (retP Try.prog Try.f20.results.toList 6 (⟨[.v (.bool br)], []⟩ : Post)) :=
 Eq.mpr (by kernel_rfl) (vc_gbroken O R l bu de xs e br F hr hS)
theorem ok_gbroken (I : Sx.Interp) (O : OO) (hO : O = oo) (R : OB) (hR : R = bO) : Sx.SpecOK I Try.prog 20 (pspec [.robj 74 [.robj 28 [.ro .u8, .v, .v], .ros, .v, .v]] false (g_gbroken O R)) := by
 refine spec_pI (spG2_ok I O hO R hR) (by kernel_rfl) (fun ds => match ds with | [.node [.node [.ints l, .v (.int .i64 bu), .v (.bool de)], .rows xs, .v (.int .i64 e), .v (.bool br)]] => [] | _ => []) Try.func20 (by kernel_rfl) (by kernel_rfl) rfl Try.ntmps20 (by decide) ?_ ?_
 ·intro ds p bs F h
  unfold g_gbroken at h
  split at h
  ·rename_i l bu de xs e br
   simp only [Option.some.injEq, Prod.mk.injEq] at h
   obtain ⟨_, _, rfl⟩ := h
   kernel_rfl
  ·cases h
 ·intro ds bs F hl h
  unfold g_gbroken at h
  split at h
  ·rename_i l bu de xs e br
   simp only [Option.some.injEq, Prod.mk.injEq, Bool.and_eq_true] at h
   obtain ⟨_, _, rfl⟩ := h
   exact wpc_gbroken O R l bu de xs e br (fo_oo O hO) hR (by subst hO; exact sb_oo) 
  ·cases h
end Go.Proofs.Ytaohpdhhbnempaa
