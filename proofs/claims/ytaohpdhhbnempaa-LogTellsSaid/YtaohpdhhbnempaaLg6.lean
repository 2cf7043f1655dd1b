/- corsnedref44.Kept, by the symbolic machine (printed by genLg6.py; VCs by VcTool). -/
import Derived.Test.YtaohpdhhbnempaaLg5
namespace Go.Proofs.Ytaohpdhhbnempaa
open Go.RowKit Go.Lib Ckp Cfd Cpd Sx
set_option linter.unusedVariables false
set_option linter.unusedSimpArgs false
set_option maxRecDepth 1000000
/-- What is kept of rows that are added: the errors, the rows, the torn part's length, is it dead; where the rows end; how much may be written. -/
structure KP where
 E : List Int
 X : List (List Int)
 T : Int
 D : Bool
 N : Int
 B : Int
def kpF (O : OO) (R : OB) (s : KP) (b : List Int) : Bool := bif iLt 65536 (b.length : Int) then true else iLt 4194304 (s.N + ((lgRow O R b).length : Int))
def kpG (O : OO) (R : OB) (s : KP) (b : List Int) : Bool := bif iLe 0 s.B then iLt s.B ((lgRow O R b).length : Int) else false
def kp1 (O : OO) (R : OB) (s : KP) (b : List Int) : KP :=
 bif s.D then ⟨s.E ++ [21], s.X, s.T, s.D, s.N, s.B⟩ else
 bif kpF O R s b then ⟨s.E ++ [3], s.X, s.T, s.D, s.N, s.B⟩ else
 bif kpG O R s b then ⟨s.E ++ [21], s.X, s.B, true, s.N, s.B⟩ else
 ⟨s.E ++ [0], s.X ++ [b], s.T, s.D, s.N + ((lgRow O R b).length : Int), bif iLe 0 s.B then s.B - ((lgRow O R b).length : Int) else s.B⟩
def kpS (O : OO) (R : OB) (l : List (List Int)) (fr bu : Int) : Nat → KP
 | 0 => ⟨[], [], 0, false, fr, bu⟩
 | k + 1 => kp1 O R (kpS O R l fr bu k) (l.getD k [])
def kpE (O : OO) (R : OB) (l : List (List Int)) (fr bu : Int) (k : Nat) : List Int := (kpS O R l fr bu k).E
def kpX (O : OO) (R : OB) (l : List (List Int)) (fr bu : Int) (k : Nat) : List (List Int) := (kpS O R l fr bu k).X
def kpT (O : OO) (R : OB) (l : List (List Int)) (fr bu : Int) (k : Nat) : Int := (kpS O R l fr bu k).T
def kpD (O : OO) (R : OB) (l : List (List Int)) (fr bu : Int) (k : Nat) : Bool := (kpS O R l fr bu k).D
def kpN (O : OO) (R : OB) (l : List (List Int)) (fr bu : Int) (k : Nat) : Int := (kpS O R l fr bu k).N
def kpB (O : OO) (R : OB) (l : List (List Int)) (fr bu : Int) (k : Nat) : Int := (kpS O R l fr bu k).B
structure KpI (s : KP) (k : Nat) : Prop where
 e : s.E.length = k
 x : s.X.length ≤ k
 n0 : 0 ≤ s.N
 n1 : s.N ≤ 4194304
 b : -9223372036854775808 ≤ s.B ∧ s.B ≤ 9223372036854775807
theorem kp_step {O : OO} {R : OB} {s : KP} {k : Nat} (h : KpI s k) (b : List Int) : KpI (kp1 O R s b) (k + 1) := by
 have hb := h.b
 unfold kp1
 cases c1 : s.D
 ·cases c2 : kpF O R s b
  ·cases c3 : kpG O R s b
   ·have hN : s.N + ((lgRow O R b).length : Int) ≤ 4194304 := by
     unfold kpF at c2
     cases q : iLt 65536 (b.length : Int)
     ·rw [q, cond_false] at c2
      simp only [iLt_f] at c2
      omega
     ·rw [q] at c2; cases c2
    refine ⟨by simp [h.e], by have := h.x; simp; omega, ?_, hN, ?_⟩
    ·have := h.n0
     show 0 ≤ s.N + ((lgRow O R b).length : Int)
     omega
    ·show _ ≤ (bif iLe 0 s.B then s.B - ((lgRow O R b).length : Int) else s.B) ∧ (bif iLe 0 s.B then s.B - ((lgRow O R b).length : Int) else s.B) ≤ _
     cases q : iLe 0 s.B
     ·exact hb
     ·unfold kpG at c3
      rw [q, cond_true] at c3
      simp only [iLt_f] at c3
      simp only [iLe_t] at q
      rw [cond_true]
      omega
   ·exact ⟨by simp [h.e], Nat.le_succ_of_le h.x, h.n0, h.n1, hb⟩
  ·exact ⟨by simp [h.e], Nat.le_succ_of_le h.x, h.n0, h.n1, hb⟩
 ·exact ⟨by simp [h.e], Nat.le_succ_of_le h.x, h.n0, h.n1, hb⟩
theorem kp_inv {O : OO} {R : OB} {l : List (List Int)} {fr bu : Int} (hf : 0 ≤ fr ∧ fr ≤ 4194304) (hb : -9223372036854775808 ≤ bu ∧ bu ≤ 9223372036854775807) : ∀ k, KpI (kpS O R l fr bu k) k
 | 0 => ⟨rfl, Nat.le_refl _, hf.1, hf.2, hb⟩
 | k + 1 => kp_step (kp_inv hf hb k) _
def g_kept44 (O : OO) (R : OB) (ds : List Dt) : Option (Bool × List Bool × (List Bool → Post)) := match ds with
 | [.rows l, .v (.int .i64 fr), .v (.int .i64 bu)] => some ((fwE l) && (iLe 0 fr && iLe fr 4194304) && (iLe (-9223372036854775808) bu && iLe bu 9223372036854775807), [], fun _ => ⟨[.row 1, .row 2, .v (.int .i64 (kpT O R l fr bu l.length))], [(1, .own 30 (.ints .i64 (kpE O R l fr bu l.length))), (2, .ownp 22 3), (3, .pool (kpX O R l fr bu l.length))]⟩)
 | _ => none
set_option maxHeartbeats 4000000 in
theorem vc_kept44 (O : OO) (R : OB) (l : List (List Int)) (fr bu : Int) (F : FO O) (hr : R = bO) (hS : SB O) (h0 : (fwE l) = true) (h1 : (iLe 0 fr && iLe fr 4194304) = true) (h2 : (iLe (-9223372036854775808) bu && iLe bu 9223372036854775807) = true) :
 (∃ (x : Nat), x ≤ l.length ∧ (Value.int .i64 fr = Value.int .i64 (kpN O R l fr bu x) ∧ Value.int .i64 bu = Value.int .i64 (kpB O R l fr bu x) ∧ Value.int .i64 0 = Value.int .i64
  (kpT O R l fr bu x) ∧ Value.bool false = Value.bool (kpD O R l fr bu x) ∧ Value.int .i64 0 = Value.int .i64 (iOf x) ∧ True) ∧ EqI [] (kpE O R l fr bu x) ∧ EqII [] (kpX O R l fr bu
  x) ∧ Res.ros l = Res.ros l ∧ True) ∧ ∀ (x : Nat), x ≤ l.length → If (iLt (iOf x) (iOf l.length)) (If (iLe 0 (iOf x) && (iOf x).toNat.blt l.length) (If (true && !false && Nat.beq 1 1
  && Nat.beq 0 0 && (iOf x).toNat.blt l.length) (If ((l.getD (iOf x).toNat []).length.ble 1000000) (If (kpD O R l fr bu x) (If ((nMul (nAdd (kpE O R l fr bu x).length 1) 8).ble
  140737488355328 && (nAdd (kpE O R l fr bu x).length 1).ble 9223372036854775807) (∃ (x' : Nat), x' ≤ l.length ∧ (nSub l.length x').succ ≤ nSub l.length x ∧ (Value.int .i64 (kpN O R l
  fr bu x) = Value.int .i64 (kpN O R l fr bu x') ∧ Value.int .i64 (kpB O R l fr bu x) = Value.int .i64 (kpB O R l fr bu x') ∧ Value.int .i64 (kpT O R l fr bu x) = Value.int .i64 (kpT
  O R l fr bu x') ∧ Value.bool (kpD O R l fr bu x) = Value.bool (kpD O R l fr bu x') ∧ Value.int .i64 (IntKind.i64.wrap (iAdd (iOf x) 1)) = Value.int .i64 (iOf x') ∧ True) ∧ EqI (app
  (kpE O R l fr bu x) [21]) (kpE O R l fr bu x') ∧ EqII (kpX O R l fr bu x) (kpX O R l fr bu x') ∧ Res.ros l = Res.ros l ∧ True) False) (If (iLe 0 (iOf x) && (iOf x).toNat.blt
  l.length) (If (true && !false && Nat.beq 1 1 && Nat.beq 0 0 && (iOf x).toNat.blt l.length) (If (iLt 65536 (iOf (Cont.ints .u8 (l.getD (iOf x).toNat [])).n)) (If ((nMul (nAdd (kpE O
  R l fr bu x).length 1) 8).ble 140737488355328 && (nAdd (kpE O R l fr bu x).length 1).ble 9223372036854775807) (∃ (x' : Nat), x' ≤ l.length ∧ (nSub l.length x').succ ≤ nSub l.length
  x ∧ (Value.int .i64 (kpN O R l fr bu x) = Value.int .i64 (kpN O R l fr bu x') ∧ Value.int .i64 (kpB O R l fr bu x) = Value.int .i64 (kpB O R l fr bu x') ∧ Value.int .i64 (kpT O R l
  fr bu x) = Value.int .i64 (kpT O R l fr bu x') ∧ Value.bool (kpD O R l fr bu x) = Value.bool (kpD O R l fr bu x') ∧ Value.int .i64 (IntKind.i64.wrap (iAdd (iOf x) 1)) = Value.int
  .i64 (iOf x') ∧ True) ∧ EqI (app (kpE O R l fr bu x) [3]) (kpE O R l fr bu x') ∧ EqII (kpX O R l fr bu x) (kpX O R l fr bu x') ∧ Res.ros l = Res.ros l ∧ True) False) (If (iLt
  4194304 (IntKind.i64.wrap (iAdd (kpN O R l fr bu x) (iOf (Cont.ints .u8 (lgRow O R (l.getD (iOf x).toNat []))).n)))) (If ((nMul (nAdd (kpE O R l fr bu x).length 1) 8).ble
  140737488355328 && (nAdd (kpE O R l fr bu x).length 1).ble 9223372036854775807) (∃ (x' : Nat), x' ≤ l.length ∧ (nSub l.length x').succ ≤ nSub l.length x ∧ (Value.int .i64 (kpN O R l
  fr bu x) = Value.int .i64 (kpN O R l fr bu x') ∧ Value.int .i64 (kpB O R l fr bu x) = Value.int .i64 (kpB O R l fr bu x') ∧ Value.int .i64 (kpT O R l fr bu x) = Value.int .i64 (kpT
  O R l fr bu x') ∧ Value.bool (kpD O R l fr bu x) = Value.bool (kpD O R l fr bu x') ∧ Value.int .i64 (IntKind.i64.wrap (iAdd (iOf x) 1)) = Value.int .i64 (iOf x') ∧ True) ∧ EqI (app
  (kpE O R l fr bu x) [3]) (kpE O R l fr bu x') ∧ EqII (kpX O R l fr bu x) (kpX O R l fr bu x') ∧ Res.ros l = Res.ros l ∧ True) False) (If (iLe 0 (kpB O R l fr bu x)) (If (iLt (kpB O
  R l fr bu x) (iOf (Cont.ints .u8 (lgRow O R (l.getD (iOf x).toNat []))).n)) (If ((nMul (nAdd (kpE O R l fr bu x).length 1) 8).ble 140737488355328 && (nAdd (kpE O R l fr bu x).length
  1).ble 9223372036854775807) (∃ (x' : Nat), x' ≤ l.length ∧ (nSub l.length x').succ ≤ nSub l.length x ∧ (Value.int .i64 (kpN O R l fr bu x) = Value.int .i64 (kpN O R l fr bu x') ∧
  Value.int .i64 (kpB O R l fr bu x) = Value.int .i64 (kpB O R l fr bu x') ∧ Value.int .i64 (kpB O R l fr bu x) = Value.int .i64 (kpT O R l fr bu x') ∧ Value.bool true = Value.bool
  (kpD O R l fr bu x') ∧ Value.int .i64 (IntKind.i64.wrap (iAdd (iOf x) 1)) = Value.int .i64 (iOf x') ∧ True) ∧ EqI (app (kpE O R l fr bu x) [21]) (kpE O R l fr bu x') ∧ EqII (kpX O R
  l fr bu x) (kpX O R l fr bu x') ∧ Res.ros l = Res.ros l ∧ True) False) (If (iLe 0 (kpB O R l fr bu x)) (If (iLe 0 (iOf x) && (iOf x).toNat.blt l.length) (If (true && !false &&
  Nat.beq 1 1 && Nat.beq 0 0 && (iOf x).toNat.blt l.length) (If ((nMul (nAdd (kpX O R l fr bu x).length 1) 24).ble 140737488355328 && (nAdd (kpX O R l fr bu x).length 1).ble
  9223372036854775807) (If ((nMul (nAdd (kpE O R l fr bu x).length 1) 8).ble 140737488355328 && (nAdd (kpE O R l fr bu x).length 1).ble 9223372036854775807) (∃ (x' : Nat), x' ≤
  l.length ∧ (nSub l.length x').succ ≤ nSub l.length x ∧ (Value.int .i64 (IntKind.i64.wrap (iAdd (kpN O R l fr bu x) (iOf (lgRow O R (l.getD (iOf x).toNat [])).length))) = Value.int
  .i64 (kpN O R l fr bu x') ∧ Value.int .i64 (IntKind.i64.wrap (iSub (kpB O R l fr bu x) (iOf (lgRow O R (l.getD (iOf x).toNat [])).length))) = Value.int .i64 (kpB O R l fr bu x') ∧
  Value.int .i64 (kpT O R l fr bu x) = Value.int .i64 (kpT O R l fr bu x') ∧ Value.bool (kpD O R l fr bu x) = Value.bool (kpD O R l fr bu x') ∧ Value.int .i64 (IntKind.i64.wrap (iAdd
  (iOf x) 1)) = Value.int .i64 (iOf x') ∧ True) ∧ EqI (app (kpE O R l fr bu x) [0]) (kpE O R l fr bu x') ∧ EqII (app (kpX O R l fr bu x) [l.getD (iOf x).toNat []]) (kpX O R l fr bu
  x') ∧ Res.ros l = Res.ros l ∧ True) False) False) False) False) (If (iLe 0 (iOf x) && (iOf x).toNat.blt l.length) (If (true && !false && Nat.beq 1 1 && Nat.beq 0 0 && (iOf
  x).toNat.blt l.length) (If ((nMul (nAdd (kpX O R l fr bu x).length 1) 24).ble 140737488355328 && (nAdd (kpX O R l fr bu x).length 1).ble 9223372036854775807) (If ((nMul (nAdd (kpE O
  R l fr bu x).length 1) 8).ble 140737488355328 && (nAdd (kpE O R l fr bu x).length 1).ble 9223372036854775807) (∃ (x' : Nat), x' ≤ l.length ∧ (nSub l.length x').succ ≤ nSub l.length
  x ∧ (Value.int .i64 (IntKind.i64.wrap (iAdd (kpN O R l fr bu x) (iOf (lgRow O R (l.getD (iOf x).toNat [])).length))) = Value.int .i64 (kpN O R l fr bu x') ∧ Value.int .i64 (kpB O R
  l fr bu x) = Value.int .i64 (kpB O R l fr bu x') ∧ Value.int .i64 (kpT O R l fr bu x) = Value.int .i64 (kpT O R l fr bu x') ∧ Value.bool (kpD O R l fr bu x) = Value.bool (kpD O R l
  fr bu x') ∧ Value.int .i64 (IntKind.i64.wrap (iAdd (iOf x) 1)) = Value.int .i64 (iOf x') ∧ True) ∧ EqI (app (kpE O R l fr bu x) [0]) (kpE O R l fr bu x') ∧ EqII (app (kpX O R l fr
  bu x) [l.getD (iOf x).toNat []]) (kpX O R l fr bu x') ∧ Res.ros l = Res.ros l ∧ True) False) False) False) False))) (If (iLe 0 (kpB O R l fr bu x)) (If (iLe 0 (iOf x) && (iOf
  x).toNat.blt l.length) (If (true && !false && Nat.beq 1 1 && Nat.beq 0 0 && (iOf x).toNat.blt l.length) (If ((nMul (nAdd (kpX O R l fr bu x).length 1) 24).ble 140737488355328 &&
  (nAdd (kpX O R l fr bu x).length 1).ble 9223372036854775807) (If ((nMul (nAdd (kpE O R l fr bu x).length 1) 8).ble 140737488355328 && (nAdd (kpE O R l fr bu x).length 1).ble
  9223372036854775807) (∃ (x' : Nat), x' ≤ l.length ∧ (nSub l.length x').succ ≤ nSub l.length x ∧ (Value.int .i64 (IntKind.i64.wrap (iAdd (kpN O R l fr bu x) (iOf (lgRow O R (l.getD
  (iOf x).toNat [])).length))) = Value.int .i64 (kpN O R l fr bu x') ∧ Value.int .i64 (IntKind.i64.wrap (iSub (kpB O R l fr bu x) (iOf (lgRow O R (l.getD (iOf x).toNat [])).length)))
  = Value.int .i64 (kpB O R l fr bu x') ∧ Value.int .i64 (kpT O R l fr bu x) = Value.int .i64 (kpT O R l fr bu x') ∧ Value.bool (kpD O R l fr bu x) = Value.bool (kpD O R l fr bu x') ∧
  Value.int .i64 (IntKind.i64.wrap (iAdd (iOf x) 1)) = Value.int .i64 (iOf x') ∧ True) ∧ EqI (app (kpE O R l fr bu x) [0]) (kpE O R l fr bu x') ∧ EqII (app (kpX O R l fr bu x) [l.getD
  (iOf x).toNat []]) (kpX O R l fr bu x') ∧ Res.ros l = Res.ros l ∧ True) False) False) False) False) (If (iLe 0 (iOf x) && (iOf x).toNat.blt l.length) (If (true && !false && Nat.beq
  1 1 && Nat.beq 0 0 && (iOf x).toNat.blt l.length) (If ((nMul (nAdd (kpX O R l fr bu x).length 1) 24).ble 140737488355328 && (nAdd (kpX O R l fr bu x).length 1).ble
  9223372036854775807) (If ((nMul (nAdd (kpE O R l fr bu x).length 1) 8).ble 140737488355328 && (nAdd (kpE O R l fr bu x).length 1).ble 9223372036854775807) (∃ (x' : Nat), x' ≤
  l.length ∧ (nSub l.length x').succ ≤ nSub l.length x ∧ (Value.int .i64 (IntKind.i64.wrap (iAdd (kpN O R l fr bu x) (iOf (lgRow O R (l.getD (iOf x).toNat [])).length))) = Value.int
  .i64 (kpN O R l fr bu x') ∧ Value.int .i64 (kpB O R l fr bu x) = Value.int .i64 (kpB O R l fr bu x') ∧ Value.int .i64 (kpT O R l fr bu x) = Value.int .i64 (kpT O R l fr bu x') ∧
  Value.bool (kpD O R l fr bu x) = Value.bool (kpD O R l fr bu x') ∧ Value.int .i64 (IntKind.i64.wrap (iAdd (iOf x) 1)) = Value.int .i64 (iOf x') ∧ True) ∧ EqI (app (kpE O R l fr bu
  x) [0]) (kpE O R l fr bu x') ∧ EqII (app (kpX O R l fr bu x) [l.getD (iOf x).toNat []]) (kpX O R l fr bu x') ∧ Res.ros l = Res.ros l ∧ True) False) False) False) False))))) False)
  False)) False) False) False) (Value.int .i64 (kpT O R l fr bu x) = Value.int .i64 (kpT O R l fr bu l.length) ∧ True ∧ EqI (kpE O R l fr bu x) (kpE O R l fr bu l.length) ∧ EqII (kpX
  O R l fr bu x) (kpX O R l fr bu l.length) ∧ True) := by
 simp only [Bool.and_eq_true, Bool.or_eq_true, Sx.iLt_t, Sx.iLt_f, Sx.iLe_t, Sx.iLe_f, Sx.iEq_t, Sx.iEq_f, Sx.iBeq_t, Sx.iBeq_f, Sx.iBne_t, Sx.iBne_f, Nat.ble_eq, Nat.beq_eq, Sx.Cont.n] at h1 h2
 obtain ⟨l20, hL⟩ := few_all h0
 refine ⟨⟨0, Nat.zero_le _, ⟨rfl, rfl, rfl, rfl, rfl, trivial⟩, rfl, rfl, rfl, trivial⟩, fun x hx => ?_⟩
 have hn : (iOf x).toNat = x := by simp only [Sx.app, Sx.nAdd, Sx.nSub, Sx.nMul, Sx.nPow, Sx.nDiv, Sx.nMod, Sx.iAdd, Sx.iSub, Sx.iMul, Sx.iNeg, Sx.iPow, Sx.iOf, Int.toNat_natCast]
 rw [hn]
 obtain ⟨i1, i2, i3, i4, i5⟩ := kp_inv (O := O) (R := R) (l := l) h1 h2 x
 have i1 : (kpE O R l fr bu x).length = x := i1
 have i2 : (kpX O R l fr bu x).length ≤ x := i2
 have i3 : 0 ≤ kpN O R l fr bu x := i3
 have i4 : kpN O R l fr bu x ≤ 4194304 := i4
 have i5 : -9223372036854775808 ≤ kpB O R l fr bu x ∧ kpB O R l fr bu x ≤ 9223372036854775807 := i5
 refine Sx.if_both (fun d => ?_) (fun d => ?_)
 ·simp only [Bool.and_eq_true, Bool.or_eq_true, Sx.iLt_t, Sx.iLt_f, Sx.iLe_t, Sx.iLe_f, Sx.iEq_t, Sx.iEq_f, Sx.iBeq_t, Sx.iBeq_f, Sx.iBne_t, Sx.iBne_f, Nat.ble_eq, Nat.beq_eq, Sx.Cont.n, Sx.app, Sx.nAdd, Sx.nSub, Sx.nMul, Sx.nPow, Sx.nDiv, Sx.nMod, Sx.iAdd, Sx.iSub, Sx.iMul, Sx.iNeg, Sx.iPow, Sx.iOf] at d
  have hb : x.blt l.length = true := by rw [Nat.blt_eq]; omega
  have w1 : IntKind.i64.wrap (iAdd (iOf x) 1) = iOf (x + 1) := by simp only [Sx.app, Sx.nAdd, Sx.nSub, Sx.nMul, Sx.nPow, Sx.nDiv, Sx.nMod, Sx.iAdd, Sx.iSub, Sx.iMul, Sx.iNeg, Sx.iPow, Sx.iOf]; rw [IntKind.wrap_i64]; omega
  have hg : (l.getD x []).length ≤ 100 := by
   rw [List.getD_eq_getElem?_getD, List.getElem?_eq_getElem (show x < l.length by omega)]
   exact hL _ (List.getElem_mem _)
  have k1 := lg_len (O := O) hr (l.getD x [])
  have k2 := row_len hr ((l.getD x []).length : Int)
  have fin : ∀ (E : List Int) (X : List (List Int)) (T : Int) (D : Bool) (N B : Int), kpS O R l fr bu (x + 1) = ⟨E, X, T, D, N, B⟩ → (∃ x' : Nat, x' ≤ l.length ∧ (nSub l.length x').succ ≤ nSub l.length x ∧ (Value.int IntKind.i64 N = Value.int IntKind.i64 (kpN O R l fr bu x') ∧ Value.int IntKind.i64 B = Value.int IntKind.i64 (kpB O R l fr bu x') ∧ Value.int IntKind.i64 T = Value.int IntKind.i64 (kpT O R l fr bu x') ∧ Value.bool D = Value.bool (kpD O R l fr bu x') ∧ Value.int IntKind.i64 (IntKind.i64.wrap (iAdd (iOf x) 1)) = Value.int IntKind.i64 (iOf x') ∧ True) ∧ EqI E (kpE O R l fr bu x') ∧ EqII X (kpX O R l fr bu x') ∧ Res.ros l = Res.ros l ∧ True) := by
   intro E X T D N B h
   refine ⟨x + 1, by omega, by simp only [Sx.app, Sx.nAdd, Sx.nSub, Sx.nMul, Sx.nPow, Sx.nDiv, Sx.nMod, Sx.iAdd, Sx.iSub, Sx.iMul, Sx.iNeg, Sx.iPow, Sx.iOf]; omega, ⟨?_, ?_, ?_, ?_, congrArg _ w1, trivial⟩, ?_, ?_, rfl, trivial⟩
   ·unfold kpN; rw [h]
   ·unfold kpB; rw [h]
   ·unfold kpT; rw [h]
   ·unfold kpD; rw [h]
   ·unfold kpE; rw [h]
   ·unfold kpX; rw [h]
  have hidx : (iLe 0 (iOf x) && true) = true := by simp only [Bool.and_eq_true, Bool.or_eq_true, Sx.iLt_t, Sx.iLt_f, Sx.iLe_t, Sx.iLe_f, Sx.iEq_t, Sx.iEq_f, Sx.iBeq_t, Sx.iBeq_f, Sx.iBne_t, Sx.iBne_f, Nat.ble_eq, Nat.beq_eq, Sx.Cont.n, Sx.app, Sx.nAdd, Sx.nSub, Sx.nMul, Sx.nPow, Sx.nDiv, Sx.nMod, Sx.iAdd, Sx.iSub, Sx.iMul, Sx.iNeg, Sx.iPow, Sx.iOf]; exact ⟨by omega, trivial⟩
  have hszE : ((nMul (nAdd (kpE O R l fr bu x).length 1) 8).ble 140737488355328 && (nAdd (kpE O R l fr bu x).length 1).ble 9223372036854775807) = true := by simp only [Bool.and_eq_true, Bool.or_eq_true, Sx.iLt_t, Sx.iLt_f, Sx.iLe_t, Sx.iLe_f, Sx.iEq_t, Sx.iEq_f, Sx.iBeq_t, Sx.iBeq_f, Sx.iBne_t, Sx.iBne_f, Nat.ble_eq, Nat.beq_eq, Sx.Cont.n, Sx.app, Sx.nAdd, Sx.nSub, Sx.nMul, Sx.nPow, Sx.nDiv, Sx.nMod, Sx.iAdd, Sx.iSub, Sx.iMul, Sx.iNeg, Sx.iPow, Sx.iOf]; omega
  have hszX : ((nMul (nAdd (kpX O R l fr bu x).length 1) 24).ble 140737488355328 && (nAdd (kpX O R l fr bu x).length 1).ble 9223372036854775807) = true := by simp only [Bool.and_eq_true, Bool.or_eq_true, Sx.iLt_t, Sx.iLt_f, Sx.iLe_t, Sx.iLe_f, Sx.iEq_t, Sx.iEq_f, Sx.iBeq_t, Sx.iBeq_f, Sx.iBne_t, Sx.iBne_f, Nat.ble_eq, Nat.beq_eq, Sx.Cont.n, Sx.app, Sx.nAdd, Sx.nSub, Sx.nMul, Sx.nPow, Sx.nDiv, Sx.nMod, Sx.iAdd, Sx.iSub, Sx.iMul, Sx.iNeg, Sx.iPow, Sx.iOf]; omega
  have w2 : IntKind.i64.wrap (iAdd (kpN O R l fr bu x) (iOf (Cont.ints IntKind.u8 (lgRow O R (l.getD x []))).n)) = kpN O R l fr bu x + ((lgRow O R (l.getD x [])).length : Int) := by simp only [Sx.app, Sx.nAdd, Sx.nSub, Sx.nMul, Sx.nPow, Sx.nDiv, Sx.nMod, Sx.iAdd, Sx.iSub, Sx.iMul, Sx.iNeg, Sx.iPow, Sx.iOf, Sx.Cont.n]; rw [IntKind.wrap_i64]; omega
  have w3 : IntKind.i64.wrap (iAdd (kpN O R l fr bu x) (iOf (lgRow O R (l.getD x [])).length)) = kpN O R l fr bu x + ((lgRow O R (l.getD x [])).length : Int) := w2
  rw [hb, w2, w3]
  have st : kpS O R l fr bu (x + 1) = kp1 O R (kpS O R l fr bu x) (l.getD x []) := rfl
  refine Sx.if_true hidx (Sx.if_true rfl (Sx.if_true (by simp only [Bool.and_eq_true, Bool.or_eq_true, Sx.iLt_t, Sx.iLt_f, Sx.iLe_t, Sx.iLe_f, Sx.iEq_t, Sx.iEq_f, Sx.iBeq_t, Sx.iBeq_f, Sx.iBne_t, Sx.iBne_f, Nat.ble_eq, Nat.beq_eq, Sx.Cont.n]; omega) (Sx.if_both (fun c1 => ?_) (fun c1 => Sx.if_true hidx (Sx.if_true rfl (Sx.if_both (fun c2 => ?_) (fun c2 => Sx.if_both (fun c3 => ?_) (fun c3 => ?_))))))))
  ·refine Sx.if_true hszE (fin _ _ _ _ _ _ (st.trans ?_))
   unfold kp1
   rw [show (kpS O R l fr bu x).D = true from c1]; exact congrArg (fun d => KP.mk _ _ _ d _ _) (show true = (kpS O R l fr bu x).D from c1.symm)
  ·simp only [Bool.and_eq_true, Bool.or_eq_true, Sx.iLt_t, Sx.iLt_f, Sx.iLe_t, Sx.iLe_f, Sx.iEq_t, Sx.iEq_f, Sx.iBeq_t, Sx.iBeq_f, Sx.iBne_t, Sx.iBne_f, Nat.ble_eq, Nat.beq_eq, Sx.Cont.n, Sx.app, Sx.nAdd, Sx.nSub, Sx.nMul, Sx.nPow, Sx.nDiv, Sx.nMod, Sx.iAdd, Sx.iSub, Sx.iMul, Sx.iNeg, Sx.iPow, Sx.iOf] at c2; omega
  ·simp only [Bool.and_eq_true, Bool.or_eq_true, Sx.iLt_t, Sx.iLt_f, Sx.iLe_t, Sx.iLe_f, Sx.iEq_t, Sx.iEq_f, Sx.iBeq_t, Sx.iBeq_f, Sx.iBne_t, Sx.iBne_f, Nat.ble_eq, Nat.beq_eq, Sx.Cont.n, Sx.app, Sx.nAdd, Sx.nSub, Sx.nMul, Sx.nPow, Sx.nDiv, Sx.nMod, Sx.iAdd, Sx.iSub, Sx.iMul, Sx.iNeg, Sx.iPow, Sx.iOf] at c3
   have f : kpF O R (kpS O R l fr bu x) (l.getD x []) = true := by
    unfold kpF
    rw [show iLt 65536 ((l.getD x []).length : Int) = false from c2, cond_false]
    simp only [iLt_t]; exact c3
   refine Sx.if_true hszE (fin _ _ _ _ _ _ (st.trans ?_))
   unfold kp1
   rw [show (kpS O R l fr bu x).D = false from c1, f]; exact congrArg (fun d => KP.mk _ _ _ d _ _) (show false = (kpS O R l fr bu x).D from c1.symm)
  ·simp only [Bool.and_eq_true, Bool.or_eq_true, Sx.iLt_t, Sx.iLt_f, Sx.iLe_t, Sx.iLe_f, Sx.iEq_t, Sx.iEq_f, Sx.iBeq_t, Sx.iBeq_f, Sx.iBne_t, Sx.iBne_f, Nat.ble_eq, Nat.beq_eq, Sx.Cont.n, Sx.app, Sx.nAdd, Sx.nSub, Sx.nMul, Sx.nPow, Sx.nDiv, Sx.nMod, Sx.iAdd, Sx.iSub, Sx.iMul, Sx.iNeg, Sx.iPow, Sx.iOf] at c3
   have f : kpF O R (kpS O R l fr bu x) (l.getD x []) = false := by
    unfold kpF
    rw [show iLt 65536 ((l.getD x []).length : Int) = false from c2, cond_false]
    simp only [iLt_f]; exact c3
   refine Sx.if_both (fun c4 => Sx.if_both (fun c5 => ?_) (fun c5 => Sx.if_true c4 (Sx.if_true hidx (Sx.if_true rfl (Sx.if_true hszX (Sx.if_true hszE ?_)))))) (fun c4 => Sx.if_false c4 (Sx.if_true hidx (Sx.if_true rfl (Sx.if_true hszX (Sx.if_true hszE ?_)))))
   ·have g : kpG O R (kpS O R l fr bu x) (l.getD x []) = true := by
     unfold kpG
     rw [show iLe 0 (kpS O R l fr bu x).B = true from c4]; exact c5
    refine Sx.if_true hszE (fin _ _ _ _ _ _ (st.trans ?_))
    unfold kp1
    rw [show (kpS O R l fr bu x).D = false from c1, f, g]; rfl
   ·have g : kpG O R (kpS O R l fr bu x) (l.getD x []) = false := by
     unfold kpG
     rw [show iLe 0 (kpS O R l fr bu x).B = true from c4]; exact c5
    simp only [Bool.and_eq_true, Bool.or_eq_true, Sx.iLt_t, Sx.iLt_f, Sx.iLe_t, Sx.iLe_f, Sx.iEq_t, Sx.iEq_f, Sx.iBeq_t, Sx.iBeq_f, Sx.iBne_t, Sx.iBne_f, Nat.ble_eq, Nat.beq_eq, Sx.Cont.n, Sx.app, Sx.nAdd, Sx.nSub, Sx.nMul, Sx.nPow, Sx.nDiv, Sx.nMod, Sx.iAdd, Sx.iSub, Sx.iMul, Sx.iNeg, Sx.iPow, Sx.iOf, Sx.Cont.n] at c4 c5
    have w4 : IntKind.i64.wrap (iSub (kpB O R l fr bu x) (iOf (lgRow O R (l.getD x [])).length)) = kpB O R l fr bu x - ((lgRow O R (l.getD x [])).length : Int) := by simp only [Sx.app, Sx.nAdd, Sx.nSub, Sx.nMul, Sx.nPow, Sx.nDiv, Sx.nMod, Sx.iAdd, Sx.iSub, Sx.iMul, Sx.iNeg, Sx.iPow, Sx.iOf]; rw [IntKind.wrap_i64]; omega
    rw [w4]
    refine fin _ _ _ _ _ _ (st.trans ?_)
    unfold kp1
    rw [show (kpS O R l fr bu x).D = false from c1, f, g, show iLe 0 (kpS O R l fr bu x).B = true by simp only [iLe_t]; exact c4]; exact congrArg (fun d => KP.mk _ _ _ d _ _) (show false = (kpS O R l fr bu x).D from c1.symm)
   ·have g : kpG O R (kpS O R l fr bu x) (l.getD x []) = false := by
     unfold kpG
     rw [show iLe 0 (kpS O R l fr bu x).B = false from c4]; rfl
    refine fin _ _ _ _ _ _ (st.trans ?_)
    unfold kp1
    rw [show (kpS O R l fr bu x).D = false from c1, f, g, show iLe 0 (kpS O R l fr bu x).B = false from c4]; exact congrArg (fun d => KP.mk _ _ _ d _ _) (show false = (kpS O R l fr bu x).D from c1.symm)
 ·simp only [Bool.and_eq_true, Bool.or_eq_true, Sx.iLt_t, Sx.iLt_f, Sx.iLe_t, Sx.iLe_f, Sx.iEq_t, Sx.iEq_f, Sx.iBeq_t, Sx.iBeq_f, Sx.iBne_t, Sx.iBne_f, Nat.ble_eq, Nat.beq_eq, Sx.Cont.n, Sx.app, Sx.nAdd, Sx.nSub, Sx.nMul, Sx.nPow, Sx.nDiv, Sx.nMod, Sx.iAdd, Sx.iSub, Sx.iMul, Sx.iNeg, Sx.iPow, Sx.iOf] at d
  obtain rfl : x = l.length := by omega
  exact ⟨(by first | rfl | trivial), trivial, rfl, rfl, trivial⟩
theorem wpc_kept44 (O : OO) (R : OB) (l : List (List Int)) (fr bu : Int) (F : FO O) (hr : R = bO) (hS : SB O) (h0 : (fwE l) = true) (h1 : (iLe 0 fr && iLe fr 4194304) = true) (h2 : (iLe (-9223372036854775808) bu && iLe bu 9223372036854775807) = true) : wpcI Try.prog (spU3 O R) Try.f15.ntmps [⟨Nat, [0], [(9, 30, .ints .i64 []), (10, 22, .ints .u8 []), (1000000010, 22, .ints .u8 [])], fun B k => [(1, .v (.int .i64 (kpN O R l fr bu k))), (2, .v (.int .i64 (kpB O R l fr bu k))), (9, .row B), (10, .row (B + 1)), (11, .v (.int .i64 (kpT O R l fr bu k))), (12, .v (.bool (kpD O R l fr bu k))), (13, .v (.int .i64 (k : Nat)))], fun B k => [(B, .own 30 (.ints .i64 (kpE O R l fr bu k))), (B + 1, .ownp 22 (B + 2)), (B + 2, .pool (kpX O R l fr bu k))], fun k => k ≤ l.length, fun k => l.length - k, 0⟩] (bodyOf Try.f15) 0 64 (envP (mks [.ros, .v, .v] [.rows l, .v (.int .i64 fr), .v (.int .i64 bu)] 0).1 0) (mks [.ros, .v, .v] [.rows l, .v (.int .i64 fr), .v (.int .i64 bu)] 0).2 (retP Try.prog Try.f15.results.toList 1 (⟨[.row 1, .row 2, .v (.int .i64 (kpT O R l fr bu l.length))], [(1, .own 30 (.ints .i64 (kpE O R l fr bu l.length))), (2, .ownp 22 3), (3, .pool (kpX O R l fr bu l.length))]⟩ : Post)) :=
 Eq.mpr (by kernel_rfl) (vc_kept44 O R l fr bu F hr hS h0 h1 h2)
theorem ok_kept44 (I : Sx.Interp) (O : OO) (hO : O = oo) (R : OB) (hR : R = bO) : Sx.SpecOK I Try.prog 15 (pspec [.ros, .v, .v] true (g_kept44 O R)) := by
 refine spec_pI (spU3_ok I O hO R hR) (by kernel_rfl) (fun ds => match ds with | [.rows l, .v (.int .i64 fr), .v (.int .i64 bu)] => [⟨Nat, [0], [(9, 30, .ints .i64 []), (10, 22, .ints .u8 []), (1000000010, 22, .ints .u8 [])], fun B k => [(1, .v (.int .i64 (kpN O R l fr bu k))), (2, .v (.int .i64 (kpB O R l fr bu k))), (9, .row B), (10, .row (B + 1)), (11, .v (.int .i64 (kpT O R l fr bu k))), (12, .v (.bool (kpD O R l fr bu k))), (13, .v (.int .i64 (k : Nat)))], fun B k => [(B, .own 30 (.ints .i64 (kpE O R l fr bu k))), (B + 1, .ownp 22 (B + 2)), (B + 2, .pool (kpX O R l fr bu k))], fun k => k ≤ l.length, fun k => l.length - k, 0⟩] | _ => []) Try.func15 (by kernel_rfl) (by kernel_rfl) rfl Try.ntmps15 (by decide) ?_ ?_
 ·intro ds p bs F h
  unfold g_kept44 at h
  split at h
  ·rename_i l fr bu
   simp only [Option.some.injEq, Prod.mk.injEq] at h
   obtain ⟨_, _, rfl⟩ := h
   kernel_rfl
  ·cases h
 ·intro ds bs F hl h
  unfold g_kept44 at h
  split at h
  ·rename_i l fr bu
   simp only [Option.some.injEq, Prod.mk.injEq, Bool.and_eq_true] at h
   obtain ⟨⟨⟨h0, h1⟩, h2⟩, _, rfl⟩ := h
   exact wpc_kept44 O R l fr bu (fo_oo O hO) hR (by subst hO; exact sb_oo) (by first | exact h0 | (simp only [Bool.and_eq_true]; exact h0)) (by first | exact h1 | (simp only [Bool.and_eq_true]; exact h1)) (by first | exact h2 | (simp only [Bool.and_eq_true]; exact h2))
  ·cases h
def spU4 (O : OO) (R : OB) (f : FuncId) : Option Sx.Spec := match f with
 | 15 => some (pspec [.ros, .v, .v] true (g_kept44 O R))
 | f => spU3 O R f
theorem spU4_ok (I : Sx.Interp) (O : OO) (hO : O = oo) (R : OB) (hR : R = bO) : ∀ f s, spU4 O R f = some s → Sx.SpecOK I Try.prog f s := by
 intro f s h
 unfold spU4 at h
 split at h
 · cases h; exact ok_kept44 I O hO R hR
 ·exact spU3_ok I O hO R hR _ s h
end Go.Proofs.Ytaohpdhhbnempaa
