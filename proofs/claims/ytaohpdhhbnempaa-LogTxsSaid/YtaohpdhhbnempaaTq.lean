/- Locks and transactions, plainly: what they are seen by, their bytes, and that what is laid is read. No program in sight. -/
import Derived.Test.YtaohpdhhbnempaaRd2
namespace Go.Proofs.Ytaohpdhhbnempaa
open Go Go.RowKit Go.Lib Ckp Cfd Cpd Sx
set_option linter.unusedVariables false
set_option linter.unusedSimpArgs false
theorem num_fwd {R : OB} (hr : R = bO) {n : Int} (h0 : 0 ≤ n) (h1 : n ≤ 9223372036854775807) (t : List Int) : R.nOk (R.row n ++ t) = true ∧ R.nV (R.row n ++ t) = n ∧ R.nR (R.row n ++ t) = t := by
 subst hr
 have h := num_row t h0 (by omega : n < 9223372036854775808)
 refine ⟨congrArg Prod.fst h, congrArg (fun x => x.2.1) h, ?_⟩
 show (bif (numG (rowI n ++ t) 10 0 0).1 then (rowI n ++ t).drop (numG (rowI n ++ t) 10 0 0).2.2 else []) = t
 rw [h]
 show (rowI n ++ t).drop (rowI n).length = t
 rw [List.drop_left]
def u64f (n b : Int) : Int := IntKind.u64.wrap (((BitVec.ofInt 64 (IntKind.u64.wrap (n * 2 ^ 8)) ||| BitVec.ofInt 64 b).toNat : Nat) : Int)
theorem u64f_eq {a d : Int} (ha : 0 ≤ a ∧ a < 72057594037927936) (hd : 0 ≤ d ∧ d < 256) : u64f a d = 256 * a + d := by
 obtain ⟨x, rfl⟩ : ∃ x : Nat, a = x := ⟨a.toNat, by omega⟩
 obtain ⟨y, rfl⟩ : ∃ y : Nat, d = y := ⟨d.toNat, by omega⟩
 have e1 : (BitVec.ofInt 64 (IntKind.u64.wrap ((x : Int) * 2 ^ 8))).toNat = 2 ^ 8 * x := by
  rw [ofInt_wrap, BitVec.toNat_ofInt]
  simp only [Nat.reducePow, Int.reducePow] at *
  omega
 have e2 : (BitVec.ofInt 64 (y : Int)).toNat = y := by
  rw [BitVec.toNat_ofInt]
  simp only [Nat.reducePow] at *
  omega
 unfold u64f
 rw [BitVec.toNat_or, e1, e2, ← Nat.two_pow_add_eq_or_of_lt (i := 8) (by omega), IntKind.wrap_u64]
 simp only [Nat.reducePow]
 omega
theorem u64_horner {a b c d e f g h : Int} (ha : 0 ≤ a ∧ a < 256) (hb : 0 ≤ b ∧ b < 256) (hc : 0 ≤ c ∧ c < 256) (hd : 0 ≤ d ∧ d < 256) (he : 0 ≤ e ∧ e < 256) (hf : 0 ≤ f ∧ f < 256) (hg : 0 ≤ g ∧ g < 256) (hh : 0 ≤ h ∧ h < 256) :
  u64F [a, b, c, d, e, f, g, h] = 256 * (256 * (256 * (256 * (256 * (256 * (256 * a + b) + c) + d) + e) + f) + g) + h := by
 show u64f (u64f (u64f (u64f (u64f (u64f (u64f (u64f 0 a) b) c) d) e) f) g) h = _
 rw [u64f_eq (a := 0) (by omega) ha, u64f_eq (a := 256 * 0 + a) (by omega) hb]
 simp only [Int.mul_zero, Int.zero_add]
 rw [u64f_eq (a := 256 * a + b) (by omega) hc, u64f_eq (a := 256 * (256 * a + b) + c) (by omega) hd, u64f_eq (a := 256 * (256 * (256 * a + b) + c) + d) (by omega) he,
  u64f_eq (a := 256 * (256 * (256 * (256 * a + b) + c) + d) + e) (by omega) hf, u64f_eq (a := 256 * (256 * (256 * (256 * (256 * a + b) + c) + d) + e) + f) (by omega) hg,
  u64f_eq (a := 256 * (256 * (256 * (256 * (256 * (256 * a + b) + c) + d) + e) + f) + g) (by omega) hh]
theorem u64A_eq (n : Int) (i : Nat) : u64A n i = n / 2 ^ (56 - 8 * i) % 256 := by
 unfold u64A
 rw [IntKind.wrap_u8, Int.fdiv_eq_ediv_of_nonneg _ (Int.pow_nonneg (by decide))]
theorem u64_fwd {R : OB} (hr : R = bO) {q : Int} (h : inU q 18446744073709551616 = true) (t : List Int) : u64N (u64B q ++ t) false = false ∧ u64V R (u64B q ++ t) false = q ∧ u64R (u64B q ++ t) false = t := by
 subst hr
 have h : 0 ≤ q ∧ q < 18446744073709551616 := by
  unfold inU at h
  simp only [zaT, decide_eq_true_eq] at h
  simpa using h
 have hk : u64K (u64B q ++ t) false = false := by
  unfold u64K
  show iLt ((u64B q ++ t).length : Int) 8 = false
  simp only [Bz, Sx.Cont.n, u64B, zlA, List.length_cons, List.length_nil]; omega
 refine ⟨by unfold u64N; rw [hk]; rfl, ?_, by unfold u64R; rw [hk]; rfl⟩
 unfold u64V u64S
 rw [hk, cond_false, show (u64B q ++ t).take 8 = u64B q from rfl]
 show u64F (u64B q) = q
 unfold u64B
 simp only [u64A_eq]
 rw [u64_horner (by omega) (by omega) (by omega) (by omega) (by omega) (by omega) (by omega) (by omega)]
 simp only [Nat.reduceMul, Nat.reduceSub, Int.reducePow]
 have d1 : q / 65536 = q / 256 / 256 := by omega
 have d2 : q / 16777216 = q / 256 / 256 / 256 := by omega
 have d3 : q / 4294967296 = q / 256 / 256 / 256 / 256 := by omega
 have d4 : q / 1099511627776 = q / 256 / 256 / 256 / 256 / 256 := by omega
 have d5 : q / 281474976710656 = q / 256 / 256 / 256 / 256 / 256 / 256 := by omega
 have d6 : q / 72057594037927936 = q / 256 / 256 / 256 / 256 / 256 / 256 / 256 := by omega
 rw [d1, d2, d3, d4, d5, d6]
 omega
theorem take_snoc' {α : Type} {l : List α} {x : Nat} (d : α) (h : x < l.length) : l.take (x + 1) = l.take x ++ [l.getD x d] := by
 rw [List.take_add_one, List.getD_eq_getElem?_getD, List.getElem?_eq_getElem h]; rfl
theorem nRl {R : OB} (hr : R = bO) (l : List Int) : (R.nR l).length ≤ l.length := by
 subst hr
 show (bif (numG l 10 0 0).1 then l.drop (numG l 10 0 0).2.2 else []).length ≤ _
 cases (numG l 10 0 0).1
 ·exact Nat.zero_le _
 ·rw [cond_true, List.length_drop]; omega
structure VB where
 k : List Int
 a : Int
 d : Int
 s : Int
 deriving DecidableEq
structure VO where
 a : Int
 b : List VB
 deriving DecidableEq
structure VI where
 h : List Int
 n : Int
 b : Int
 g : List (List Int)
 s : Int
 deriving DecidableEq
def brD : List DS := [.s [.n .u64], .n .i64, .n .i64, .n .u64]
def ouD : List DS := [.n .i64, .s brD]
def inD : List DS := [.n .u8, .n .u8, .n .u8, .n .u8, .n .u8, .n .u8, .n .u8, .n .u8, .n .u8, .n .u8, .n .u8, .n .u8, .n .u8, .n .u8, .n .u8, .n .u8, .n .u8, .n .u8, .n .u8, .n .u8, .n .u8, .n .u8, .n .u8, .n .u8, .n .u8, .n .u8, .n .u8, .n .u8, .n .u8, .n .u8, .n .u8, .n .u8, .n .i64, .n .i64, .s [.n .u64, .n .u64], .n .u64]
def txD : List DS := [.s inD, .s ouD, .n .i64]
def vB (x : List DD) : VB := ⟨(x.getD 0 (.n 0)).l.map fun y => (y.getD 0 (.n 0)).i, (x.getD 1 (.n 0)).i, (x.getD 2 (.n 0)).i, (x.getD 3 (.n 0)).i⟩
def vO (x : List DD) : VO := ⟨(x.getD 0 (.n 0)).i, (x.getD 1 (.n 0)).l.map vB⟩
def hF (x : List DD) (c : Nat) : Int := (x.getD c (.n 0)).i
def vI (x : List DD) : VI := ⟨tabI (hF x) 32, (x.getD 32 (.n 0)).i, (x.getD 33 (.n 0)).i, (x.getD 34 (.n 0)).l.map ddI, (x.getD 35 (.n 0)).i⟩
def cB (v : VB) : List DD := [.s (v.k.map fun x => [.n x]), .n v.a, .n v.d, .n v.s]
def cO (v : VO) : List DD := [.n v.a, .s (v.b.map cB)]
def cI (v : VI) : List DD := v.h.map DD.n ++ [.n v.n, .n v.b, .s (v.g.map fun x => x.map DD.n), .n v.s]
def hgtO (n : Int) : Bool := bif iLe 0 n then iLe n 1048576 else false
def badT (O : OO) (p : Int) : Bool := !(O.pright p)
def idxT (p : Int → Bool) (l : List Int) : Int := match l.findIdx? p with
 | some i => (i : Int)
 | none => -1
def brOk (O : OO) (v : VB) : Bool := Nat.ble v.k.length 12 && v.k.all (fun p => !(badT O p)) && hgtO v.a && hgtO v.d && (bif iBne v.s 0 then !(badT O v.s) else true)
def lkOk (O : OO) (l : List VB) : Bool := l.all (brOk O) && Nat.blt 0 l.length && Nat.ble l.length 4
def brW (v : VB) : Bool := inUs 18446744073709551616 v.k && inU v.s 18446744073709551616 && Nat.ble v.k.length 1000
def lkW (l : List VB) : Bool := l.all brW
def brB (R : OB) (v : VB) : List Int := R.row (v.k.length : Int) ++ v.k.flatMap u64B ++ R.row v.a ++ R.row v.d ++ u64B v.s
def lkB (R : OB) (l : List VB) : List Int := R.row (l.length : Int) ++ l.flatMap (brB R)
def lkZ (O : OO) (R : OB) (l : List VB) : List Int := bif lkOk O l then lkB R l else []
def rdK (R : OB) : Nat → List Int → List Int × List Int
 | 0, l => ([], l)
 | k + 1, l => (u64V R l false :: (rdK R k (u64R l false)).1, (rdK R k (u64R l false)).2)
def rdB (R : OB) (l : List Int) : VB × List Int :=
 (⟨(rdK R (R.nV l).toNat (R.nR l)).1, R.nV (rdK R (R.nV l).toNat (R.nR l)).2, R.nV (R.nR (rdK R (R.nV l).toNat (R.nR l)).2), u64V R (R.nR (R.nR (rdK R (R.nV l).toNat (R.nR l)).2)) false⟩,
  u64R (R.nR (R.nR (rdK R (R.nV l).toNat (R.nR l)).2)) false)
def rdBs (R : OB) : Nat → List Int → List VB × List Int
 | 0, l => ([], l)
 | k + 1, l => ((rdB R l).1 :: (rdBs R k (rdB R l).2).1, (rdBs R k (rdB R l).2).2)
def lkOf (R : OB) (b : List Int) : List VB := (rdBs R (R.nV b).toNat (R.nR b)).1
def lkIs (O : OO) (R : OB) (b : List Int) : Bool := lkOk O (lkOf R b) && lkW (lkOf R b) && decide (lkB R (lkOf R b) = b)
def vbAt (l : List VB) (j : Nat) : VB := l.getD j ⟨[], 0, 0, 0⟩
def vbN (l : List VB) (j : Nat) : Nat := (vbAt l j).k.length
def vbK (l : List VB) (j q : Nat) : List Int := (vbAt l j).k.take q
def brT (R : OB) (v : VB) (q : Nat) : List Int := (v.k.drop q).flatMap u64B ++ (R.row v.a ++ (R.row v.d ++ u64B v.s))
def lkT (R : OB) (l : List VB) (j : Nat) : List Int := (l.drop j).flatMap (brB R)
def lkI (R : OB) (l : List VB) (j q : Nat) : List Int := brT R (vbAt l j) q ++ lkT R l (j + 1)
def lkP (R : OB) (l : List VB) (j : Nat) : List Int := R.row (l.length : Int) ++ (l.take j).flatMap (brB R)
def lkQ (R : OB) (l : List VB) (j q : Nat) : List Int := lkP R l j ++ R.row (vbN l j : Int) ++ (vbK l j q).flatMap u64B
def kI (v : VI) : List Int := v.h ++ [v.n]
def kkT : List IntKind := [.u8, .u8, .u8, .u8, .u8, .u8, .u8, .u8, .u8, .u8, .u8, .u8, .u8, .u8, .u8, .u8, .u8, .u8, .u8, .u8, .u8, .u8, .u8, .u8, .u8, .u8, .u8, .u8, .u8, .u8, .u8, .u8, .i64]
def viAt (l : List VI) (j : Nat) : VI := l.getD j ⟨[], 0, 0, [], 0⟩
def voAt (l : List VO) (j : Nat) : VO := l.getD j ⟨0, []⟩
def witOk (b : Int) (g : List (List Int)) : Bool := bif iLe 0 b then (bif iLt b 4 then Nat.ble g.length 12 else false) else false
def keysT (l : List VI) (j : Nat) : List (List Int) := (l.take j).map kI
def inAt (l : List VI) (j : Nat) : Bool := !(memK kkT (keysT l j) (kI (viAt l j))) && iLe 0 (viAt l j).n && iLt (viAt l j).n 64 && witOk (viAt l j).b (viAt l j).g
def insOk (l : List VI) : Bool := (List.range l.length).all (inAt l)
def coinT (a : Int) : Bool := bif iLe 0 a then iLe a 1125899906842624 else false
def addT (a b : Int) : Bool := bif coinT a then (bif coinT b then !(iLt (IntKind.i64.wrap (iSub 1125899906842624 b)) a) else false) else false
def addV (a b : Int) : Int := bif addT a b then IntKind.i64.wrap (iAdd a b) else 0
def sumT (l : List VO) : Nat → Int
 | 0 => 0
 | j + 1 => addV (sumT l j) (voAt l j).a
def ouAt (O : OO) (l : List VO) (j : Nat) : Bool := addT (sumT l j) (voAt l j).a && lkOk O (voAt l j).b
def ousOk (O : OO) (l : List VO) : Bool := (List.range l.length).all (ouAt O l)
def txOk (O : OO) (i : List VI) (o : List VO) (n : Int) : Bool := Nat.ble 1 i.length && Nat.ble i.length 64 && Nat.ble o.length 64 && iLe 0 n && insOk i && ousOk O o
def sgW (g : List Int) : Bool := Nat.beq g.length 2 && inU (g.getD 0 0) 18446744073709551616 && inU (g.getD 1 0) 18446744073709551616
def inW (O : OO) (v : VI) : Bool := Nat.beq v.h.length 32 && O.isH (Array.mk (v.h.map (Value.int .u8))) && v.g.all sgW && inU v.s 18446744073709551616 && Nat.ble v.g.length 1000 && byB v.h
def ouW (v : VO) : Bool := lkW v.b && Nat.ble v.b.length 1000
def txW (O : OO) (i : List VI) (o : List VO) (n : Int) : Bool := i.all (inW O) && o.all ouW && iLe n 9223372036854775807 && Nat.ble i.length 1000 && Nat.ble o.length 1000
def siB (g : List Int) : List Int := u64B (g.getD 0 0) ++ u64B (g.getD 1 0)
def inP (R : OB) (v : VI) : List Int := v.h ++ R.row v.n
def ouP (R : OB) (v : VO) : List Int := R.row v.a ++ R.row ((lkB R v.b).length : Int) ++ lkB R v.b
def wiB (R : OB) (v : VI) : List Int := R.row v.b ++ R.row (v.g.length : Int) ++ v.g.flatMap siB ++ u64B v.s
def plI (R : OB) (i : List VI) (j : Nat) : List Int := R.row (i.length : Int) ++ (i.take j).flatMap (inP R)
def plO (R : OB) (i : List VI) (o : List VO) (j : Nat) : List Int := plI R i i.length ++ R.row (o.length : Int) ++ (o.take j).flatMap (ouP R)
def plB (R : OB) (i : List VI) (o : List VO) (n : Int) : List Int := plO R i o o.length ++ R.row n
def txJ (R : OB) (i : List VI) (o : List VO) (n : Int) (j : Nat) : List Int := plB R i o n ++ (i.take j).flatMap (wiB R)
def txK (R : OB) (i : List VI) (o : List VO) (n : Int) (j q : Nat) : List Int := txJ R i o n j ++ R.row (viAt i j).b ++ R.row ((viAt i j).g.length : Int) ++ ((viAt i j).g.take q).flatMap siB
def txB (R : OB) (i : List VI) (o : List VO) (n : Int) : List Int := txJ R i o n i.length
def txZ (O : OO) (R : OB) (i : List VI) (o : List VO) (n : Int) : List Int := bif txOk O i o n then txB R i o n else []
def viN (l : List VI) (j : Nat) : Nat := (viAt l j).g.length
def hEq (y : List DD) : Prop := Value.int IntKind.u8 (y.getD 0 (DD.n 0)).i = Value.int IntKind.u8 (y.getD 0 (DD.n 0)).i ∧ Value.int IntKind.u8 (y.getD 1 (DD.n 0)).i = Value.int IntKind.u8 (y.getD 1 (DD.n 0)).i ∧ Value.int IntKind.u8 (y.getD 2 (DD.n 0)).i = Value.int IntKind.u8 (y.getD 2 (DD.n 0)).i ∧ Value.int IntKind.u8 (y.getD 3 (DD.n 0)).i = Value.int IntKind.u8 (y.getD 3 (DD.n 0)).i ∧ Value.int IntKind.u8 (y.getD 4 (DD.n 0)).i = Value.int IntKind.u8 (y.getD 4 (DD.n 0)).i ∧ Value.int IntKind.u8 (y.getD 5 (DD.n 0)).i = Value.int IntKind.u8 (y.getD 5 (DD.n 0)).i ∧ Value.int IntKind.u8 (y.getD 6 (DD.n 0)).i = Value.int IntKind.u8 (y.getD 6 (DD.n 0)).i ∧ Value.int IntKind.u8 (y.getD 7 (DD.n 0)).i = Value.int IntKind.u8 (y.getD 7 (DD.n 0)).i ∧ Value.int IntKind.u8 (y.getD 8 (DD.n 0)).i = Value.int IntKind.u8 (y.getD 8 (DD.n 0)).i ∧ Value.int IntKind.u8 (y.getD 9 (DD.n 0)).i = Value.int IntKind.u8 (y.getD 9 (DD.n 0)).i ∧ Value.int IntKind.u8 (y.getD 10 (DD.n 0)).i = Value.int IntKind.u8 (y.getD 10 (DD.n 0)).i ∧ Value.int IntKind.u8 (y.getD 11 (DD.n 0)).i = Value.int IntKind.u8 (y.getD 11 (DD.n 0)).i ∧ Value.int IntKind.u8 (y.getD 12 (DD.n 0)).i = Value.int IntKind.u8 (y.getD 12 (DD.n 0)).i ∧ Value.int IntKind.u8 (y.getD 13 (DD.n 0)).i = Value.int IntKind.u8 (y.getD 13 (DD.n 0)).i ∧ Value.int IntKind.u8 (y.getD 14 (DD.n 0)).i = Value.int IntKind.u8 (y.getD 14 (DD.n 0)).i ∧ Value.int IntKind.u8 (y.getD 15 (DD.n 0)).i = Value.int IntKind.u8 (y.getD 15 (DD.n 0)).i ∧ Value.int IntKind.u8 (y.getD 16 (DD.n 0)).i = Value.int IntKind.u8 (y.getD 16 (DD.n 0)).i ∧ Value.int IntKind.u8 (y.getD 17 (DD.n 0)).i = Value.int IntKind.u8 (y.getD 17 (DD.n 0)).i ∧ Value.int IntKind.u8 (y.getD 18 (DD.n 0)).i = Value.int IntKind.u8 (y.getD 18 (DD.n 0)).i ∧ Value.int IntKind.u8 (y.getD 19 (DD.n 0)).i = Value.int IntKind.u8 (y.getD 19 (DD.n 0)).i ∧ Value.int IntKind.u8 (y.getD 20 (DD.n 0)).i = Value.int IntKind.u8 (y.getD 20 (DD.n 0)).i ∧ Value.int IntKind.u8 (y.getD 21 (DD.n 0)).i = Value.int IntKind.u8 (y.getD 21 (DD.n 0)).i ∧ Value.int IntKind.u8 (y.getD 22 (DD.n 0)).i = Value.int IntKind.u8 (y.getD 22 (DD.n 0)).i ∧ Value.int IntKind.u8 (y.getD 23 (DD.n 0)).i = Value.int IntKind.u8 (y.getD 23 (DD.n 0)).i ∧ Value.int IntKind.u8 (y.getD 24 (DD.n 0)).i = Value.int IntKind.u8 (y.getD 24 (DD.n 0)).i ∧ Value.int IntKind.u8 (y.getD 25 (DD.n 0)).i = Value.int IntKind.u8 (y.getD 25 (DD.n 0)).i ∧ Value.int IntKind.u8 (y.getD 26 (DD.n 0)).i = Value.int IntKind.u8 (y.getD 26 (DD.n 0)).i ∧ Value.int IntKind.u8 (y.getD 27 (DD.n 0)).i = Value.int IntKind.u8 (y.getD 27 (DD.n 0)).i ∧ Value.int IntKind.u8 (y.getD 28 (DD.n 0)).i = Value.int IntKind.u8 (y.getD 28 (DD.n 0)).i ∧ Value.int IntKind.u8 (y.getD 29 (DD.n 0)).i = Value.int IntKind.u8 (y.getD 29 (DD.n 0)).i ∧ Value.int IntKind.u8 (y.getD 30 (DD.n 0)).i = Value.int IntKind.u8 (y.getD 30 (DD.n 0)).i ∧ Value.int IntKind.u8 (y.getD 31 (DD.n 0)).i = Value.int IntKind.u8 (y.getD 31 (DD.n 0)).i ∧ Value.int IntKind.i64 (y.getD 32 (DD.n 0)).i = Value.int IntKind.i64 (y.getD 32 (DD.n 0)).i ∧ Value.int IntKind.i64 (y.getD 33 (DD.n 0)).i = Value.int IntKind.i64 (y.getD 33 (DD.n 0)).i ∧ Value.int IntKind.u64 (y.getD 35 (DD.n 0)).i = Value.int IntKind.u64 (y.getD 35 (DD.n 0)).i
theorem hEq_ok (y : List DD) : hEq y := by
 unfold hEq
 repeat' (first | exact rfl | refine ⟨?_, ?_⟩)
theorem inUs_atT {b : Nat} {l : List Int} (hl : inUs b l = true) {x : Nat} (hx : x < l.length) : inU (l.getD x 0) b = true := by
 unfold inUs at hl
 rw [List.all_eq_true] at hl
 rw [List.getD_eq_getElem?_getD, List.getElem?_eq_getElem hx]
 exact hl _ (List.getElem_mem hx)
theorem idxT_here {p : Int → Bool} {l : List Int} {x : Nat} (hx : x < l.length) (hb : ∀ k, k < x → p (l.getD k 0) = false) (h : p (l.getD x 0) = true) : idxT p l = (x : Int) := by
 have e : l.findIdx? p = some x := by
  rw [List.findIdx?_eq_some_iff_getElem]
  refine ⟨hx, ?_, fun j hj => ?_⟩
  ·rw [List.getD_eq_getElem?_getD, List.getElem?_eq_getElem hx] at h; exact h
  ·have := hb j hj
   rw [List.getD_eq_getElem?_getD, List.getElem?_eq_getElem (by omega)] at this
   simpa using this
 unfold idxT
 rw [e]
theorem idxT_none {p : Int → Bool} {l : List Int} (hb : ∀ k, k < l.length → p (l.getD k 0) = false) : idxT p l = -1 := by
 have e : l.findIdx? p = none := by
  rw [List.findIdx?_eq_none_iff]
  intro x hx
  obtain ⟨k, hk, rfl⟩ := List.getElem_of_mem hx
  have := hb k hk
  rw [List.getD_eq_getElem?_getD, List.getElem?_eq_getElem hk] at this
  exact this
 unfold idxT
 rw [e]
theorem idxT_all (p : Int → Bool) (l : List Int) : (!(iLe 0 (idxT p l))) = l.all fun n => !(p n) := by
 unfold idxT
 cases h : l.findIdx? p with
 | none =>
  rw [List.findIdx?_eq_none_iff] at h
  symm
  show _ = true
  rw [List.all_eq_true]
  intro x hx
  rw [h x hx]; rfl
 | some i =>
  rw [List.findIdx?_eq_some_iff_getElem] at h
  obtain ⟨hi, h1, _⟩ := h
  have e : iLe 0 (i : Int) = true := by simp only [Bz, Sx.Cont.n]; omega
  show (!(iLe 0 (i : Int))) = _
  rw [e]
  symm
  show _ = false
  rw [Bool.eq_false_iff]
  intro hall
  rw [List.all_eq_true] at hall
  have := hall _ (List.getElem_mem hi)
  rw [h1] at this
  cases this
theorem all_atT {α β : Type} {f : α → β} {p : β → Bool} {l : List α} (h : (l.map f).all p = true) {x : Nat} (d : α) (hx : x < l.length) : p (f (l.getD x d)) = true := by
 rw [List.all_eq_true] at h
 rw [List.getD_eq_getElem?_getD, List.getElem?_eq_getElem hx]
 exact h _ (List.mem_map_of_mem (List.getElem_mem hx))
theorem all_mkT {α β : Type} {f : α → β} {p : β → Bool} {l : List α} (d : α) (h : ∀ k, k < l.length → p (f (l.getD k d)) = true) : (l.map f).all p = true := by
 rw [List.all_eq_true]
 intro y hy
 obtain ⟨x, hx, rfl⟩ := List.mem_map.1 hy
 obtain ⟨k, hk, rfl⟩ := List.getElem_of_mem hx
 have := h k hk
 rw [List.getD_eq_getElem?_getD, List.getElem?_eq_getElem hk] at this
 exact this
theorem all_badT {α β : Type} {f : α → β} {p : β → Bool} {l : List α} (d : α) {x : Nat} (hx : x < l.length) (h : p (f (l.getD x d)) = false) : (l.map f).all p = false := by
 rw [Bool.eq_false_iff]
 intro hall
 rw [all_atT hall d hx] at h; cases h
theorem flat_snoc0 {α γ : Type} (g : α → List γ) {l : List α} {x : Nat} (d : α) (h : x < l.length) : (l.take (x + 1)).flatMap g = (l.take x).flatMap g ++ g (l.getD x d) := by
 rw [take_snoc' d h, List.flatMap_append]
 show _ ++ (g _ ++ []) = _
 rw [List.append_nil]
theorem u64B_len (n : Int) : (u64B n).length = 8 := rfl
theorem flat_len {α γ : Type} {g : α → List γ} {c : Nat} : ∀ {l : List α}, (∀ x ∈ l, (g x).length ≤ c) → (l.flatMap g).length ≤ c * l.length
 | [], _ => Nat.le_refl _
 | x :: l, h => by
  have h1 := h x (List.mem_cons_self ..)
  have h2 := flat_len (l := l) fun y hy => h y (List.mem_cons_of_mem _ hy)
  rw [List.flatMap_cons, zlA, List.length_cons, Nat.mul_succ]; omega
theorem rowT_len {R : OB} (hr : R = bO) (n : Int) : (R.row n).length ≤ 10 := by
 exact row_len hr n
theorem brB_len {R : OB} (hr : R = bO) {v : VB} (h : v.k.length ≤ 12) : (brB R v).length ≤ 134 := by
 have a := rowT_len hr (v.k.length : Int)
 have b := rowT_len hr v.a
 have c := rowT_len hr v.d
 have d := flat_len (g := u64B) (c := 8) (l := v.k) fun x _ => Nat.le_of_eq (u64B_len x)
 have e := u64B_len v.s
 unfold brB
 simp only [zlA]
 omega
theorem hgtO_iff {n : Int} : hgtO n = true ↔ 0 ≤ n ∧ n ≤ 1048576 := by
 unfold hgtO
 by_cases h : 0 ≤ n
 ·rw [show iLe 0 n = true by simp only [Bz, Sx.Cont.n]; exact h, cond_true]
  simp only [Bz, Sx.Cont.n]; exact ⟨fun h1 => ⟨h, h1⟩, fun h1 => h1.2⟩
 ·rw [show iLe 0 n = false by simp only [Bz, Sx.Cont.n]; omega, cond_false]
  exact ⟨fun h1 => (by cases h1), fun h1 => absurd h1.1 h⟩
theorem brOk_iff {O : OO} {v : VB} : brOk O v = true ↔ v.k.length ≤ 12 ∧ (v.k.all fun p => !(badT O p)) = true ∧ hgtO v.a = true ∧ hgtO v.d = true ∧ (bif iBne v.s 0 then !(badT O v.s) else true) = true := by
 unfold brOk
 simp only [zaT, Nat.ble_eq, and_assoc]
theorem lkOk_iff {O : OO} {l : List VB} : lkOk O l = true ↔ (l.all (brOk O)) = true ∧ 0 < l.length ∧ l.length ≤ 4 := by
 unfold lkOk
 simp only [zaT, Nat.ble_eq, Nat.blt_eq, and_assoc]
theorem brW_iff {v : VB} : brW v = true ↔ inUs 18446744073709551616 v.k = true ∧ inU v.s 18446744073709551616 = true ∧ v.k.length ≤ 1000 := by
 unfold brW
 simp only [zaT, Nat.ble_eq, and_assoc]
theorem lkB_len {O : OO} {R : OB} (hr : R = bO) {l : List VB} (h : lkOk O l = true) : (lkB R l).length ≤ 546 := by
 obtain ⟨h1, _, h3⟩ := lkOk_iff.1 h
 have a := rowT_len hr (l.length : Int)
 have d := flat_len (g := brB R) (c := 134) (l := l) fun x hx => brB_len hr (brOk_iff.1 (List.all_eq_true.1 h1 x hx)).1
 unfold lkB
 rw [zlA]; omega
theorem rdK_fwd {R : OB} (hr : R = bO) : ∀ (k : List Int) (t : List Int), inUs 18446744073709551616 k = true → rdK R k.length (k.flatMap u64B ++ t) = (k, t)
 | [], t, _ => rfl
 | x :: k, t, h => by
  unfold inUs at h
  rw [List.all_cons, zaT] at h
  rw [List.flatMap_cons, List.append_assoc]
  obtain ⟨_, h2, h3⟩ := u64_fwd hr h.1 (k.flatMap u64B ++ t)
  rw [List.length_cons, rdK, h2, h3, rdK_fwd hr k t h.2]
theorem rdB_fwd {O : OO} {R : OB} (hr : R = bO) {v : VB} (h : brOk O v = true) (hw : brW v = true) (t : List Int) : rdB R (brB R v ++ t) = (v, t) := by
 obtain ⟨h1, _, h3, h4, _⟩ := brOk_iff.1 h
 obtain ⟨w1, w2, _⟩ := brW_iff.1 hw
 obtain ⟨a0, a1⟩ := hgtO_iff.1 h3
 obtain ⟨d0, d1⟩ := hgtO_iff.1 h4
 have e : brB R v ++ t = R.row (v.k.length : Int) ++ (v.k.flatMap u64B ++ (R.row v.a ++ (R.row v.d ++ (u64B v.s ++ t)))) := by
  unfold brB; simp only [List.append_assoc]
 obtain ⟨_, p2, p3⟩ := num_fwd hr (n := (v.k.length : Int)) (by omega) (by omega) (v.k.flatMap u64B ++ (R.row v.a ++ (R.row v.d ++ (u64B v.s ++ t))))
 obtain ⟨_, q2, q3⟩ := num_fwd hr (n := v.a) (by omega) (by omega) (R.row v.d ++ (u64B v.s ++ t))
 obtain ⟨_, s2, s3⟩ := num_fwd hr (n := v.d) (by omega) (by omega) (u64B v.s ++ t)
 obtain ⟨_, u2, u3⟩ := u64_fwd hr w2 t
 rw [e]
 unfold rdB
 rw [p2, p3, ztN, rdK_fwd hr _ _ w1]
 simp only [q2, q3, s2, s3, u2, u3]
theorem rdBs_fwd {O : OO} {R : OB} (hr : R = bO) : ∀ (l : List VB) (t : List Int), l.all (brOk O) = true → lkW l = true → rdBs R l.length (l.flatMap (brB R) ++ t) = (l, t)
 | [], t, _, _ => rfl
 | v :: l, t, h, hw => by
  unfold lkW at hw
  rw [List.all_cons, zaT] at h hw
  rw [List.flatMap_cons, List.append_assoc, List.length_cons, rdBs, rdB_fwd hr h.1 hw.1, rdBs_fwd hr l t h.2 hw.2]
theorem lk_fwd {O : OO} {R : OB} (hr : R = bO) {l : List VB} (h : lkOk O l = true) (hw : lkW l = true) : lkIs O R (lkB R l) = true ∧ lkOf R (lkB R l) = l := by
 obtain ⟨h1, _, h3⟩ := lkOk_iff.1 h
 have e : lkOf R (lkB R l) = l := by
  unfold lkOf lkB
  obtain ⟨_, p2, p3⟩ := num_fwd hr (n := (l.length : Int)) (by omega) (by omega) (l.flatMap (brB R))
  rw [p2, p3, ztN]
  have := rdBs_fwd hr l [] h1 hw
  rw [List.append_nil] at this
  rw [this]
 refine ⟨?_, e⟩
 unfold lkIs
 rw [e, h, hw]
 exact decide_eq_true rfl
theorem vbAt_map {l : List (List DD)} {x : Nat} (h : x < l.length) : vbAt (l.map vB) x = vB (l.getD x []) := by
 unfold vbAt
 rw [List.getD_eq_getElem?_getD, List.getElem?_map, List.getD_eq_getElem?_getD, List.getElem?_eq_getElem h]; rfl
theorem vB_cB (v : VB) : vB (cB v) = v := by
 obtain ⟨k, a, d, s⟩ := v
 show VB.mk ((k.map fun x => [DD.n x]).map fun y => (y.getD 0 (.n 0)).i) a d s = _
 rw [List.map_map]
 congr 1
 exact List.map_id _
theorem vB_cBs (l : List VB) : (l.map cB).map vB = l := by
 rw [List.map_map]
 have : vB ∘ cB = id := funext vB_cB
 rw [this, List.map_id]
theorem drop_at {α : Type} {l : List α} {x : Nat} (d : α) (h : x < l.length) : l.drop x = l.getD x d :: l.drop (x + 1) := by
 rw [List.drop_eq_getElem_cons h, List.getD_eq_getElem?_getD, List.getElem?_eq_getElem h]; rfl
theorem lkT_at (R : OB) {V : List VB} {x : Nat} (h : x < V.length) : lkT R V x = R.row (vbN V x : Int) ++ lkI R V x 0 := by
 unfold lkT lkI brT vbN
 rw [drop_at ⟨[], 0, 0, 0⟩ h, List.flatMap_cons]
 obtain ⟨T, hT⟩ : ∃ T, List.flatMap (brB R) (List.drop (x + 1) V) = T := ⟨_, rfl⟩
 have hT2 : lkT R V (x + 1) = T := hT
 show brB R (vbAt V x) ++ _ = R.row ((vbAt V x).k.length : Int) ++ (_ ++ lkT R V (x + 1))
 rw [hT, hT2]
 unfold brB
 simp only [List.append_assoc, List.drop_zero]
theorem lkI_at (R : OB) {V : List VB} {x q : Nat} (h : q < vbN V x) : lkI R V x q = u64B ((vbAt V x).k.getD q 0) ++ lkI R V x (q + 1) := by
 unfold lkI brT
 rw [drop_at 0 h, List.flatMap_cons]
 simp only [List.append_assoc]
theorem lkI_end (R : OB) (V : List VB) (x : Nat) : lkI R V x (vbN V x) = R.row (vbAt V x).a ++ (R.row (vbAt V x).d ++ (u64B (vbAt V x).s ++ lkT R V (x + 1))) := by
 unfold lkI brT vbN
 rw [List.drop_length]
 simp only [List.flatMap_nil, List.nil_append, List.append_assoc]
theorem lkP_snoc (R : OB) {V : List VB} {x : Nat} (h : x < V.length) : lkP R V (x + 1) = lkQ R V x (vbN V x) ++ R.row (vbAt V x).a ++ R.row (vbAt V x).d ++ u64B (vbAt V x).s := by
 unfold lkQ lkP vbK vbN
 rw [flat_snoc0 (brB R) ⟨[], 0, 0, 0⟩ h]
 show _ ++ (_ ++ brB R (vbAt V x)) = _
 unfold brB
 rw [List.take_length]
 simp only [List.append_assoc]
theorem lkQ_snoc (R : OB) {V : List VB} {x q : Nat} (h : q < vbN V x) : lkQ R V x (q + 1) = lkQ R V x q ++ u64B ((vbAt V x).k.getD q 0) := by
 unfold lkQ vbK
 rw [flat_snoc0 u64B 0 h]
 simp only [List.append_assoc]
theorem vbOk {O : OO} {V : List VB} (h : V.all (brOk O) = true) {x : Nat} (hx : x < V.length) : brOk O (vbAt V x) = true := by
 unfold vbAt
 rw [List.getD_eq_getElem?_getD, List.getElem?_eq_getElem hx]
 exact List.all_eq_true.1 h _ (List.getElem_mem hx)
theorem vbW {V : List VB} (h : lkW V = true) {x : Nat} (hx : x < V.length) : brW (vbAt V x) = true := by
 unfold vbAt
 rw [List.getD_eq_getElem?_getD, List.getElem?_eq_getElem hx]
 exact List.all_eq_true.1 h _ (List.getElem_mem hx)
theorem lkT_len {O : OO} {R : OB} (hr : R = bO) {V : List VB} (h : lkOk O V = true) (x : Nat) : (lkT R V x).length ≤ 536 := by
 obtain ⟨h1, _, h3⟩ := lkOk_iff.1 h
 have := flat_len (g := brB R) (c := 134) (l := V.drop x) fun y hy => brB_len hr (brOk_iff.1 (List.all_eq_true.1 h1 y (List.mem_of_mem_drop hy))).1
 rw [List.length_drop] at this
 unfold lkT; omega
theorem lkP_len {O : OO} {R : OB} (hr : R = bO) {V : List VB} (h : lkOk O V = true) (x : Nat) : (lkP R V x).length ≤ 546 := by
 obtain ⟨h1, _, h3⟩ := lkOk_iff.1 h
 have := flat_len (g := brB R) (c := 134) (l := V.take x) fun y hy => brB_len hr (brOk_iff.1 (List.all_eq_true.1 h1 y (List.mem_of_mem_take hy))).1
 rw [List.length_take] at this
 have a := rowT_len hr (V.length : Int)
 unfold lkP
 rw [zlA]; omega
theorem lkQ_len {O : OO} {R : OB} (hr : R = bO) {V : List VB} (h : lkOk O V = true) {x : Nat} (hx : x < V.length) (q : Nat) : (lkQ R V x q).length ≤ 652 := by
 have h1 := (lkOk_iff.1 h).1
 have h2 := (brOk_iff.1 (vbOk h1 hx)).1
 have a := lkP_len hr h x
 have b := rowT_len hr (vbN V x : Int)
 have c := flat_len (g := u64B) (c := 8) (l := vbK V x q) fun x _ => Nat.le_of_eq (u64B_len x)
 have d : (vbK V x q).length ≤ 12 := by unfold vbK; rw [List.length_take]; omega
 unfold lkQ
 simp only [zlA]; omega
theorem lkI_len {O : OO} {R : OB} (hr : R = bO) {V : List VB} (h : lkOk O V = true) {x : Nat} (hx : x < V.length) (q : Nat) : (lkI R V x q).length ≤ 700 := by
 have h1 := (lkOk_iff.1 h).1
 have h2 := (brOk_iff.1 (vbOk h1 hx)).1
 have a := lkT_len hr h (x + 1)
 have b := rowT_len hr (vbAt V x).a
 have c := rowT_len hr (vbAt V x).d
 have d := flat_len (g := u64B) (c := 8) (l := (vbAt V x).k.drop q) fun x _ => Nat.le_of_eq (u64B_len x)
 have e := u64B_len (vbAt V x).s
 rw [List.length_drop] at d
 unfold lkI brT
 simp only [zlA]; omega
theorem viAt_map {l : List (List DD)} {x : Nat} (h : x < l.length) : viAt (l.map vI) x = vI (l.getD x []) := by
 unfold viAt
 rw [List.getD_eq_getElem?_getD, List.getElem?_map, List.getD_eq_getElem?_getD, List.getElem?_eq_getElem h]; rfl
theorem voAt_map {l : List (List DD)} {x : Nat} (h : x < l.length) : voAt (l.map vO) x = vO (l.getD x []) := by
 unfold voAt
 rw [List.getD_eq_getElem?_getD, List.getElem?_map, List.getD_eq_getElem?_getD, List.getElem?_eq_getElem h]; rfl
theorem viAt_mem {l : List VI} {x : Nat} (h : x < l.length) : viAt l x ∈ l := by
 unfold viAt
 rw [List.getD_eq_getElem?_getD, List.getElem?_eq_getElem h]
 exact List.getElem_mem h
theorem voAt_mem {l : List VO} {x : Nat} (h : x < l.length) : voAt l x ∈ l := by
 unfold voAt
 rw [List.getD_eq_getElem?_getD, List.getElem?_eq_getElem h]
 exact List.getElem_mem h
theorem tab_fnA (f : Nat → Int) : tabI (fnA (AV f)) 32 = tabI f 32 := by kernel_rfl
theorem kI_vI (y : List DD) : tabI (hF y) 33 = kI (vI y) := rfl
theorem keysT_succ {l : List VI} {x : Nat} (h : x < l.length) : keysT l (x + 1) = keysT l x ++ [kI (viAt l x)] := by
 unfold keysT
 rw [take_snoc' ⟨[], 0, 0, [], 0⟩ h, List.map_append]; rfl
theorem txOk_iff {O : OO} {i : List VI} {o : List VO} {n : Int} : txOk O i o n = true ↔ 1 ≤ i.length ∧ i.length ≤ 64 ∧ o.length ≤ 64 ∧ 0 ≤ n ∧ insOk i = true ∧ ousOk O o = true := by
 unfold txOk
 simp only [zaT, Nat.ble_eq, and_assoc, Bz, Sx.Cont.n]
theorem inW_iff {O : OO} {v : VI} : inW O v = true ↔ v.h.length = 32 ∧ O.isH (Array.mk (v.h.map (Value.int .u8))) = true ∧ v.g.all sgW = true ∧ inU v.s 18446744073709551616 = true ∧ v.g.length ≤ 1000 ∧ byB v.h = true := by
 unfold inW
 simp only [zaT, Nat.ble_eq, Nat.beq_eq, and_assoc]
theorem ouW_iff {v : VO} : ouW v = true ↔ lkW v.b = true ∧ v.b.length ≤ 1000 := by
 unfold ouW
 simp only [zaT, Nat.ble_eq]
theorem txW_iff {O : OO} {i : List VI} {o : List VO} {n : Int} : txW O i o n = true ↔ i.all (inW O) = true ∧ o.all ouW = true ∧ n ≤ 9223372036854775807 ∧ i.length ≤ 1000 ∧ o.length ≤ 1000 := by
 unfold txW
 simp only [zaT, Nat.ble_eq, and_assoc, Bz, Sx.Cont.n]
theorem insOk_at {l : List VI} (h : insOk l = true) {x : Nat} (hx : x < l.length) : inAt l x = true := List.all_eq_true.1 h x (List.mem_range.2 hx)
theorem insOk_mk {l : List VI} (h : ∀ x, x < l.length → inAt l x = true) : insOk l = true := List.all_eq_true.2 fun x hx => h x (List.mem_range.1 hx)
theorem ousOk_at {O : OO} {l : List VO} (h : ousOk O l = true) {x : Nat} (hx : x < l.length) : ouAt O l x = true := List.all_eq_true.1 h x (List.mem_range.2 hx)
theorem ousOk_mk {O : OO} {l : List VO} (h : ∀ x, x < l.length → ouAt O l x = true) : ousOk O l = true := List.all_eq_true.2 fun x hx => h x (List.mem_range.1 hx)
theorem inAt_iff {l : List VI} {j : Nat} : inAt l j = true ↔ memK kkT (keysT l j) (kI (viAt l j)) = false ∧ 0 ≤ (viAt l j).n ∧ (viAt l j).n < 64 ∧ witOk (viAt l j).b (viAt l j).g = true := by
 unfold inAt
 simp only [zaT, Bool.not_eq_true', and_assoc, Bz, Sx.Cont.n]
theorem ouAt_iff {O : OO} {l : List VO} {j : Nat} : ouAt O l j = true ↔ addT (sumT l j) (voAt l j).a = true ∧ lkOk O (voAt l j).b = true := by
 unfold ouAt
 simp only [zaT]
theorem witOk_iff {b : Int} {g : List (List Int)} : witOk b g = true ↔ 0 ≤ b ∧ b < 4 ∧ g.length ≤ 12 := by
 unfold witOk
 by_cases h : 0 ≤ b
 ·rw [show iLe 0 b = true by simp only [Bz, Sx.Cont.n]; exact h, cond_true]
  by_cases h2 : b < 4
  ·rw [show iLt b 4 = true by simp only [Bz, Sx.Cont.n]; exact h2, cond_true, Nat.ble_eq]
   exact ⟨fun h3 => ⟨h, h2, h3⟩, fun h3 => h3.2.2⟩
  ·rw [show iLt b 4 = false by simp only [Bz, Sx.Cont.n]; omega, cond_false]
   exact ⟨fun h3 => (by cases h3), fun h3 => absurd h3.2.1 h2⟩
 ·rw [show iLe 0 b = false by simp only [Bz, Sx.Cont.n]; omega, cond_false]
  exact ⟨fun h3 => (by cases h3), fun h3 => absurd h3.1 h⟩
theorem coinT_iff {a : Int} : coinT a = true ↔ 0 ≤ a ∧ a ≤ 1125899906842624 := by
 unfold coinT
 by_cases h : 0 ≤ a
 ·rw [show iLe 0 a = true by simp only [Bz, Sx.Cont.n]; exact h, cond_true]
  simp only [Bz, Sx.Cont.n]; exact ⟨fun h1 => ⟨h, h1⟩, fun h1 => h1.2⟩
 ·rw [show iLe 0 a = false by simp only [Bz, Sx.Cont.n]; omega, cond_false]
  exact ⟨fun h1 => (by cases h1), fun h1 => absurd h1.1 h⟩
theorem addT_coin {a b : Int} (h : addT a b = true) : coinT b = true := by
 unfold addT at h
 cases ha : coinT a
 ·rw [ha] at h; cases h
 ·rw [ha] at h
  cases hb : coinT b
  ·rw [hb] at h; cases h
  ·rfl
theorem txo_in {i : List VI} (h : insOk i = true) {x : Nat} (hx : x < i.length) : 0 ≤ (viAt i x).n ∧ (viAt i x).n < 64 ∧ 0 ≤ (viAt i x).b ∧ (viAt i x).b < 4 ∧ (viAt i x).g.length ≤ 12 := by
 obtain ⟨_, h2, h3, h4⟩ := inAt_iff.1 (insOk_at h hx)
 obtain ⟨h5, h6, h7⟩ := witOk_iff.1 h4
 exact ⟨h2, h3, h5, h6, h7⟩
theorem txo_ou {O : OO} {o : List VO} (h : ousOk O o = true) {x : Nat} (hx : x < o.length) : 0 ≤ (voAt o x).a ∧ (voAt o x).a ≤ 1125899906842624 ∧ lkOk O (voAt o x).b = true := by
 obtain ⟨h1, h2⟩ := ouAt_iff.1 (ousOk_at h hx)
 obtain ⟨h3, h4⟩ := coinT_iff.1 (addT_coin h1)
 exact ⟨h3, h4, h2⟩
theorem mem_viAt {l : List VI} {v : VI} (h : v ∈ l) : ∃ x, x < l.length ∧ viAt l x = v := by
 obtain ⟨x, hx, rfl⟩ := List.getElem_of_mem h
 exact ⟨x, hx, by unfold viAt; rw [List.getD_eq_getElem?_getD, List.getElem?_eq_getElem hx]; rfl⟩
theorem mem_voAt {l : List VO} {v : VO} (h : v ∈ l) : ∃ x, x < l.length ∧ voAt l x = v := by
 obtain ⟨x, hx, rfl⟩ := List.getElem_of_mem h
 exact ⟨x, hx, by unfold voAt; rw [List.getD_eq_getElem?_getD, List.getElem?_eq_getElem hx]; rfl⟩
theorem plI_len {O : OO} {R : OB} (hr : R = bO) {i : List VI} (h : i.all (inW O) = true) (hi : i.length ≤ 64) (j : Nat) : (plI R i j).length ≤ 2698 := by
 have a := rowT_len hr (i.length : Int)
 have d := flat_len (g := inP R) (c := 42) (l := i.take j) fun v hv => by
  have h1 := (inW_iff.1 (List.all_eq_true.1 h v (List.mem_of_mem_take hv))).1
  have b := rowT_len hr v.n
  unfold inP
  rw [zlA]; omega
 rw [List.length_take] at d
 unfold plI
 rw [zlA]; omega
theorem ouP_len {O : OO} {R : OB} (hr : R = bO) {v : VO} (h : lkOk O v.b = true) : (ouP R v).length ≤ 566 := by
 have a := rowT_len hr v.a
 have b := rowT_len hr ((lkB R v.b).length : Int)
 have c := lkB_len hr h
 unfold ouP
 simp only [zlA]; omega
theorem plO_len {O : OO} {R : OB} (hr : R = bO) {i : List VI} {o : List VO} (h : i.all (inW O) = true) (hi : i.length ≤ 64) (ho : o.length ≤ 64) (hk : ousOk O o = true) (j : Nat) : (plO R i o j).length ≤ 38932 := by
 have a := plI_len hr h hi i.length
 have b := rowT_len hr (o.length : Int)
 have d := flat_len (g := ouP R) (c := 566) (l := o.take j) fun v hv => by
  obtain ⟨x, hx, rfl⟩ := mem_voAt (List.mem_of_mem_take hv)
  exact ouP_len hr (txo_ou hk hx).2.2
 rw [List.length_take] at d
 unfold plO
 simp only [zlA]; omega
theorem plB_len {O : OO} {R : OB} (hr : R = bO) {i : List VI} {o : List VO} {n : Int} (h : i.all (inW O) = true) (hk : txOk O i o n = true) : (plB R i o n).length ≤ 38942 := by
 obtain ⟨k1, k2, k3, k4, k5, k6⟩ := txOk_iff.1 hk
 have a := plO_len hr h k2 k3 k6 o.length
 have b := rowT_len hr n
 unfold plB
 rw [zlA]; omega
theorem siB_len (g : List Int) : (siB g).length = 16 := rfl
theorem wiB_len {R : OB} (hr : R = bO) {v : VI} (h : v.g.length ≤ 12) : (wiB R v).length ≤ 220 := by
 have a := rowT_len hr v.b
 have b := rowT_len hr (v.g.length : Int)
 have d := flat_len (g := siB) (c := 16) (l := v.g) fun x _ => Nat.le_of_eq (siB_len x)
 have e := u64B_len v.s
 unfold wiB
 simp only [zlA]; omega
theorem txJ_len {O : OO} {R : OB} (hr : R = bO) {i : List VI} {o : List VO} {n : Int} (h : i.all (inW O) = true) (hk : txOk O i o n = true) (j : Nat) : (txJ R i o n j).length ≤ 53022 := by
 obtain ⟨k1, k2, k3, k4, k5, k6⟩ := txOk_iff.1 hk
 have a := plB_len hr h hk
 have d := flat_len (g := wiB R) (c := 220) (l := i.take j) fun v hv => by
  obtain ⟨x, hx, rfl⟩ := mem_viAt (List.mem_of_mem_take hv)
  exact wiB_len hr (txo_in k5 hx).2.2.2.2
 rw [List.length_take] at d
 unfold txJ
 rw [zlA]; omega
theorem txK_len {O : OO} {R : OB} (hr : R = bO) {i : List VI} {o : List VO} {n : Int} (h : i.all (inW O) = true) (hk : txOk O i o n = true) {j : Nat} (hj : j < i.length) (q : Nat) : (txK R i o n j q).length ≤ 53234 := by
 have a := txJ_len hr h hk j
 have b := rowT_len hr (viAt i j).b
 have c := rowT_len hr ((viAt i j).g.length : Int)
 have w := (txo_in (txOk_iff.1 hk).2.2.2.2.1 hj).2.2.2.2
 have d := flat_len (g := siB) (c := 16) (l := (viAt i j).g.take q) fun x _ => Nat.le_of_eq (siB_len x)
 rw [List.length_take] at d
 unfold txK
 simp only [zlA]; omega
theorem plI_snoc (R : OB) {i : List VI} {x : Nat} (h : x < i.length) : plI R i (x + 1) = plI R i x ++ (viAt i x).h ++ R.row (viAt i x).n := by
 unfold plI
 rw [flat_snoc0 (inP R) ⟨[], 0, 0, [], 0⟩ h]
 show _ ++ (_ ++ ((viAt i x).h ++ _)) = _
 simp only [List.append_assoc]; rfl
theorem plO_snoc (R : OB) (i : List VI) {o : List VO} {x : Nat} (h : x < o.length) : plO R i o (x + 1) = plO R i o x ++ R.row (voAt o x).a ++ R.row ((lkB R (voAt o x).b).length : Int) ++ lkB R (voAt o x).b := by
 unfold plO
 rw [flat_snoc0 (ouP R) ⟨0, []⟩ h]
 show _ ++ (_ ++ (R.row (voAt o x).a ++ R.row ((lkB R (voAt o x).b).length : Int) ++ lkB R (voAt o x).b)) = _
 simp only [List.append_assoc]
theorem txJ_snoc (R : OB) {i : List VI} (o : List VO) (n : Int) {x : Nat} (h : x < i.length) : txJ R i o n (x + 1) = txK R i o n x (viN i x) ++ u64B (viAt i x).s := by
 unfold txK viN
 rw [List.take_length]
 unfold txJ
 rw [flat_snoc0 (wiB R) ⟨[], 0, 0, [], 0⟩ h]
 show _ ++ (_ ++ wiB R (viAt i x)) = _
 unfold wiB
 simp only [List.append_assoc]
theorem txK_snoc (R : OB) (i : List VI) (o : List VO) (n : Int) {x q : Nat} (h : q < viN i x) : txK R i o n x (q + 1) = txK R i o n x q ++ u64B (((viAt i x).g.getD q []).getD 0 0) ++ u64B (((viAt i x).g.getD q []).getD 1 0) := by
 unfold txK
 rw [flat_snoc0 siB [] h]
 show _ ++ (_ ++ (u64B _ ++ u64B _)) = _
 simp only [List.append_assoc]
end Go.Proofs.Ytaohpdhhbnempaa
