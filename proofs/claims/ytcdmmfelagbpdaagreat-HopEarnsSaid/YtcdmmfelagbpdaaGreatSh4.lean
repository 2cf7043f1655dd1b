/- Sheet: which states are right (printed by genSh.py; VCs by VcTool). -/
import Derived.Test.YtcdmmfelagbpdaaGreatSh3
namespace Go.Proofs.YtcdmmfelagbpdaaGreat
open Go.RowKit Go.Lib Ckp Cfd Cpd Sx
set_option linter.unusedVariables false
set_option linter.unusedSimpArgs false
set_option maxRecDepth 1000000
def leastC (c : Nat → Int) (k : Int) : Int := bif iEq k 0 then c 48 else c 54
def xAt (l : List (List Int)) (i j : Nat) : Int := (l.getD i []).getD j 0
def badK (O : OO) (c : Nat → Int) (l : List (List Int)) (i : Nat) : Bool :=
 bif (bif !(fineO O (xAt l i 0) (xAt l i 1) (xAt l i 2) (xAt l i 3) (xAt l i 4)) then true else iLt (xAt l i 2) (leastC c (IntKind.i64.wrap (1 - xAt l i 0)))) then true else
 bif iLt 0 (i : Int) then iLe 0 (orZ (cmpI (xAt l (i - 1) 0) (xAt l i 0)) (cmpI (xAt l (i - 1) 1) (xAt l i 1))) else false
def allB (O : OO) (c : Nat → Int) (l : List (List Int)) (n : Nat) : Bool := (List.range n).all fun i => !(badK O c l i)
def offBad (c : Nat → Int) (l : List (List Int)) (i : Int) (a b : Int) : Bool := bif iLt a (offN i l) then true else iLt b (offM i l)
def rightO (O : OO) (c : Nat → Int) (no h0 h1 rt : Int) (l : List (List Int)) : Bool :=
 bif (bif (bif (bif (bif iBne (fitO O c) 0 then true else !(allW 0 1048576 [no])) then true else !(allW 0 1125899906842624 [h0, h1])) then true else !(allW 0 1000 [rt])) then true else iLt 16 (l.length : Int)) then false else
 bif !(allB O c l l.length) then false else
 bif offBad c l 0 (c 47) (c 49) then false else
 bif offBad c l 1 (c 53) (c 55) then false else
 bif iBeq (totP h0 h1 l) (c 33) then iLe (costO rt l.length) (haveO h0 h1 (c 56)) else false
def spS13 (O : OO) (Y : OY) (f : FuncId) : Option Sx.Spec := match f with
 | 33 => some (pspec [.agg [.v, .v, .v, .roS [.i64, .i64, .i64, .u64, .i64], .v], .v, .v] false (g_find O Y))
 | 35 => some (pspec [.v, .agg [.v, .v, .v, .roS [.i64, .i64, .i64, .u64, .i64], .v], .v] false (g_free O Y))
 | f => spS12 O Y f
theorem spS13_ok (I : Sx.Interp) (O : OO) (hO : O = oo) (Y : OY) (hY : Y = yO O) : ∀ f s, spS13 O Y f = some s → Sx.SpecOK I Tryz.prog f s := by
 intro f s h
 unfold spS13 at h
 split at h
 · cases h; exact ok_find I O hO Y hY
 · cases h; exact ok_free I O hO Y hY
 ·exact spS12_ok I O hO Y hY _ s h
theorem allB_snoc (O : OO) (c : Nat → Int) (l : List (List Int)) (x : Nat) : allB O c l (x + 1) = (allB O c l x && !(badK O c l x)) := by
 unfold allB
 rw [List.range_succ, List.all_append]
 simp
theorem allB_bad {O : OO} {c : Nat → Int} {l : List (List Int)} {x : Nat} (h : x < l.length) (hb : badK O c l x = true) : allB O c l l.length = false := by
 unfold allB
 rw [Bool.eq_false_iff]
 intro hc
 have := List.all_eq_true.1 hc x (List.mem_range.2 h)
 rw [hb] at this
 cases this
theorem cnd_at {l : List (List Int)} (h : cnd l = true) {x : Nat} (hx : x < l.length) : inU ((l.getD x []).getD 3 0) 18446744073709551616 = true := by
 have e : l.getD x [] = l[x] := by rw [List.getD_eq_getElem?_getD, List.getElem?_eq_getElem hx]; rfl
 rw [e]
 have := List.all_eq_true.1 h _ (List.getElem_mem hx)
 rw [Bool.and_eq_true] at this
 exact this.1
theorem five {x : List Int} (h : x.length = 5) : x = [x.getD 0 0, x.getD 1 0, x.getD 2 0, x.getD 3 0, x.getD 4 0] := by
 match x, h with
 | [a, b, c, d, e], _ => rfl
theorem cnd_five {l : List (List Int)} (h : cnd l = true) {x : Nat} (hx : x < l.length) : [(l.getD x []).getD 0 0, (l.getD x []).getD 1 0, (l.getD x []).getD 2 0, (l.getD x []).getD 3 0, (l.getD x []).getD 4 0] = l.getD x [] := by
 have e : l.getD x [] = l[x] := by rw [List.getD_eq_getElem?_getD, List.getElem?_eq_getElem hx]; rfl
 rw [e]
 have := List.all_eq_true.1 h _ (List.getElem_mem hx)
 rw [Bool.and_eq_true] at this
 exact (five (Nat.eq_of_beq_eq_true this.2)).symm
theorem allW_one {lo hi n : Int} : allW lo hi [n] = true ↔ lo ≤ n ∧ n ≤ hi := by
 unfold allW outB
 simp only [List.all_cons, List.all_nil, Bool.and_true, Bool.not_eq_true']
 cases a : iLt n lo with
 | true => simp only [Sx.Bz, Sx.Cont.n] at a; simp only [cond_true]; constructor
           · intro h; cases h
           · intro h; omega
 | false => simp only [Sx.Bz, Sx.Cont.n] at a; simp only [cond_false, Sx.Bz, Sx.Cont.n]; omega
theorem fine_all {O : OO} {f i a q e : Int} : fineO O f i a q e = true ↔ (0 ≤ f ∧ f ≤ 1) ∧ (1 ≤ i ∧ i ≤ 1048576) ∧ (1 ≤ a ∧ a ≤ 1125899906842624) ∧ (1 ≤ e ∧ e ≤ 1048576) ∧ O.pright q = true ∧ q ≠ 1 := by
 unfold fineO
 rw [← allW_one (n := f), ← allW_one (n := i), ← allW_one (n := a), ← allW_one (n := e), show (q ≠ 1) = (iBne q 1 = true) from (iBne_t q 1).symm]
 cases allW 0 1 [f] <;> cases allW 1 1048576 [i] <;> cases allW 1 1125899906842624 [a] <;> cases allW 1 1048576 [e] <;> cases O.pright q <;> cases iBne q 1 <;> simp
theorem fit_op {O : OO} {c : Nat → Int} (hc : chB (chA c) = true) (h : iBne (fitO O c) 0 = false) : c 56 = 0 ∨ c 56 = 1 := by
 refine opX_no (chA_op hc) ?_
 cases ho : opX (c 56) with
 | false => rfl
 | true =>
  unfold fitO at h
  rw [ho] at h
  revert h
  cases iLt (c 33) 1 <;> cases iLt 1125899906842624 (c 33) <;> cases iLt (c 32) 0 <;> cases iLe 64 (c 32) <;> exact fun h => absurd (show iBne (1 : Int) 0 = false from h) (by decide)
theorem least0 {c : Nat → Int} {k : Int} (e : iEq k (iOf 0) = true) : leastC c k = c 48 := by
 have : k = 0 := of_decide_eq_true e
 subst this
 rfl
theorem least1 {c : Nat → Int} {k : Int} (e : iEq k (iOf (nAdd 0 1)) = true) : leastC c k = c 54 := by
 have : k = 1 := of_decide_eq_true e
 subst this
 rfl
def g_sright (O : OO) (Y : OY) (ds : List Dt) : Option (Bool × List Bool × (List Bool → Post)) := match ds with
 | [.v (.agg ch), .node [.v (.int .i64 no), .v (.int .i64 h0), .v (.int .i64 h1), .structs l, .v (.int .i64 rt)]] => some ((chB ch) && (Nat.ble l.length 1000) && (cnd l), [], fun _ => ⟨[.v (.bool (rightO O (cz ch) no h0 h1 rt l))], []⟩)
 | _ => none
set_option maxHeartbeats 4000000 in
theorem vc_sright (O : OO) (Y : OY) (c : Nat → Int) (no h0 h1 rt : Int) (l : List (List Int)) (F : FO O) (hy : Y = yO O) (hc : chB (chA c) = true) (g0 : Nat.ble l.length 1000 = true) (g1 : cnd l = true) (ec : cz (chA c) = c) :
 If (chB (chA c)) (If (iBne (fitO O (cz (chA c))) 0) (Value.bool false = Value.bool (rightO O c no h0 h1 rt l) ∧ True ∧ True) (If (!allW 0 1048576 [no]) (Value.bool false =
  Value.bool (rightO O c no h0 h1 rt l) ∧ True ∧ True) (If (!allW 0 1125899906842624 [h0, h1]) (Value.bool false = Value.bool (rightO O c no h0 h1 rt l) ∧ True ∧ True) (If (!allW 0
  1000 [rt]) (Value.bool false = Value.bool (rightO O c no h0 h1 rt l) ∧ True ∧ True) (If (iLt 16 (iOf (Cont.structs [.i64, .i64, .i64, .u64, .i64] l).n)) (Value.bool false =
  Value.bool (rightO O c no h0 h1 rt l) ∧ True ∧ True) ((∃ (x : Nat), (x ≤ l.length ∧ allB O c l x = true) ∧ (Value.int .i64 0 = Value.int .i64 (iOf x) ∧ Value.int .i64 (iOf l.length)
  = Value.int .i64 (iOf l.length) ∧ True) ∧ (Value.int .i64 no = Value.int .i64 no ∧ Value.int .i64 h0 = Value.int .i64 h0 ∧ Value.int .i64 h1 = Value.int .i64 h1 ∧ Value.int .i64 rt
  = Value.int .i64 rt) ∧ chA c = chA c ∧ Cont.structs [.i64, .i64, .i64, .u64, .i64] l = Cont.structs [.i64, .i64, .i64, .u64, .i64] l ∧ True) ∧ ∀ (x : Nat), x ≤ l.length ∧ allB O c l
  x = true → If (iLt (iOf x) (iOf (Cont.structs [.i64, .i64, .i64, .u64, .i64] l).n)) (If (iLe 0 (iOf x) && (iOf x).toNat.blt l.length) (If (true && Nat.beq 5 5 && (iOf x).toNat.blt
  l.length) (If (inU ((l.getD (iOf x).toNat []).getD 3 0) 18446744073709551616) (If (!fineO O ((l.getD (iOf x).toNat []).getD 0 0) ((l.getD (iOf x).toNat []).getD 1 0) ((l.getD (iOf
  x).toNat []).getD 2 0) ((l.getD (iOf x).toNat []).getD 3 0) ((l.getD (iOf x).toNat []).getD 4 0)) (Value.bool false = Value.bool (rightO O c no h0 h1 rt l) ∧ True ∧ True) (If (iEq
  (IntKind.i64.wrap (iSub 1 ((l.getD (iOf x).toNat []).getD 0 0))) (iOf 0)) (If (iLt ((l.getD (iOf x).toNat []).getD (nAdd (nAdd 0 1) 1) 0) (c 48)) (Value.bool false = Value.bool
  (rightO O c no h0 h1 rt l) ∧ True ∧ True) (If (iLt 0 (iOf x)) (If (iLe 0 (IntKind.i64.wrap (iSub (iOf x) 1)) && (IntKind.i64.wrap (iSub (iOf x) 1)).toNat.blt l.length) (If (true &&
  Nat.beq 5 5 && (IntKind.i64.wrap (iSub (iOf x) 1)).toNat.blt l.length) (If (inU ((l.getD (IntKind.i64.wrap (iSub (iOf x) 1)).toNat []).getD 3 0) 18446744073709551616 && inU ((l.getD
  (iOf x).toNat []).getD 3 0) 18446744073709551616) (If (iLe 0 (orZ (cmpI ((l.getD (IntKind.i64.wrap (iSub (iOf x) 1)).toNat []).getD 0 0) ((l.getD (iOf x).toNat []).getD 0 0)) (cmpI
  ((l.getD (IntKind.i64.wrap (iSub (iOf x) 1)).toNat []).getD (nAdd 0 1) 0) ((l.getD (iOf x).toNat []).getD (nAdd 0 1) 0)))) (Value.bool false = Value.bool (rightO O c no h0 h1 rt l)
  ∧ True ∧ True) (∃ (x' : Nat), (x' ≤ l.length ∧ allB O c l x' = true) ∧ (nSub l.length x').succ ≤ nSub l.length x ∧ (Value.int .i64 (IntKind.i64.wrap (iAdd (iOf x) 1)) = Value.int
  .i64 (iOf x') ∧ Value.int .i64 (iOf l.length) = Value.int .i64 (iOf l.length) ∧ True) ∧ (Value.int .i64 no = Value.int .i64 no ∧ Value.int .i64 h0 = Value.int .i64 h0 ∧ Value.int
  .i64 h1 = Value.int .i64 h1 ∧ Value.int .i64 rt = Value.int .i64 rt) ∧ chA c = chA c ∧ Cont.structs [.i64, .i64, .i64, .u64, .i64] l = Cont.structs [.i64, .i64, .i64, .u64, .i64] l
  ∧ True)) False) False) False) (∃ (x' : Nat), (x' ≤ l.length ∧ allB O c l x' = true) ∧ (nSub l.length x').succ ≤ nSub l.length x ∧ (Value.int .i64 (IntKind.i64.wrap (iAdd (iOf x) 1))
  = Value.int .i64 (iOf x') ∧ Value.int .i64 (iOf l.length) = Value.int .i64 (iOf l.length) ∧ True) ∧ (Value.int .i64 no = Value.int .i64 no ∧ Value.int .i64 h0 = Value.int .i64 h0 ∧
  Value.int .i64 h1 = Value.int .i64 h1 ∧ Value.int .i64 rt = Value.int .i64 rt) ∧ chA c = chA c ∧ Cont.structs [.i64, .i64, .i64, .u64, .i64] l = Cont.structs [.i64, .i64, .i64,
  .u64, .i64] l ∧ True))) (If (iEq (IntKind.i64.wrap (iSub 1 ((l.getD (iOf x).toNat []).getD 0 0))) (iOf (nAdd 0 1))) (If (iLt ((l.getD (iOf x).toNat []).getD (nAdd (nAdd 0 1) 1) 0)
  (c 54)) (Value.bool false = Value.bool (rightO O c no h0 h1 rt l) ∧ True ∧ True) (If (iLt 0 (iOf x)) (If (iLe 0 (IntKind.i64.wrap (iSub (iOf x) 1)) && (IntKind.i64.wrap (iSub (iOf
  x) 1)).toNat.blt l.length) (If (true && Nat.beq 5 5 && (IntKind.i64.wrap (iSub (iOf x) 1)).toNat.blt l.length) (If (inU ((l.getD (IntKind.i64.wrap (iSub (iOf x) 1)).toNat []).getD 3
  0) 18446744073709551616 && inU ((l.getD (iOf x).toNat []).getD 3 0) 18446744073709551616) (If (iLe 0 (orZ (cmpI ((l.getD (IntKind.i64.wrap (iSub (iOf x) 1)).toNat []).getD 0 0)
  ((l.getD (iOf x).toNat []).getD 0 0)) (cmpI ((l.getD (IntKind.i64.wrap (iSub (iOf x) 1)).toNat []).getD (nAdd 0 1) 0) ((l.getD (iOf x).toNat []).getD (nAdd 0 1) 0)))) (Value.bool
  false = Value.bool (rightO O c no h0 h1 rt l) ∧ True ∧ True) (∃ (x' : Nat), (x' ≤ l.length ∧ allB O c l x' = true) ∧ (nSub l.length x').succ ≤ nSub l.length x ∧ (Value.int .i64
  (IntKind.i64.wrap (iAdd (iOf x) 1)) = Value.int .i64 (iOf x') ∧ Value.int .i64 (iOf l.length) = Value.int .i64 (iOf l.length) ∧ True) ∧ (Value.int .i64 no = Value.int .i64 no ∧
  Value.int .i64 h0 = Value.int .i64 h0 ∧ Value.int .i64 h1 = Value.int .i64 h1 ∧ Value.int .i64 rt = Value.int .i64 rt) ∧ chA c = chA c ∧ Cont.structs [.i64, .i64, .i64, .u64, .i64]
  l = Cont.structs [.i64, .i64, .i64, .u64, .i64] l ∧ True)) False) False) False) (∃ (x' : Nat), (x' ≤ l.length ∧ allB O c l x' = true) ∧ (nSub l.length x').succ ≤ nSub l.length x ∧
  (Value.int .i64 (IntKind.i64.wrap (iAdd (iOf x) 1)) = Value.int .i64 (iOf x') ∧ Value.int .i64 (iOf l.length) = Value.int .i64 (iOf l.length) ∧ True) ∧ (Value.int .i64 no =
  Value.int .i64 no ∧ Value.int .i64 h0 = Value.int .i64 h0 ∧ Value.int .i64 h1 = Value.int .i64 h1 ∧ Value.int .i64 rt = Value.int .i64 rt) ∧ chA c = chA c ∧ Cont.structs [.i64,
  .i64, .i64, .u64, .i64] l = Cont.structs [.i64, .i64, .i64, .u64, .i64] l ∧ True))) False))) False) False) False) (If (l.length.ble 1000) (If (iLt (c 47) (offN 0 l)) (Value.bool
  false = Value.bool (rightO O c no h0 h1 rt l) ∧ True ∧ True) (If (iLt (c 49) (offM 0 l)) (Value.bool false = Value.bool (rightO O c no h0 h1 rt l) ∧ True ∧ True) (If (l.length.ble
  1000) (If (iLt (c 53) (offN (IntKind.i64.wrap (iAdd 0 1)) l)) (Value.bool false = Value.bool (rightO O c no h0 h1 rt l) ∧ True ∧ True) (If (iLt (c 55) (offM (IntKind.i64.wrap (iAdd
  0 1)) l)) (Value.bool false = Value.bool (rightO O c no h0 h1 rt l) ∧ True ∧ True) (If (l.length.ble 1000) (If (iBeq (totP h0 h1 l) (c 33)) (If (iEq (c 56) (iOf 0)) (If (chB (chA c)
  && l.length.ble 1000) (Value.bool (iLe (costO rt (iOf l.length)) h0) = Value.bool (rightO O c no h0 h1 rt l) ∧ True ∧ True) False) (If (iEq (c 56) (iOf (nAdd 0 1))) (If (chB (chA c)
  && l.length.ble 1000) (Value.bool (iLe (costO rt (iOf l.length)) h1) = Value.bool (rightO O c no h0 h1 rt l) ∧ True ∧ True) False) False)) (Value.bool false = Value.bool (rightO O c
  no h0 h1 rt l) ∧ True ∧ True)) False))) False))) False))))))) False := by
 simp only [ec, iOf, Sx.Cont.n]
 have hm := Nat.le_of_ble_eq_true g0
 refine Sx.if_true hc (Sx.if_both (fun a => ⟨by unfold rightO; rw [a]; rfl, (by first | rfl | trivial)⟩) (fun a1 => Sx.if_both (fun a => ⟨by unfold rightO; rw [a1, a]; rfl, (by first | rfl | trivial)⟩) (fun a2 => Sx.if_both (fun a => ⟨by unfold rightO; rw [a1, a2, a]; rfl, (by first | rfl | trivial)⟩) (fun a3 => Sx.if_both (fun a => ⟨by unfold rightO; rw [a1, a2, a3, a]; rfl, (by first | rfl | trivial)⟩) (fun a4 => Sx.if_both (fun a => ⟨by unfold rightO; rw [a1, a2, a3, a4, a]; rfl, (by first | rfl | trivial)⟩) (fun a5 => ?_))))))
 have hR : rightO O c no h0 h1 rt l = (bif !(allB O c l l.length) then false else bif offBad c l 0 (c 47) (c 49) then false else bif offBad c l 1 (c 53) (c 55) then false else bif iBeq (totP h0 h1 l) (c 33) then iLe (costO rt l.length) (haveO h0 h1 (c 56)) else false) := by
  unfold rightO; rw [a1, a2, a3, a4, a5]; rfl
 refine ⟨⟨0, ⟨Nat.zero_le _, rfl⟩, ⟨rfl, (by first | rfl | trivial)⟩, (by first | rfl | trivial)⟩, fun x hx => Sx.if_both (fun h => ?_) (fun h => ?_)⟩
 ·simp only [Sx.Bz, Sx.Cont.n] at h
  have hlt : x < l.length := by omega
  have hbl : x.blt l.length = true := by rw [Nat.blt_eq]; exact hlt
  refine Sx.if_true (by simp only [Sx.Bz, Sx.Cont.n, hbl, and_true, Int.toNat_natCast]; omega) (Sx.if_true (by simp only [hbl, Int.toNat_natCast]; rfl) ?_)
  simp only [Int.toNat_natCast]
  refine Sx.if_true (cnd_at g1 hlt) ?_
  have hbad : badK O c l x = true → Value.bool false = Value.bool (rightO O c no h0 h1 rt l) ∧ True ∧ True := fun hb => ⟨by rw [hR, allB_bad hlt hb]; rfl, trivial, trivial⟩
  have hnext : badK O c l x = false → allB O c l (x + 1) = true := fun hb => by rw [allB_snoc, hx.2, hb]; rfl
  refine Sx.if_both (fun f => hbad ?_) (fun f => ?_)
  ·unfold badK
   rw [show (!fineO O (xAt l x 0) (xAt l x 1) (xAt l x 2) (xAt l x 3) (xAt l x 4)) = true from f]; rfl
  ·have fn : (!fineO O (xAt l x 0) (xAt l x 1) (xAt l x 2) (xAt l x 3) (xAt l x 4)) = false := f
   refine Sx.if_both (fun e => ?_) (fun e => Sx.if_both (fun e2 => ?_) (fun e2 => ?_))
   ·have ll : leastC c (IntKind.i64.wrap (1 - xAt l x 0)) = c 48 := least0 e
    ·skip
     refine Sx.if_both (fun g => hbad (by unfold badK; rw [fn, ll]; rw [show iLt (xAt l x 2) (c 48) = true from g]; rfl)) (fun g => Sx.if_both (fun p => ?_) (fun p => ?_))
     ·have hp : 0 < x := by simp only [Sx.Bz, Sx.Cont.n] at p; omega
      have ew : IntKind.i64.wrap ((x : Int) - 1) = ((x - 1 : Nat) : Int) := by rw [IntWalk.i64_in _ (by omega)]; omega
      have hb2 : (x - 1).blt l.length = true := by rw [Nat.blt_eq]; omega
      simp only [iSub, ew, Int.toNat_natCast]
      refine Sx.if_true (by simp only [hb2, Sx.Bz, Sx.Cont.n, and_true]; omega) (Sx.if_true (by rw [hb2]; rfl) (Sx.if_true (by rw [cnd_at g1 (show x - 1 < l.length by omega), cnd_at g1 hlt]; rfl) (Sx.if_both (fun q => hbad ?_) (fun q => ?_))))
      ·unfold badK
       rw [fn, ll, show iLt (xAt l x 2) (c 48) = false from g, show iLt 0 (x : Int) = true from p]
       exact q
      ·have hb : badK O c l x = false := by
        unfold badK
        rw [fn, ll, show iLt (xAt l x 2) (c 48) = false from g, show iLt 0 (x : Int) = true from p]
        exact q
       exact ⟨x + 1, ⟨hlt, hnext hb⟩, by simp only [nSub]; omega, ⟨by simp only [iAdd]; rw [wrap_succ (by omega)], (by first | rfl | trivial)⟩, (by first | rfl | trivial)⟩
     ·have hb : badK O c l x = false := by
       unfold badK
       rw [fn, ll, show iLt (xAt l x 2) (c 48) = false from g, show iLt 0 (x : Int) = false from p]
       rfl
      exact ⟨x + 1, ⟨hlt, hnext hb⟩, by simp only [nSub]; omega, ⟨by simp only [iAdd]; rw [wrap_succ (by omega)], (by first | rfl | trivial)⟩, (by first | rfl | trivial)⟩
   ·have ll : leastC c (IntKind.i64.wrap (1 - xAt l x 0)) = c 54 := least1 e2
    ·skip
     refine Sx.if_both (fun g => hbad (by unfold badK; rw [fn, ll]; rw [show iLt (xAt l x 2) (c 54) = true from g]; rfl)) (fun g => Sx.if_both (fun p => ?_) (fun p => ?_))
     ·have hp : 0 < x := by simp only [Sx.Bz, Sx.Cont.n] at p; omega
      have ew : IntKind.i64.wrap ((x : Int) - 1) = ((x - 1 : Nat) : Int) := by rw [IntWalk.i64_in _ (by omega)]; omega
      have hb2 : (x - 1).blt l.length = true := by rw [Nat.blt_eq]; omega
      simp only [iSub, ew, Int.toNat_natCast]
      refine Sx.if_true (by simp only [hb2, Sx.Bz, Sx.Cont.n, and_true]; omega) (Sx.if_true (by rw [hb2]; rfl) (Sx.if_true (by rw [cnd_at g1 (show x - 1 < l.length by omega), cnd_at g1 hlt]; rfl) (Sx.if_both (fun q => hbad ?_) (fun q => ?_))))
      ·unfold badK
       rw [fn, ll, show iLt (xAt l x 2) (c 54) = false from g, show iLt 0 (x : Int) = true from p]
       exact q
      ·have hb : badK O c l x = false := by
        unfold badK
        rw [fn, ll, show iLt (xAt l x 2) (c 54) = false from g, show iLt 0 (x : Int) = true from p]
        exact q
       exact ⟨x + 1, ⟨hlt, hnext hb⟩, by simp only [nSub]; omega, ⟨by simp only [iAdd]; rw [wrap_succ (by omega)], (by first | rfl | trivial)⟩, (by first | rfl | trivial)⟩
     ·have hb : badK O c l x = false := by
       unfold badK
       rw [fn, ll, show iLt (xAt l x 2) (c 54) = false from g, show iLt 0 (x : Int) = false from p]
       rfl
      exact ⟨x + 1, ⟨hlt, hnext hb⟩, by simp only [nSub]; omega, ⟨by simp only [iAdd]; rw [wrap_succ (by omega)], (by first | rfl | trivial)⟩, (by first | rfl | trivial)⟩
   ·exfalso
    have ff : fineO O (xAt l x 0) (xAt l x 1) (xAt l x 2) (xAt l x 3) (xAt l x 4) = true := by simpa using fn
    obtain ⟨⟨f1, f2⟩, _⟩ := fine_all.1 ff
    have g1' : ¬ IntKind.i64.wrap (1 - xAt l x 0) = 0 := of_decide_eq_false e
    have g2' : ¬ IntKind.i64.wrap (1 - xAt l x 0) = 1 := of_decide_eq_false e2
    rw [IntWalk.i64_in _ (by omega)] at g1' g2'
    omega
 ·simp only [Sx.Bz, Sx.Cont.n] at h
  have hx2 : x = l.length := by omega
  subst hx2
  rw [hx.2] at hR
  refine Sx.if_true g0 (Sx.if_both (fun b => ⟨by rw [hR]; unfold offBad; rw [b]; rfl, (by first | rfl | trivial)⟩) (fun b1 => Sx.if_both (fun b => ⟨by rw [hR]; unfold offBad; rw [b1, b]; rfl, (by first | rfl | trivial)⟩) (fun b2 => Sx.if_true g0 (Sx.if_both (fun b => ⟨?_, (by first | rfl | trivial)⟩) (fun b3 => Sx.if_both (fun b => ⟨?_, (by first | rfl | trivial)⟩) (fun b4 => Sx.if_true g0 ?_))))))
  ·rw [hR]
   unfold offBad
   rw [b1, b2, show iLt (c 53) (offN 1 l) = true from b]; rfl
  ·rw [hR]
   unfold offBad
   rw [b1, b2, show iLt (c 53) (offN 1 l) = false from b3, show iLt (c 55) (offM 1 l) = true from b]; rfl
  ·have hR2 : rightO O c no h0 h1 rt l = (bif iBeq (totP h0 h1 l) (c 33) then iLe (costO rt l.length) (haveO h0 h1 (c 56)) else false) := by
    rw [hR]
    unfold offBad
    rw [b1, b2, show iLt (c 53) (offN 1 l) = false from b3, show iLt (c 55) (offM 1 l) = false from b4]; rfl
   refine Sx.if_both (fun t => Sx.if_both (fun e => Sx.if_true (by rw [hc, g0]; rfl) ⟨by rw [hR2, t, have0 e]; rfl, (by first | rfl | trivial)⟩) (fun e => ?_)) (fun t => ⟨by rw [hR2, t]; rfl, (by first | rfl | trivial)⟩)
   have e1 : iEq (c 56) (iOf (nAdd 0 1)) = true := by
    rcases fit_op hc a1 with h | h
    ·have : ¬ c 56 = 0 := of_decide_eq_false e
     exact absurd h this
    ·rw [h]; rfl
   exact Sx.if_true e1 (Sx.if_true (by rw [hc, g0]; rfl) ⟨by rw [hR2, t, have1 e1]; rfl, (by first | rfl | trivial)⟩)
theorem wpc_sright (O : OO) (Y : OY) (c : Nat → Int) (no h0 h1 rt : Int) (l : List (List Int)) (F : FO O) (hy : Y = yO O) (hc : chB (chA c) = true) (g0 : Nat.ble l.length 1000 = true) (g1 : cnd l = true) (ec : cz (chA c) = c) : wpcI Tryz.prog (spS13 O Y) Tryz.f30.ntmps [⟨Nat, [2, 3, 46, 47], [], fun B j => [(48, .v (.int .i64 (j : Int)))], fun B j => [], fun j => j ≤ l.length ∧ allB O c l j = true, fun j => l.length - j, 0⟩, Ann.walk 3] (bodyOf Tryz.f30) 0 64 (envP (mks [.v, .agg [.v, .v, .v, .roS [.i64, .i64, .i64, .u64, .i64], .v]] [.v (.agg (chA c)), .node [.v (.int .i64 no), .v (.int .i64 h0), .v (.int .i64 h1), .structs l, .v (.int .i64 rt)]] 0).1 0) (mks [.v, .agg [.v, .v, .v, .roS [.i64, .i64, .i64, .u64, .i64], .v]] [.v (.agg (chA c)), .node [.v (.int .i64 no), .v (.int .i64 h0), .v (.int .i64 h1), .structs l, .v (.int .i64 rt)]] 0).2 (retP Tryz.prog Tryz.f30.results.toList 1 (⟨[.v (.bool (rightO O c no h0 h1 rt l))], []⟩ : Post)) :=
 Eq.mpr (by kernel_rfl) (vc_sright O Y c no h0 h1 rt l F hy hc g0 g1 ec)
theorem ok_sright (I : Sx.Interp) (O : OO) (hO : O = oo) (Y : OY) (hY : Y = yO O) : Sx.SpecOK I Tryz.prog 30 (pspec [.v, .agg [.v, .v, .v, .roS [.i64, .i64, .i64, .u64, .i64], .v]] false (g_sright O Y)) := by
 refine spec_patI (spS13_ok I O hO Y hY) (by kernel_rfl) (fun ds => match ds with | [.v (.agg ch), .node [.v (.int .i64 no), .v (.int .i64 h0), .v (.int .i64 h1), .structs l, .v (.int .i64 rt)]] => [⟨Nat, [2, 3, 46, 47], [], fun B j => [(48, .v (.int .i64 (j : Int)))], fun B j => [], fun j => j ≤ l.length ∧ allB O (cz ch) l j = true, fun j => l.length - j, 0⟩, Ann.walk 3] | _ => []) Tryz.func30 (by kernel_rfl) (by kernel_rfl) rfl Tryz.ntmps30 (by decide) ?_ ?_
 ·intro ds p bs F h
  unfold g_sright at h
  split at h
  ·simp only [Option.some.injEq, Prod.mk.injEq] at h
   obtain ⟨_, _, rfl⟩ := h
   kernel_rfl
  ·cases h
 ·intro ds bs F hl h
  unfold g_sright at h
  split at h
  ·rename_i ch no h0 h1 l rt
   simp only [Option.some.injEq, Prod.mk.injEq, Bool.and_eq_true] at h
   obtain ⟨⟨⟨hc, g0⟩, g1⟩, _, rfl⟩ := h
   obtain ⟨c, ec, rfl⟩ : ∃ c, cz ch = c ∧ ch = chA c := ⟨_, rfl, chB_eq hc⟩
   simp only [ec]
   exact wpc_sright O Y c no h0 h1 rt l (fo_oo O hO) hY hc g0 g1 (ec)
  ·cases h
end Go.Proofs.YtcdmmfelagbpdaaGreat
