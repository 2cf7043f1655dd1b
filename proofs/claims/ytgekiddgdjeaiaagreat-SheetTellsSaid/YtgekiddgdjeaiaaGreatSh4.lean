/- Sheet: which states are right (printed by genSh.py; VCs by VcTool). -/
import Derived.Test.YtgekiddgdjeaiaaGreatSh3
namespace Go.Proofs.YtgekiddgdjeaiaaGreat
open Go.RowKit Go.Lib Ckp Cfd Cpd Sx
open IntKind (i64 u64 u8 i32 u32)
set_option linter.unusedVariables false
set_option linter.unusedSimpArgs false
set_option maxRecDepth 1000000
set_option maxHeartbeats 4000000
def afh (c : Nat → Int) (k : Int) : Int := bif iEq k 0 then c 48 else c 54
def xAt (l : List (List Int)) (i j : Nat) : Int := (l.getD i []).getD j 0
def aaw (O : OO) (c : Nat → Int) (l : List (List Int)) (i : Nat) : Bool :=
 bif (bif !(yg O (xAt l i 0) (xAt l i 1) (xAt l i 2) (xAt l i 3) (xAt l i 4)) then true else iLt (xAt l i 2) (afh c (i64.wrap (1 - xAt l i 0)))) then true else
 bif iLt 0 (i : Int) then iLe 0 (orZ (qx (xAt l (i - 1) 0) (xAt l i 0)) (qx (xAt l (i - 1) 1) (xAt l i 1))) else false
def allB (O : OO) (c : Nat → Int) (l : List (List Int)) (n : Nat) : Bool := (List.range n).all fun i => !(aaw O c l i)
def xm (c : Nat → Int) (l : List (List Int)) (i : Int) (a b : Int) : Bool := bif iLt a (o7 i l) then true else iLt b (og i l)
def jh (O : OO) (c : Nat → Int) (no h0 h1 rt : Int) (l : List (List Int)) : Bool :=
 bif (bif (bif (bif (bif qc (adv O c) 0 then true else !(jy 0 1048576 [no])) then true else !(jy 0 1125899906842624 [h0, h1])) then true else !(jy 0 1000 [rt])) then true else iLt 16 (l.length : Int)) then false else
 bif !(allB O c l l.length) then false else
 bif xm c l 0 (c 47) (c 49) then false else
 bif xm c l 1 (c 53) (c 55) then false else
 bif ax (aa3 h0 h1 l) (c 33) then iLe (jg rt l.length) (jf h0 h1 (c 56)) else false
def bcv (O : OO) (Y : OY) (f : FuncId) : Option Sx.Spec := match f with
 | 17 => some (au [.agg [.v, .v, .v, .roS [.i64, .i64, .i64, .u64, .i64], .v], .v, .v] false (auh O Y))
 | 35 => some (au [.v, .agg [.v, .v, .v, .roS [.i64, .i64, .i64, .u64, .i64], .v], .v] false (aub O Y))
 | f => ba4 O Y f
theorem ax9 (I : Sx.Interp) (O : OO) (hO : O = oo) (Y : OY) (hY : Y = yO O) : ∀ f s, bcv O Y f = some s → ag I Tryz.prog f s := by
 intro f s h
 unfold bcv at h
 split at h
 · cases h; exact bfi I O hO Y hY
 · cases h; exact bkg I O hO Y hY
 ·exact apg I O hO Y hY _ s h
theorem aru (O : OO) (c : Nat → Int) (l : List (List Int)) (x : Nat) : allB O c l (x + 1) = (allB O c l x && !(aaw O c l x)) := by
 unfold allB
 rw [List.range_succ, List.all_append]
 simp
theorem axu {O : OO} {c : Nat → Int} {l : List (List Int)} {x : Nat} (h : x < l.length) (hb : aaw O c l x = true) : allB O c l l.length = false := by
 unfold allB
 rw [Bool.eq_false_iff]
 intro hc
 have := List.all_eq_true.1 hc x (List.mem_range.2 h)
 rw [hb] at this
 cases this
theorem aaz {l : List (List Int)} (h : cnd l = true) {x : Nat} (hx : x < l.length) : inU ((l.getD x []).getD 3 0) 18446744073709551616 = true := by
 have e : l.getD x [] = l[x] := by rw [List.getD_eq_getElem?_getD, List.getElem?_eq_getElem hx]; rfl
 rw [e]
 have := List.all_eq_true.1 h _ (List.getElem_mem hx)
 rw [zaT] at this
 exact this.1
theorem five {x : List Int} (h : x.length = 5) : x = [x.getD 0 0, x.getD 1 0, x.getD 2 0, x.getD 3 0, x.getD 4 0] := by
 match x, h with
 | [a, b, c, d, e], _ => rfl
theorem aea {l : List (List Int)} (h : cnd l = true) {x : Nat} (hx : x < l.length) : [(l.getD x []).getD 0 0, (l.getD x []).getD 1 0, (l.getD x []).getD 2 0, (l.getD x []).getD 3 0, (l.getD x []).getD 4 0] = l.getD x [] := by
 have e : l.getD x [] = l[x] := by rw [List.getD_eq_getElem?_getD, List.getElem?_eq_getElem hx]; rfl
 rw [e]
 have := List.all_eq_true.1 h _ (List.getElem_mem hx)
 rw [zaT] at this
 exact (five (zbE this.2)).symm
theorem ww {lo hi n : Int} : jy lo hi [n] = true ↔ lo ≤ n ∧ n ≤ hi := by
 unfold jy ad2
 simp only [List.all_cons, List.all_nil, Bool.and_true, Bool.not_eq_true']
 cases a : iLt n lo with
 | true => simp only [Bz, Sx.af.n] at a; simp only [cond_true]; constructor
           · intro h; cases h
           · intro h; omega
 | false => simp only [Bz, Sx.af.n] at a; simp only [cond_false, Bz, Sx.af.n]; omega
theorem aba {O : OO} {f i a q e : Int} : yg O f i a q e = true ↔ (0 ≤ f ∧ f ≤ 1) ∧ (1 ≤ i ∧ i ≤ 1048576) ∧ (1 ≤ a ∧ a ≤ 1125899906842624) ∧ (1 ≤ e ∧ e ≤ 1048576) ∧ O.iw q = true ∧ q ≠ 1 := by
 unfold yg
 rw [← ww (n := f), ← ww (n := i), ← ww (n := a), ← ww (n := e), show (q ≠ 1) = (qc q 1 = true) from (bcu q 1).symm]
 cases jy 0 1 [f] <;> cases jy 1 1048576 [i] <;> cases jy 1 1125899906842624 [a] <;> cases jy 1 1048576 [e] <;> cases O.iw q <;> cases qc q 1 <;> simp
theorem akj {O : OO} {c : Nat → Int} (hc : chB (chA c) = true) (h : qc (adv O c) 0 = false) : c 56 = 0 ∨ c 56 = 1 := by
 refine bbs (a96 hc) ?_
 cases ho : opX (c 56) with
 | false => rfl
 | true =>
  unfold adv at h
  rw [ho] at h
  revert h
  cases iLt (c 33) 1 <;> cases iLt 1125899906842624 (c 33) <;> cases iLt (c 32) 0 <;> cases iLe 64 (c 32) <;> exact fun h => absurd (show qc (1 : Int) 0 = false from h) (by decide)
theorem least0 {c : Nat → Int} {k : Int} (e : iEq k (iOf 0) = true) : afh c k = c 48 := by
 have : k = 0 := of_decide_eq_true e
 subst this
 rfl
theorem least1 {c : Nat → Int} {k : Int} (e : iEq k (iOf (ay 0 1)) = true) : afh c k = c 54 := by
 have : k = 1 := of_decide_eq_true e
 subst this
 rfl
def ajh (O : OO) (Y : OY) (ds : List Dt) : zG := match ds with
 | [.v (.agg ch), .node [.v (.int .i64 no), .v (.int .i64 h0), .v (.int .i64 h1), .structs l, .v (.int .i64 rt)]] => some ((chB ch) && (Nat.ble l.length 1000) && (cnd l), [], fun _ => ⟨[.v (.bool (jh O (cz ch) no h0 h1 rt l))], []⟩)
 | _ => none
theorem a6o (O : OO) (Y : OY) (c : Nat → Int) (no h0 h1 rt : Int) (l : List (List Int)) (F : FO O) (hy : Y = yO O) (hc : chB (chA c) = true) (g0 : Nat.ble l.length 1000 = true) (g1 : cnd l = true) (ec : cz (chA c) = c) :
 let T1 := vB false = vB (jh O c no h0 h1 rt l) ∧ True ∧ True; let T2 := vI no = vI no ∧ vI h0 = vI h0 ∧ vI h1 = vI h1 ∧ vI rt = vI rt; If (chB (chA c)) (If (qc (adv O (cz
  (chA c))) 0) T1 (If (!jy 0 1048576 [no]) T1 (If (!jy 0 1125899906842624 [h0, h1]) T1 (If (!jy 0 1000 [rt]) T1 (If (iLt 16 (iOf (cS l).n)) T1 ((∃ (x : Nat), (x ≤ l.length ∧
  allB O c l x = true) ∧ (vI 0 = vI (iOf x) ∧ vI (iOf l.length) = vI (iOf l.length) ∧ True) ∧ T2 ∧ chA c = chA c ∧ cS l = cS l ∧ True) ∧ ∀ (x : Nat), let T3 := l.getD (i64.wrap (di (iOf x) 1)).toNat [];
  let T4 := iLe 0 (orZ (qx (T3.getD 0 0) ((l.getD (iOf x).toNat []).getD 0 0)) (qx (T3.getD (ay 0 1) 0) ((l.getD (iOf x).toNat []).getD (ay 0 1) 0))); let T5 := inU (T3.getD 3 0) 18446744073709551616 && inU ((l.getD (iOf x).toNat []).getD 3 0) 18446744073709551616;
  let T6 := iLe 0 (i64.wrap (di (iOf x) 1)) && (i64.wrap (di (iOf x) 1)).toNat.blt l.length; let T7 := true && Nat.beq 5 5 && (i64.wrap (di (iOf x) 1)).toNat.blt l.length;
  let T8 := i64.wrap (di 1 ((l.getD (iOf x).toNat []).getD 0 0)); x ≤ l.length ∧ allB O c l x = true → If (iLt (iOf x) (iOf (cS l).n)) (If (iLe 0 (iOf x) && (iOf
  x).toNat.blt l.length) (If (true && Nat.beq 5 5 && (iOf x).toNat.blt l.length) (If (inU ((l.getD (iOf x).toNat []).getD 3 0) 18446744073709551616) (If (!yg O ((l.getD (iOf
  x).toNat []).getD 0 0) ((l.getD (iOf x).toNat []).getD 1 0) ((l.getD (iOf x).toNat []).getD 2 0) ((l.getD (iOf x).toNat []).getD 3 0) ((l.getD (iOf x).toNat []).getD 4 0)) T1 (If
  (iEq T8 (iOf 0)) (If (iLt ((l.getD (iOf x).toNat []).getD (ay (ay 0 1) 1) 0) (c 48)) T1 (If (iLt 0 (iOf x)) (If T6 (If T7 (If T5 (If T4 T1 (∃ (x' : Nat), (x' ≤ l.length ∧ allB O
  c l x' = true) ∧ (iy l.length x').succ ≤ iy l.length x ∧ (vI (i64.wrap (dh (iOf x) 1)) = vI (iOf x') ∧ vI (iOf l.length) = vI (iOf l.length) ∧ True) ∧ T2 ∧ chA c = chA
  c ∧ cS l = cS l ∧ True)) False) False) False) (∃ (x' : Nat), (x' ≤ l.length ∧ allB O c l x' = true) ∧ (iy l.length x').succ ≤ iy l.length x ∧ (vI (i64.wrap (dh (iOf x)
  1)) = vI (iOf x') ∧ vI (iOf l.length) = vI (iOf l.length) ∧ True) ∧ T2 ∧ chA c = chA c ∧ cS l = cS l ∧ True))) (If (iEq T8 (iOf (ay 0 1))) (If (iLt ((l.getD (iOf x).toNat []).getD
  (ay (ay 0 1) 1) 0) (c 54)) T1 (If (iLt 0 (iOf x)) (If T6 (If T7 (If T5 (If T4 T1 (∃ (x' : Nat), (x' ≤ l.length ∧ allB O c l x' = true) ∧ (iy l.length x').succ ≤ iy l.length
  x ∧ (vI (i64.wrap (dh (iOf x) 1)) = vI (iOf x') ∧ vI (iOf l.length) = vI (iOf l.length) ∧ True) ∧ T2 ∧ chA c = chA c ∧ cS l = cS l ∧ True)) False) False) False) (∃ (x' :
  Nat), (x' ≤ l.length ∧ allB O c l x' = true) ∧ (iy l.length x').succ ≤ iy l.length x ∧ (vI (i64.wrap (dh (iOf x) 1)) = vI (iOf x') ∧ vI (iOf l.length) = vI (iOf
  l.length) ∧ True) ∧ T2 ∧ chA c = chA c ∧ cS l = cS l ∧ True))) False))) False) False) False) (If (l.length.ble 1000) (If (iLt (c 47) (o7 0 l)) T1 (If (iLt (c 49) (og 0 l)) T1
  (If (l.length.ble 1000) (If (iLt (c 53) (o7 (i64.wrap (dh 0 1)) l)) T1 (If (iLt (c 55) (og (i64.wrap (dh 0 1)) l)) T1 (If (l.length.ble 1000) (If (ax (aa3
  h0 h1 l) (c 33)) (If (iEq (c 56) (iOf 0)) (If (chB (chA c) && l.length.ble 1000) (vB (iLe (jg rt (iOf l.length)) h0) = vB (jh O c no h0 h1 rt l) ∧ True ∧ True) False) (If
  (iEq (c 56) (iOf (ay 0 1))) (If (chB (chA c) && l.length.ble 1000) (vB (iLe (jg rt (iOf l.length)) h1) = vB (jh O c no h0 h1 rt l) ∧ True ∧ True) False) False)) T1)
  False))) False))) False))))))) False := by
 conv => zeta
 simp only [ec, iOf, Sx.af.n]
 have hm := zbL g0
 refine ziT hc (ae (fun a => ⟨by unfold jh; rw [a]; rfl, (by first | rfl | trivial)⟩) (fun a1 => ae (fun a => ⟨by unfold jh; rw [a1, a]; rfl, (by first | rfl | trivial)⟩) (fun a2 => ae (fun a => ⟨by unfold jh; rw [a1, a2, a]; rfl, (by first | rfl | trivial)⟩) (fun a3 => ae (fun a => ⟨by unfold jh; rw [a1, a2, a3, a]; rfl, (by first | rfl | trivial)⟩) (fun a4 => ae (fun a => ⟨by unfold jh; rw [a1, a2, a3, a4, a]; rfl, (by first | rfl | trivial)⟩) (fun a5 => ?_))))))
 have hR : jh O c no h0 h1 rt l = (bif !(allB O c l l.length) then false else bif xm c l 0 (c 47) (c 49) then false else bif xm c l 1 (c 53) (c 55) then false else bif ax (aa3 h0 h1 l) (c 33) then iLe (jg rt l.length) (jf h0 h1 (c 56)) else false) := by
  unfold jh; rw [a1, a2, a3, a4, a5]; rfl
 refine ⟨⟨0, ⟨Nat.zero_le _, rfl⟩, ⟨rfl, (by first | rfl | trivial)⟩, (by first | rfl | trivial)⟩, fun x hx => ae (fun h => ?_) (fun h => ?_)⟩
 ·simp only [Bz, Sx.af.n] at h
  have hlt : x < l.length := by omega
  have hbl : x.blt l.length = true := by rw [Nat.blt_eq]; exact hlt
  refine ziT (by simp only [Bz, Sx.af.n, hbl, and_true, ztN]; omega) (ziT (by simp only [hbl, ztN]; rfl) ?_)
  simp only [ztN]
  refine ziT (aaz g1 hlt) ?_
  have hbad : aaw O c l x = true → Value.bool false = Value.bool (jh O c no h0 h1 rt l) ∧ True ∧ True := fun hb => ⟨by rw [hR, axu hlt hb]; rfl, trivial, trivial⟩
  have hnext : aaw O c l x = false → allB O c l (x + 1) = true := fun hb => by rw [aru, hx.2, hb]; rfl
  refine ae (fun f => hbad ?_) (fun f => ?_)
  ·unfold aaw
   rw [show (!yg O (xAt l x 0) (xAt l x 1) (xAt l x 2) (xAt l x 3) (xAt l x 4)) = true from f]; rfl
  ·have fn : (!yg O (xAt l x 0) (xAt l x 1) (xAt l x 2) (xAt l x 3) (xAt l x 4)) = false := f
   refine ae (fun e => ?_) (fun e => ae (fun e2 => ?_) (fun e2 => ?_))
   ·have ll : afh c (i64.wrap (1 - xAt l x 0)) = c 48 := least0 e
    ·skip
     refine ae (fun g => hbad (by unfold aaw; rw [fn, ll]; rw [show iLt (xAt l x 2) (c 48) = true from g]; rfl)) (fun g => ae (fun p => ?_) (fun p => ?_))
     ·have hp : 0 < x := by simp only [Bz, Sx.af.n] at p; omega
      have ew : i64.wrap ((x : Int) - 1) = ((x - 1 : Nat) : Int) := by rw [IntWalk.i64_in _ (by omega)]; omega
      have hb2 : (x - 1).blt l.length = true := by rw [Nat.blt_eq]; omega
      simp only [di, ew, ztN]
      refine ziT (by simp only [hb2, Bz, Sx.af.n, and_true]; omega) (ziT (by rw [hb2]; rfl) (ziT (by rw [aaz g1 (show x - 1 < l.length by omega), aaz g1 hlt]; rfl) (ae (fun q => hbad ?_) (fun q => ?_))))
      ·unfold aaw
       rw [fn, ll, show iLt (xAt l x 2) (c 48) = false from g, show iLt 0 (x : Int) = true from p]
       exact q
      ·have hb : aaw O c l x = false := by
        unfold aaw
        rw [fn, ll, show iLt (xAt l x 2) (c 48) = false from g, show iLt 0 (x : Int) = true from p]
        exact q
       exact ⟨x + 1, ⟨hlt, hnext hb⟩, by simp only [iy]; omega, ⟨by simp only [dh]; rw [wrap_succ (by omega)], (by first | rfl | trivial)⟩, (by first | rfl | trivial)⟩
     ·have hb : aaw O c l x = false := by
       unfold aaw
       rw [fn, ll, show iLt (xAt l x 2) (c 48) = false from g, show iLt 0 (x : Int) = false from p]
       rfl
      exact ⟨x + 1, ⟨hlt, hnext hb⟩, by simp only [iy]; omega, ⟨by simp only [dh]; rw [wrap_succ (by omega)], (by first | rfl | trivial)⟩, (by first | rfl | trivial)⟩
   ·have ll : afh c (i64.wrap (1 - xAt l x 0)) = c 54 := least1 e2
    ·skip
     refine ae (fun g => hbad (by unfold aaw; rw [fn, ll]; rw [show iLt (xAt l x 2) (c 54) = true from g]; rfl)) (fun g => ae (fun p => ?_) (fun p => ?_))
     ·have hp : 0 < x := by simp only [Bz, Sx.af.n] at p; omega
      have ew : i64.wrap ((x : Int) - 1) = ((x - 1 : Nat) : Int) := by rw [IntWalk.i64_in _ (by omega)]; omega
      have hb2 : (x - 1).blt l.length = true := by rw [Nat.blt_eq]; omega
      simp only [di, ew, ztN]
      refine ziT (by simp only [hb2, Bz, Sx.af.n, and_true]; omega) (ziT (by rw [hb2]; rfl) (ziT (by rw [aaz g1 (show x - 1 < l.length by omega), aaz g1 hlt]; rfl) (ae (fun q => hbad ?_) (fun q => ?_))))
      ·unfold aaw
       rw [fn, ll, show iLt (xAt l x 2) (c 54) = false from g, show iLt 0 (x : Int) = true from p]
       exact q
      ·have hb : aaw O c l x = false := by
        unfold aaw
        rw [fn, ll, show iLt (xAt l x 2) (c 54) = false from g, show iLt 0 (x : Int) = true from p]
        exact q
       exact ⟨x + 1, ⟨hlt, hnext hb⟩, by simp only [iy]; omega, ⟨by simp only [dh]; rw [wrap_succ (by omega)], (by first | rfl | trivial)⟩, (by first | rfl | trivial)⟩
     ·have hb : aaw O c l x = false := by
       unfold aaw
       rw [fn, ll, show iLt (xAt l x 2) (c 54) = false from g, show iLt 0 (x : Int) = false from p]
       rfl
      exact ⟨x + 1, ⟨hlt, hnext hb⟩, by simp only [iy]; omega, ⟨by simp only [dh]; rw [wrap_succ (by omega)], (by first | rfl | trivial)⟩, (by first | rfl | trivial)⟩
   ·exfalso
    have ff : yg O (xAt l x 0) (xAt l x 1) (xAt l x 2) (xAt l x 3) (xAt l x 4) = true := by simpa using fn
    obtain ⟨⟨f1, f2⟩, _⟩ := aba.1 ff
    have g1' : ¬ i64.wrap (1 - xAt l x 0) = 0 := of_decide_eq_false e
    have g2' : ¬ i64.wrap (1 - xAt l x 0) = 1 := of_decide_eq_false e2
    rw [IntWalk.i64_in _ (by omega)] at g1' g2'
    omega
 ·simp only [Bz, Sx.af.n] at h
  have hx2 : x = l.length := by omega
  subst hx2
  rw [hx.2] at hR
  refine ziT g0 (ae (fun b => ⟨by rw [hR]; unfold xm; rw [b]; rfl, (by first | rfl | trivial)⟩) (fun b1 => ae (fun b => ⟨by rw [hR]; unfold xm; rw [b1, b]; rfl, (by first | rfl | trivial)⟩) (fun b2 => ziT g0 (ae (fun b => ⟨?_, (by first | rfl | trivial)⟩) (fun b3 => ae (fun b => ⟨?_, (by first | rfl | trivial)⟩) (fun b4 => ziT g0 ?_))))))
  ·rw [hR]
   unfold xm
   rw [b1, b2, show iLt (c 53) (o7 1 l) = true from b]; rfl
  ·rw [hR]
   unfold xm
   rw [b1, b2, show iLt (c 53) (o7 1 l) = false from b3, show iLt (c 55) (og 1 l) = true from b]; rfl
  ·have hR2 : jh O c no h0 h1 rt l = (bif ax (aa3 h0 h1 l) (c 33) then iLe (jg rt l.length) (jf h0 h1 (c 56)) else false) := by
    rw [hR]
    unfold xm
    rw [b1, b2, show iLt (c 53) (o7 1 l) = false from b3, show iLt (c 55) (og 1 l) = false from b4]; rfl
   refine ae (fun t => ae (fun e => ziT (by rw [hc, g0]; rfl) ⟨by rw [hR2, t, ark e]; rfl, (by first | rfl | trivial)⟩) (fun e => ?_)) (fun t => ⟨by rw [hR2, t]; rfl, (by first | rfl | trivial)⟩)
   have e1 : iEq (c 56) (iOf (ay 0 1)) = true := by
    rcases akj hc a1 with h | h
    ·have : ¬ c 56 = 0 := of_decide_eq_false e
     exact absurd h this
    ·rw [h]; rfl
   exact ziT e1 (ziT (by rw [hc, g0]; rfl) ⟨by rw [hR2, t, arb e1]; rfl, (by first | rfl | trivial)⟩)
theorem a7s (I : Sx.Interp) (O : OO) (hO : O = oo) (Y : OY) (hY : Y = yO O) : ag I Tryz.prog 21 (au [.v, .agg [.v, .v, .v, .roS [.i64, .i64, .i64, .u64, .i64], .v]] false (ajh O Y)) := by
 refine jb (ax9 I O hO Y hY) (by kernel_rfl) (fun ds => match ds with | [.v (.agg ch), .node [.v (.int .i64 no), .v (.int .i64 h0), .v (.int .i64 h1), .structs l, .v (.int .i64 rt)]] => [⟨Nat, [2, 3, 46, 47], [], fun B j => [(48, .v (.int .i64 (j : Int)))], fun B j => [], fun j => j ≤ l.length ∧ allB O (cz ch) l j = true, fun j => l.length - j, 0⟩, Ann.walk 3] | _ => []) Tryz.func21 (by kernel_rfl) (by kernel_rfl) rfl Tryz.ntmps21 (by decide) ?_ ?_
 ·intro ds p bs F h
  unfold ajh at h
  split at h
  ·simp only [zsI, zpI] at h
   obtain ⟨_, _, rfl⟩ := h
   kernel_rfl
  ·cases h
 ·intro ds bs F hl h
  unfold ajh at h
  split at h
  ·rename_i ch no h0 h1 l rt
   simp only [zsI, zpI, zaT] at h
   obtain ⟨⟨⟨hc, g0⟩, g1⟩, _, rfl⟩ := h
   obtain ⟨c, ec, rfl⟩ : ∃ c, cz ch = c ∧ ch = chA c := ⟨_, rfl, aak hc⟩
   simp only [ec]
   exact Eq.mpr (by kernel_rfl) (a6o O Y c no h0 h1 rt l (dn O hO) hY hc g0 g1 (ec))
  ·cases h
end Go.Proofs.YtgekiddgdjeaiaaGreat
