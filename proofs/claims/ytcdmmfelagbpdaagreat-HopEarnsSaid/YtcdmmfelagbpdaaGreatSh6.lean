/- Sheet: what comes of a condition that is added, settled, or fails, and of another rate (printed by genSh.py; VCs by VcTool). -/
import Derived.Test.YtcdmmfelagbpdaaGreatSl1
namespace Go.Proofs.YtcdmmfelagbpdaaGreat
open Go.RowKit Go.Lib Ckp Cfd Cpd Sx
set_option linter.unusedVariables false
set_option linter.unusedSimpArgs false
set_option maxRecDepth 1000000
@[reducible] def lfP (E no h0 h1 rt : Int) (l : List (List Int)) (x0 x1 x2 x3 k : Int) (L : List (List Int)) : Prop := ((Value.int .i64 x0 = Value.int .i64 (bif iBeq E 0 then no else 0) ∧ Value.int .i64 x1 = Value.int .i64 (bif iBeq E 0 then h0 else 0) ∧ Value.int .i64 x2 = Value.int .i64 (bif iBeq E 0 then h1 else 0) ∧ Value.int .i64 x3 = Value.int .i64 (bif iBeq E 0 then rt else 0)) ∧ Value.int .i64 k = Value.int .i64 E) ∧ True ∧ Cont.structs [.i64, .i64, .i64, .u64, .i64] L = Cont.structs [.i64, .i64, .i64, .u64, .i64] (bif iBeq E 0 then l else []) ∧ True
def askI (f : Int) (j : Nat) : Nat := bif iBeq f 0 then 50 + j else 44 + j
def freeO (c : Nat → Int) (h0 h1 rt : Int) (n : Int) (side : Int) : Int := bif iBeq side (c 56) then IntKind.i64.wrap (haveO h0 h1 side - costO rt n) else haveO h0 h1 side
def hsub (f h a : Int) (k : Int) : Int := bif iBeq f k then IntKind.i64.wrap (h - a) else h
def hadd (f h a : Int) (k : Int) : Int := bif iBeq f k then IntKind.i64.wrap (h + a) else h
def addE (O : OO) (c : Nat → Int) (no h0 h1 rt : Int) (l : List (List Int)) (f i a q e : Int) : Int :=
 bif (bif !(rightO O c no h0 h1 rt l) then true else !(fineO O f i a q e)) then 1 else
 bif !(iLt (idxS (matchF f i) l) 0) then 4 else
 bif iLt a (c (askI f 4)) then 9 else
 bif (bif iLe 16 (l.length : Int) then true else iLe (c (askI f 3)) (offN (IntKind.i64.wrap (1 - f)) l)) then 3 else
 bif iLt (c (askI f 5)) (IntKind.i64.wrap (offM (IntKind.i64.wrap (1 - f)) l + a)) then 6 else
 bif iLt (haveO h0 h1 f) a then 8 else
 bif iLt (freeO c (hsub f h0 a 0) (hsub f h1 a 1) rt ((insC [f, i, a, q, e] l).length : Int) (c 56)) 0 then 8 else
 bif iLt (freeO c (hsub f h0 a 0) (hsub f h1 a 1) rt ((insC [f, i, a, q, e] l).length : Int) f) (c (askI f 1)) then 10 else 0
def setE (O : OO) (c : Nat → Int) (no h0 h1 rt : Int) (l : List (List Int)) (fr id k : Int) : Int :=
 bif !(rightO O c no h0 h1 rt l) then 1 else bif iLt (idxS (matchF fr id) l) 0 then 5 else bif iBne (O.pbase k) (findC fr id l 3) then 23 else 0
def failE (O : OO) (c : Nat → Int) (no h0 h1 rt : Int) (l : List (List Int)) (fr id : Int) : Int :=
 bif !(rightO O c no h0 h1 rt l) then 1 else bif iLt (idxS (matchF fr id) l) 0 then 5 else 0
def rateE (O : OO) (c : Nat → Int) (no h0 h1 rt : Int) (l : List (List Int)) (r : Int) : Int :=
 bif (bif !(rightO O c no h0 h1 rt l) then true else !(allW 0 1000 [r])) then 1 else
 bif iLt (freeO c h0 h1 r (l.length : Int) (c 56)) 0 then 8 else
 bif (bif iLt rt r then iLt (freeO c h0 h1 r (l.length : Int) (c 56)) (c (askI (c 56) 1)) else false) then 10 else 0
theorem lf_err {E k no h0 h1 rt : Int} {l : List (List Int)} {ks : List IntKind} (hE : E = k) (hk : iBeq k 0 = false) : (((Value.int .i64 0 = Value.int .i64 (bif iBeq E 0 then no else 0) ∧ Value.int .i64 0 = Value.int .i64 (bif iBeq E 0 then h0 else 0) ∧ Value.int .i64 0 = Value.int .i64 (bif iBeq E 0 then h1 else 0) ∧ Value.int .i64 0 = Value.int .i64 (bif iBeq E 0 then rt else 0)) ∧ Value.int .i64 k = Value.int .i64 E) ∧ True ∧ Cont.structs ks [] = Cont.structs ks (bif iBeq E 0 then l else []) ∧ True) := by
 subst hE
 rw [hk]
 exact ⟨⟨⟨rfl, rfl, rfl, rfl⟩, rfl⟩, trivial, rfl, trivial⟩
theorem lf_ok {E no h0 h1 rt a b : Int} {l : List (List Int)} {ks : List IntKind} (hE : E = 0) (e1 : a = h0) (e2 : b = h1) : (((Value.int .i64 no = Value.int .i64 (bif iBeq E 0 then no else 0) ∧ Value.int .i64 a = Value.int .i64 (bif iBeq E 0 then h0 else 0) ∧ Value.int .i64 b = Value.int .i64 (bif iBeq E 0 then h1 else 0) ∧ Value.int .i64 rt = Value.int .i64 (bif iBeq E 0 then rt else 0)) ∧ Value.int .i64 0 = Value.int .i64 E) ∧ True ∧ Cont.structs ks l = Cont.structs ks (bif iBeq E 0 then l else []) ∧ True) := by
 subst hE e1 e2
 exact ⟨⟨⟨rfl, rfl, rfl, rfl⟩, rfl⟩, trivial, rfl, trivial⟩
theorem ins_len (q : List Int) (l : List (List Int)) : (insC q l).length = l.length + 1 := by
 have := cnt_le q l
 unfold insC
 simp only [List.length_append, List.length_take, List.length_drop, List.length_cons, List.length_nil]; omega
theorem found_fr {O : OO} {c : Nat → Int} {no h0 h1 rt : Int} {l : List (List Int)} {f i : Int} (h : rightO O c no h0 h1 rt l = true) (hf : iLt (idxS (matchF f i) l) 0 = false) : (f = 0 ∨ f = 1) ∧ ∃ k, k < l.length ∧ fr (l.getD k []) = f ∧ idn (l.getD k []) = i ∧ ∀ j, findC f i l j = (l.getD k []).getD j 0 := by
 obtain ⟨k, hk, h1, h2, h3⟩ := found_at hf
 refine ⟨?_, k, hk, h1, h2, h3⟩
 have := ((right_iff'.1 h).fine _ (List.getElem_mem hk)).1.1
 rw [← getD_at hk, h1] at this
 omega
theorem op01 {O : OO} {c : Nat → Int} {no h0 h1 rt : Int} {l : List (List Int)} (hc : chB (chA c) = true) (h : rightO O c no h0 h1 rt l = true) : allW 0 1 [c 56] = true := by
 rw [allW_one]
 have := fit_op hc (right_iff'.1 h).fit
 omega
def spS18 (O : OO) (Y : OY) (f : FuncId) : Option Sx.Spec := match f with
 | 34 => some (pspec [.agg [.v, .v, .v, .roS [.i64, .i64, .i64, .u64, .i64], .v], .v] false (g_with O Y))
 | 37 => some (pspec [.agg [.v, .v, .v, .roS [.i64, .i64, .i64, .u64, .i64], .v], .v, .v] true (g_without O Y))
 | f => spS17 O Y f
theorem spS18_ok (I : Sx.Interp) (O : OO) (hO : O = oo) (Y : OY) (hY : Y = yO O) : ∀ f s, spS18 O Y f = some s → Sx.SpecOK I Tryz.prog f s := by
 intro f s h
 unfold spS18 at h
 split at h
 · cases h; exact ok_with I O hO Y hY
 · cases h; exact ok_without I O hO Y hY
 ·exact spS17_ok I O hO Y hY _ s h
theorem addS {E : Int} {P : Int → Prop} {K : Prop} {G H W V V2 b0 b1 b2 b3 b4 b5 b6 b7 : Bool} (hE : E = bif b0 then 4 else bif b1 then 9 else bif (bif b2 then true else b3) then 3 else bif b4 then 6 else bif b5 then 8 else bif b6 then 8 else bif b7 then 10 else 0) (hP : ∀ k, iBeq k 0 = false → E = k → P k) (hK : E = 0 → K) (hG : G = true) (hH : H = true) (hW : W = true) (hV : b2 = false → V = true) (hV2 : b2 = false → V2 = true) :
  Sx.If G (Sx.If H (Sx.If b0 (P 4) (Sx.If b1 (P 9) (Sx.If b2 (P 3) (Sx.If b3 (P 3) (Sx.If b4 (P 6) (Sx.If b5 (P 8) (Sx.If W (Sx.If V (Sx.If b6 (P 8) (Sx.If V2 (Sx.If b7 (P 10) K) False)) False) False))))))) False) False := by
 subst hG hH hW
 cases b0 with
 | true => exact hP 4 rfl hE
 | false => cases b1 with
  | true => exact hP 9 rfl hE
  | false => cases b2 with
   | true => exact hP 3 rfl hE
   | false =>
    have v := hV rfl
    have v2 := hV2 rfl
    subst v v2
    cases b3 with
    | true => exact hP 3 rfl hE
    | false => cases b4 with
     | true => exact hP 6 rfl hE
     | false => cases b5 with
      | true => exact hP 8 rfl hE
      | false => cases b6 with
       | true => exact hP 8 rfl hE
       | false => cases b7 with
        | true => exact hP 10 rfl hE
        | false => exact hK hE
def g_sadd (O : OO) (Y : OY) (ds : List Dt) : Option (Bool × List Bool × (List Bool → Post)) := match ds with
 | [.v (.agg ch), .node [.v (.int .i64 no), .v (.int .i64 h0), .v (.int .i64 h1), .structs l, .v (.int .i64 rt)], .v (.agg ⟨[.int .i64 f, .int .i64 i, .int .i64 a, .int .u64 q, .int .i64 e]⟩)] => some ((chB ch) && (Nat.ble l.length 1000) && (cnd l) && (inU q 18446744073709551616), [], fun _ => ⟨[.agg [.v (.int .i64 (bif iBeq (addE O (cz ch) no h0 h1 rt l f i a q e) 0 then no else 0)), .v (.int .i64 (bif iBeq (addE O (cz ch) no h0 h1 rt l f i a q e) 0 then (hsub f h0 a 0) else 0)), .v (.int .i64 (bif iBeq (addE O (cz ch) no h0 h1 rt l f i a q e) 0 then (hsub f h1 a 1) else 0)), .row 1, .v (.int .i64 (bif iBeq (addE O (cz ch) no h0 h1 rt l f i a q e) 0 then rt else 0))], .v (.int .i64 (addE O (cz ch) no h0 h1 rt l f i a q e))], [(1, .ro (.structs [.i64, .i64, .i64, .u64, .i64] (bif iBeq (addE O (cz ch) no h0 h1 rt l f i a q e) 0 then (insC [f, i, a, q, e] l) else [])))]⟩)
 | _ => none
set_option maxHeartbeats 4000000 in
theorem vc_sadd (O : OO) (Y : OY) (c : Nat → Int) (no h0 h1 rt : Int) (l : List (List Int)) (f i a q e : Int) (F : FO O) (hy : Y = yO O) (hc : chB (chA c) = true) (g0 : Nat.ble l.length 1000 = true) (g1 : cnd l = true) (g2 : inU q 18446744073709551616 = true) (ec : cz (chA c) = c) :
 If (chB (chA c) && l.length.ble 1000 && cnd l) (If (!rightO O (cz (chA c)) no h0 h1 rt l) (lfP (addE O c no h0 h1 rt l f i a q e) no (hsub f h0 a 0) (hsub f h1 a 1) rt (insC [f, i,
  a, q, e] l) 0 0 0 0 1 []) (If (inU q 18446744073709551616) (If (!fineO O f i a q e) (lfP (addE O c no h0 h1 rt l f i a q e) no (hsub f h0 a 0) (hsub f h1 a 1) rt (insC [f, i, a, q,
  e] l) 0 0 0 0 1 []) (If (iEq (IntKind.i64.wrap (iSub 1 f)) (iOf 0)) (If (l.length.ble 1000) (If (l.length.ble 1000) (If (!iLt (idxS (matchF f i) l) 0) (lfP (addE O c no h0 h1 rt l f
  i a q e) no (hsub f h0 a 0) (hsub f h1 a 1) rt (insC [f, i, a, q, e] l) 0 0 0 0 4 []) (If (iLt a (c 48)) (lfP (addE O c no h0 h1 rt l f i a q e) no (hsub f h0 a 0) (hsub f h1 a 1)
  rt (insC [f, i, a, q, e] l) 0 0 0 0 9 []) (If (iLe 16 (iOf (Cont.structs [.i64, .i64, .i64, .u64, .i64] l).n)) (lfP (addE O c no h0 h1 rt l f i a q e) no (hsub f h0 a 0) (hsub f h1
  a 1) rt (insC [f, i, a, q, e] l) 0 0 0 0 3 []) (If (iLe (c 47) (offN (IntKind.i64.wrap (iSub 1 f)) l)) (lfP (addE O c no h0 h1 rt l f i a q e) no (hsub f h0 a 0) (hsub f h1 a 1) rt
  (insC [f, i, a, q, e] l) 0 0 0 0 3 []) (If (iLt (c 49) (IntKind.i64.wrap (iAdd (offM (IntKind.i64.wrap (iSub 1 f)) l) a))) (lfP (addE O c no h0 h1 rt l f i a q e) no (hsub f h0 a 0)
  (hsub f h1 a 1) rt (insC [f, i, a, q, e] l) 0 0 0 0 6 []) (If (iEq f (iOf 0)) (If (iLt h0 a) (lfP (addE O c no h0 h1 rt l f i a q e) no (hsub f h0 a 0) (hsub f h1 a 1) rt (insC [f,
  i, a, q, e] l) 0 0 0 0 8 []) (If (l.length.ble 1000 && cnd l && inU q 18446744073709551616 && bsB [f, i, a, q, e] l) (If (iEq f (iOf 0)) (If (iEq f (iOf 0)) (If (chB (chA c) &&
  (insC [f, i, a, q, e] l).length.ble 1000 && allW 0 1 [c 56]) (If (iLt (bif iBeq (c 56) (cz (chA c) 56) then IntKind.i64.wrap (iSub (haveO (IntKind.i64.wrap (iSub h0 a)) h1 (c 56))
  (costO rt (iOf (insC [f, i, a, q, e] l).length))) else haveO (IntKind.i64.wrap (iSub h0 a)) h1 (c 56)) 0) (lfP (addE O c no h0 h1 rt l f i a q e) no (hsub f h0 a 0) (hsub f h1 a 1)
  rt (insC [f, i, a, q, e] l) 0 0 0 0 8 []) (If (chB (chA c) && (insC [f, i, a, q, e] l).length.ble 1000 && allW 0 1 [f]) (If (iLt (bif iBeq f (cz (chA c) 56) then IntKind.i64.wrap
  (iSub (haveO (IntKind.i64.wrap (iSub h0 a)) h1 f) (costO rt (iOf (insC [f, i, a, q, e] l).length))) else haveO (IntKind.i64.wrap (iSub h0 a)) h1 f) (c 45)) (lfP (addE O c no h0 h1
  rt l f i a q e) no (hsub f h0 a 0) (hsub f h1 a 1) rt (insC [f, i, a, q, e] l) 0 0 0 0 10 []) (lfP (addE O c no h0 h1 rt l f i a q e) no (hsub f h0 a 0) (hsub f h1 a 1) rt (insC [f,
  i, a, q, e] l) no (IntKind.i64.wrap (iSub h0 a)) h1 rt 0 (insC [f, i, a, q, e] l))) False)) False) (If (iEq f (iOf (nAdd 0 1))) (If (chB (chA c) && (insC [f, i, a, q, e]
  l).length.ble 1000 && allW 0 1 [c 56]) (If (iLt (bif iBeq (c 56) (cz (chA c) 56) then IntKind.i64.wrap (iSub (haveO h0 (IntKind.i64.wrap (iSub h0 a)) (c 56)) (costO rt (iOf (insC
  [f, i, a, q, e] l).length))) else haveO h0 (IntKind.i64.wrap (iSub h0 a)) (c 56)) 0) (lfP (addE O c no h0 h1 rt l f i a q e) no (hsub f h0 a 0) (hsub f h1 a 1) rt (insC [f, i, a, q,
  e] l) 0 0 0 0 8 []) (If (chB (chA c) && (insC [f, i, a, q, e] l).length.ble 1000 && allW 0 1 [f]) (If (iLt (bif iBeq f (cz (chA c) 56) then IntKind.i64.wrap (iSub (haveO h0
  (IntKind.i64.wrap (iSub h0 a)) f) (costO rt (iOf (insC [f, i, a, q, e] l).length))) else haveO h0 (IntKind.i64.wrap (iSub h0 a)) f) (c 45)) (lfP (addE O c no h0 h1 rt l f i a q e)
  no (hsub f h0 a 0) (hsub f h1 a 1) rt (insC [f, i, a, q, e] l) 0 0 0 0 10 []) (lfP (addE O c no h0 h1 rt l f i a q e) no (hsub f h0 a 0) (hsub f h1 a 1) rt (insC [f, i, a, q, e] l)
  no h0 (IntKind.i64.wrap (iSub h0 a)) rt 0 (insC [f, i, a, q, e] l))) False)) False) False)) (If (iEq f (iOf (nAdd 0 1))) (If (iEq f (iOf 0)) (If (chB (chA c) && (insC [f, i, a, q,
  e] l).length.ble 1000 && allW 0 1 [c 56]) (If (iLt (bif iBeq (c 56) (cz (chA c) 56) then IntKind.i64.wrap (iSub (haveO (IntKind.i64.wrap (iSub h1 a)) h1 (c 56)) (costO rt (iOf (insC
  [f, i, a, q, e] l).length))) else haveO (IntKind.i64.wrap (iSub h1 a)) h1 (c 56)) 0) (lfP (addE O c no h0 h1 rt l f i a q e) no (hsub f h0 a 0) (hsub f h1 a 1) rt (insC [f, i, a, q,
  e] l) 0 0 0 0 8 []) (If (chB (chA c) && (insC [f, i, a, q, e] l).length.ble 1000 && allW 0 1 [f]) (If (iLt (bif iBeq f (cz (chA c) 56) then IntKind.i64.wrap (iSub (haveO
  (IntKind.i64.wrap (iSub h1 a)) h1 f) (costO rt (iOf (insC [f, i, a, q, e] l).length))) else haveO (IntKind.i64.wrap (iSub h1 a)) h1 f) (c 45)) (lfP (addE O c no h0 h1 rt l f i a q
  e) no (hsub f h0 a 0) (hsub f h1 a 1) rt (insC [f, i, a, q, e] l) 0 0 0 0 10 []) (lfP (addE O c no h0 h1 rt l f i a q e) no (hsub f h0 a 0) (hsub f h1 a 1) rt (insC [f, i, a, q, e]
  l) no (IntKind.i64.wrap (iSub h1 a)) h1 rt 0 (insC [f, i, a, q, e] l))) False)) False) (If (iEq f (iOf (nAdd 0 1))) (If (chB (chA c) && (insC [f, i, a, q, e] l).length.ble 1000 &&
  allW 0 1 [c 56]) (If (iLt (bif iBeq (c 56) (cz (chA c) 56) then IntKind.i64.wrap (iSub (haveO h0 (IntKind.i64.wrap (iSub h1 a)) (c 56)) (costO rt (iOf (insC [f, i, a, q, e]
  l).length))) else haveO h0 (IntKind.i64.wrap (iSub h1 a)) (c 56)) 0) (lfP (addE O c no h0 h1 rt l f i a q e) no (hsub f h0 a 0) (hsub f h1 a 1) rt (insC [f, i, a, q, e] l) 0 0 0 0 8
  []) (If (chB (chA c) && (insC [f, i, a, q, e] l).length.ble 1000 && allW 0 1 [f]) (If (iLt (bif iBeq f (cz (chA c) 56) then IntKind.i64.wrap (iSub (haveO h0 (IntKind.i64.wrap (iSub
  h1 a)) f) (costO rt (iOf (insC [f, i, a, q, e] l).length))) else haveO h0 (IntKind.i64.wrap (iSub h1 a)) f) (c 45)) (lfP (addE O c no h0 h1 rt l f i a q e) no (hsub f h0 a 0) (hsub
  f h1 a 1) rt (insC [f, i, a, q, e] l) 0 0 0 0 10 []) (lfP (addE O c no h0 h1 rt l f i a q e) no (hsub f h0 a 0) (hsub f h1 a 1) rt (insC [f, i, a, q, e] l) no h0 (IntKind.i64.wrap
  (iSub h1 a)) rt 0 (insC [f, i, a, q, e] l))) False)) False) False)) False)) False)) (If (iEq f (iOf (nAdd 0 1))) (If (iLt h1 a) (lfP (addE O c no h0 h1 rt l f i a q e) no (hsub f h0
  a 0) (hsub f h1 a 1) rt (insC [f, i, a, q, e] l) 0 0 0 0 8 []) (If (l.length.ble 1000 && cnd l && inU q 18446744073709551616 && bsB [f, i, a, q, e] l) (If (iEq f (iOf 0)) (If (iEq f
  (iOf 0)) (If (chB (chA c) && (insC [f, i, a, q, e] l).length.ble 1000 && allW 0 1 [c 56]) (If (iLt (bif iBeq (c 56) (cz (chA c) 56) then IntKind.i64.wrap (iSub (haveO
  (IntKind.i64.wrap (iSub h0 a)) h1 (c 56)) (costO rt (iOf (insC [f, i, a, q, e] l).length))) else haveO (IntKind.i64.wrap (iSub h0 a)) h1 (c 56)) 0) (lfP (addE O c no h0 h1 rt l f i
  a q e) no (hsub f h0 a 0) (hsub f h1 a 1) rt (insC [f, i, a, q, e] l) 0 0 0 0 8 []) (If (chB (chA c) && (insC [f, i, a, q, e] l).length.ble 1000 && allW 0 1 [f]) (If (iLt (bif iBeq
  f (cz (chA c) 56) then IntKind.i64.wrap (iSub (haveO (IntKind.i64.wrap (iSub h0 a)) h1 f) (costO rt (iOf (insC [f, i, a, q, e] l).length))) else haveO (IntKind.i64.wrap (iSub h0 a))
  h1 f) (c 45)) (lfP (addE O c no h0 h1 rt l f i a q e) no (hsub f h0 a 0) (hsub f h1 a 1) rt (insC [f, i, a, q, e] l) 0 0 0 0 10 []) (lfP (addE O c no h0 h1 rt l f i a q e) no (hsub
  f h0 a 0) (hsub f h1 a 1) rt (insC [f, i, a, q, e] l) no (IntKind.i64.wrap (iSub h0 a)) h1 rt 0 (insC [f, i, a, q, e] l))) False)) False) (If (iEq f (iOf (nAdd 0 1))) (If (chB (chA
  c) && (insC [f, i, a, q, e] l).length.ble 1000 && allW 0 1 [c 56]) (If (iLt (bif iBeq (c 56) (cz (chA c) 56) then IntKind.i64.wrap (iSub (haveO h0 (IntKind.i64.wrap (iSub h0 a)) (c
  56)) (costO rt (iOf (insC [f, i, a, q, e] l).length))) else haveO h0 (IntKind.i64.wrap (iSub h0 a)) (c 56)) 0) (lfP (addE O c no h0 h1 rt l f i a q e) no (hsub f h0 a 0) (hsub f h1
  a 1) rt (insC [f, i, a, q, e] l) 0 0 0 0 8 []) (If (chB (chA c) && (insC [f, i, a, q, e] l).length.ble 1000 && allW 0 1 [f]) (If (iLt (bif iBeq f (cz (chA c) 56) then
  IntKind.i64.wrap (iSub (haveO h0 (IntKind.i64.wrap (iSub h0 a)) f) (costO rt (iOf (insC [f, i, a, q, e] l).length))) else haveO h0 (IntKind.i64.wrap (iSub h0 a)) f) (c 45)) (lfP
  (addE O c no h0 h1 rt l f i a q e) no (hsub f h0 a 0) (hsub f h1 a 1) rt (insC [f, i, a, q, e] l) 0 0 0 0 10 []) (lfP (addE O c no h0 h1 rt l f i a q e) no (hsub f h0 a 0) (hsub f
  h1 a 1) rt (insC [f, i, a, q, e] l) no h0 (IntKind.i64.wrap (iSub h0 a)) rt 0 (insC [f, i, a, q, e] l))) False)) False) False)) (If (iEq f (iOf (nAdd 0 1))) (If (iEq f (iOf 0)) (If
  (chB (chA c) && (insC [f, i, a, q, e] l).length.ble 1000 && allW 0 1 [c 56]) (If (iLt (bif iBeq (c 56) (cz (chA c) 56) then IntKind.i64.wrap (iSub (haveO (IntKind.i64.wrap (iSub h1
  a)) h1 (c 56)) (costO rt (iOf (insC [f, i, a, q, e] l).length))) else haveO (IntKind.i64.wrap (iSub h1 a)) h1 (c 56)) 0) (lfP (addE O c no h0 h1 rt l f i a q e) no (hsub f h0 a 0)
  (hsub f h1 a 1) rt (insC [f, i, a, q, e] l) 0 0 0 0 8 []) (If (chB (chA c) && (insC [f, i, a, q, e] l).length.ble 1000 && allW 0 1 [f]) (If (iLt (bif iBeq f (cz (chA c) 56) then
  IntKind.i64.wrap (iSub (haveO (IntKind.i64.wrap (iSub h1 a)) h1 f) (costO rt (iOf (insC [f, i, a, q, e] l).length))) else haveO (IntKind.i64.wrap (iSub h1 a)) h1 f) (c 45)) (lfP
  (addE O c no h0 h1 rt l f i a q e) no (hsub f h0 a 0) (hsub f h1 a 1) rt (insC [f, i, a, q, e] l) 0 0 0 0 10 []) (lfP (addE O c no h0 h1 rt l f i a q e) no (hsub f h0 a 0) (hsub f
  h1 a 1) rt (insC [f, i, a, q, e] l) no (IntKind.i64.wrap (iSub h1 a)) h1 rt 0 (insC [f, i, a, q, e] l))) False)) False) (If (iEq f (iOf (nAdd 0 1))) (If (chB (chA c) && (insC [f, i,
  a, q, e] l).length.ble 1000 && allW 0 1 [c 56]) (If (iLt (bif iBeq (c 56) (cz (chA c) 56) then IntKind.i64.wrap (iSub (haveO h0 (IntKind.i64.wrap (iSub h1 a)) (c 56)) (costO rt (iOf
  (insC [f, i, a, q, e] l).length))) else haveO h0 (IntKind.i64.wrap (iSub h1 a)) (c 56)) 0) (lfP (addE O c no h0 h1 rt l f i a q e) no (hsub f h0 a 0) (hsub f h1 a 1) rt (insC [f, i,
  a, q, e] l) 0 0 0 0 8 []) (If (chB (chA c) && (insC [f, i, a, q, e] l).length.ble 1000 && allW 0 1 [f]) (If (iLt (bif iBeq f (cz (chA c) 56) then IntKind.i64.wrap (iSub (haveO h0
  (IntKind.i64.wrap (iSub h1 a)) f) (costO rt (iOf (insC [f, i, a, q, e] l).length))) else haveO h0 (IntKind.i64.wrap (iSub h1 a)) f) (c 45)) (lfP (addE O c no h0 h1 rt l f i a q e)
  no (hsub f h0 a 0) (hsub f h1 a 1) rt (insC [f, i, a, q, e] l) 0 0 0 0 10 []) (lfP (addE O c no h0 h1 rt l f i a q e) no (hsub f h0 a 0) (hsub f h1 a 1) rt (insC [f, i, a, q, e] l)
  no h0 (IntKind.i64.wrap (iSub h1 a)) rt 0 (insC [f, i, a, q, e] l))) False)) False) False)) False)) False)) False))))))) False) False) (If (iEq (IntKind.i64.wrap (iSub 1 f)) (iOf
  (nAdd 0 1))) (If (l.length.ble 1000) (If (l.length.ble 1000) (If (!iLt (idxS (matchF f i) l) 0) (lfP (addE O c no h0 h1 rt l f i a q e) no (hsub f h0 a 0) (hsub f h1 a 1) rt (insC
  [f, i, a, q, e] l) 0 0 0 0 4 []) (If (iLt a (c 54)) (lfP (addE O c no h0 h1 rt l f i a q e) no (hsub f h0 a 0) (hsub f h1 a 1) rt (insC [f, i, a, q, e] l) 0 0 0 0 9 []) (If (iLe 16
  (iOf (Cont.structs [.i64, .i64, .i64, .u64, .i64] l).n)) (lfP (addE O c no h0 h1 rt l f i a q e) no (hsub f h0 a 0) (hsub f h1 a 1) rt (insC [f, i, a, q, e] l) 0 0 0 0 3 []) (If
  (iLe (c 53) (offN (IntKind.i64.wrap (iSub 1 f)) l)) (lfP (addE O c no h0 h1 rt l f i a q e) no (hsub f h0 a 0) (hsub f h1 a 1) rt (insC [f, i, a, q, e] l) 0 0 0 0 3 []) (If (iLt (c
  55) (IntKind.i64.wrap (iAdd (offM (IntKind.i64.wrap (iSub 1 f)) l) a))) (lfP (addE O c no h0 h1 rt l f i a q e) no (hsub f h0 a 0) (hsub f h1 a 1) rt (insC [f, i, a, q, e] l) 0 0 0
  0 6 []) (If (iEq f (iOf 0)) (If (iLt h0 a) (lfP (addE O c no h0 h1 rt l f i a q e) no (hsub f h0 a 0) (hsub f h1 a 1) rt (insC [f, i, a, q, e] l) 0 0 0 0 8 []) (If (l.length.ble
  1000 && cnd l && inU q 18446744073709551616 && bsB [f, i, a, q, e] l) (If (iEq f (iOf 0)) (If (iEq f (iOf 0)) (If (chB (chA c) && (insC [f, i, a, q, e] l).length.ble 1000 && allW 0
  1 [c 56]) (If (iLt (bif iBeq (c 56) (cz (chA c) 56) then IntKind.i64.wrap (iSub (haveO (IntKind.i64.wrap (iSub h0 a)) h1 (c 56)) (costO rt (iOf (insC [f, i, a, q, e] l).length)))
  else haveO (IntKind.i64.wrap (iSub h0 a)) h1 (c 56)) 0) (lfP (addE O c no h0 h1 rt l f i a q e) no (hsub f h0 a 0) (hsub f h1 a 1) rt (insC [f, i, a, q, e] l) 0 0 0 0 8 []) (If (chB
  (chA c) && (insC [f, i, a, q, e] l).length.ble 1000 && allW 0 1 [f]) (If (iLt (bif iBeq f (cz (chA c) 56) then IntKind.i64.wrap (iSub (haveO (IntKind.i64.wrap (iSub h0 a)) h1 f)
  (costO rt (iOf (insC [f, i, a, q, e] l).length))) else haveO (IntKind.i64.wrap (iSub h0 a)) h1 f) (c 51)) (lfP (addE O c no h0 h1 rt l f i a q e) no (hsub f h0 a 0) (hsub f h1 a 1)
  rt (insC [f, i, a, q, e] l) 0 0 0 0 10 []) (lfP (addE O c no h0 h1 rt l f i a q e) no (hsub f h0 a 0) (hsub f h1 a 1) rt (insC [f, i, a, q, e] l) no (IntKind.i64.wrap (iSub h0 a))
  h1 rt 0 (insC [f, i, a, q, e] l))) False)) False) (If (iEq f (iOf (nAdd 0 1))) (If (chB (chA c) && (insC [f, i, a, q, e] l).length.ble 1000 && allW 0 1 [c 56]) (If (iLt (bif iBeq (c
  56) (cz (chA c) 56) then IntKind.i64.wrap (iSub (haveO h0 (IntKind.i64.wrap (iSub h0 a)) (c 56)) (costO rt (iOf (insC [f, i, a, q, e] l).length))) else haveO h0 (IntKind.i64.wrap
  (iSub h0 a)) (c 56)) 0) (lfP (addE O c no h0 h1 rt l f i a q e) no (hsub f h0 a 0) (hsub f h1 a 1) rt (insC [f, i, a, q, e] l) 0 0 0 0 8 []) (If (chB (chA c) && (insC [f, i, a, q,
  e] l).length.ble 1000 && allW 0 1 [f]) (If (iLt (bif iBeq f (cz (chA c) 56) then IntKind.i64.wrap (iSub (haveO h0 (IntKind.i64.wrap (iSub h0 a)) f) (costO rt (iOf (insC [f, i, a, q,
  e] l).length))) else haveO h0 (IntKind.i64.wrap (iSub h0 a)) f) (c 51)) (lfP (addE O c no h0 h1 rt l f i a q e) no (hsub f h0 a 0) (hsub f h1 a 1) rt (insC [f, i, a, q, e] l) 0 0 0
  0 10 []) (lfP (addE O c no h0 h1 rt l f i a q e) no (hsub f h0 a 0) (hsub f h1 a 1) rt (insC [f, i, a, q, e] l) no h0 (IntKind.i64.wrap (iSub h0 a)) rt 0 (insC [f, i, a, q, e] l)))
  False)) False) False)) (If (iEq f (iOf (nAdd 0 1))) (If (iEq f (iOf 0)) (If (chB (chA c) && (insC [f, i, a, q, e] l).length.ble 1000 && allW 0 1 [c 56]) (If (iLt (bif iBeq (c 56)
  (cz (chA c) 56) then IntKind.i64.wrap (iSub (haveO (IntKind.i64.wrap (iSub h1 a)) h1 (c 56)) (costO rt (iOf (insC [f, i, a, q, e] l).length))) else haveO (IntKind.i64.wrap (iSub h1
  a)) h1 (c 56)) 0) (lfP (addE O c no h0 h1 rt l f i a q e) no (hsub f h0 a 0) (hsub f h1 a 1) rt (insC [f, i, a, q, e] l) 0 0 0 0 8 []) (If (chB (chA c) && (insC [f, i, a, q, e]
  l).length.ble 1000 && allW 0 1 [f]) (If (iLt (bif iBeq f (cz (chA c) 56) then IntKind.i64.wrap (iSub (haveO (IntKind.i64.wrap (iSub h1 a)) h1 f) (costO rt (iOf (insC [f, i, a, q, e]
  l).length))) else haveO (IntKind.i64.wrap (iSub h1 a)) h1 f) (c 51)) (lfP (addE O c no h0 h1 rt l f i a q e) no (hsub f h0 a 0) (hsub f h1 a 1) rt (insC [f, i, a, q, e] l) 0 0 0 0
  10 []) (lfP (addE O c no h0 h1 rt l f i a q e) no (hsub f h0 a 0) (hsub f h1 a 1) rt (insC [f, i, a, q, e] l) no (IntKind.i64.wrap (iSub h1 a)) h1 rt 0 (insC [f, i, a, q, e] l)))
  False)) False) (If (iEq f (iOf (nAdd 0 1))) (If (chB (chA c) && (insC [f, i, a, q, e] l).length.ble 1000 && allW 0 1 [c 56]) (If (iLt (bif iBeq (c 56) (cz (chA c) 56) then
  IntKind.i64.wrap (iSub (haveO h0 (IntKind.i64.wrap (iSub h1 a)) (c 56)) (costO rt (iOf (insC [f, i, a, q, e] l).length))) else haveO h0 (IntKind.i64.wrap (iSub h1 a)) (c 56)) 0)
  (lfP (addE O c no h0 h1 rt l f i a q e) no (hsub f h0 a 0) (hsub f h1 a 1) rt (insC [f, i, a, q, e] l) 0 0 0 0 8 []) (If (chB (chA c) && (insC [f, i, a, q, e] l).length.ble 1000 &&
  allW 0 1 [f]) (If (iLt (bif iBeq f (cz (chA c) 56) then IntKind.i64.wrap (iSub (haveO h0 (IntKind.i64.wrap (iSub h1 a)) f) (costO rt (iOf (insC [f, i, a, q, e] l).length))) else
  haveO h0 (IntKind.i64.wrap (iSub h1 a)) f) (c 51)) (lfP (addE O c no h0 h1 rt l f i a q e) no (hsub f h0 a 0) (hsub f h1 a 1) rt (insC [f, i, a, q, e] l) 0 0 0 0 10 []) (lfP (addE O
  c no h0 h1 rt l f i a q e) no (hsub f h0 a 0) (hsub f h1 a 1) rt (insC [f, i, a, q, e] l) no h0 (IntKind.i64.wrap (iSub h1 a)) rt 0 (insC [f, i, a, q, e] l))) False)) False) False))
  False)) False)) (If (iEq f (iOf (nAdd 0 1))) (If (iLt h1 a) (lfP (addE O c no h0 h1 rt l f i a q e) no (hsub f h0 a 0) (hsub f h1 a 1) rt (insC [f, i, a, q, e] l) 0 0 0 0 8 []) (If
  (l.length.ble 1000 && cnd l && inU q 18446744073709551616 && bsB [f, i, a, q, e] l) (If (iEq f (iOf 0)) (If (iEq f (iOf 0)) (If (chB (chA c) && (insC [f, i, a, q, e] l).length.ble
  1000 && allW 0 1 [c 56]) (If (iLt (bif iBeq (c 56) (cz (chA c) 56) then IntKind.i64.wrap (iSub (haveO (IntKind.i64.wrap (iSub h0 a)) h1 (c 56)) (costO rt (iOf (insC [f, i, a, q, e]
  l).length))) else haveO (IntKind.i64.wrap (iSub h0 a)) h1 (c 56)) 0) (lfP (addE O c no h0 h1 rt l f i a q e) no (hsub f h0 a 0) (hsub f h1 a 1) rt (insC [f, i, a, q, e] l) 0 0 0 0 8
  []) (If (chB (chA c) && (insC [f, i, a, q, e] l).length.ble 1000 && allW 0 1 [f]) (If (iLt (bif iBeq f (cz (chA c) 56) then IntKind.i64.wrap (iSub (haveO (IntKind.i64.wrap (iSub h0
  a)) h1 f) (costO rt (iOf (insC [f, i, a, q, e] l).length))) else haveO (IntKind.i64.wrap (iSub h0 a)) h1 f) (c 51)) (lfP (addE O c no h0 h1 rt l f i a q e) no (hsub f h0 a 0) (hsub
  f h1 a 1) rt (insC [f, i, a, q, e] l) 0 0 0 0 10 []) (lfP (addE O c no h0 h1 rt l f i a q e) no (hsub f h0 a 0) (hsub f h1 a 1) rt (insC [f, i, a, q, e] l) no (IntKind.i64.wrap
  (iSub h0 a)) h1 rt 0 (insC [f, i, a, q, e] l))) False)) False) (If (iEq f (iOf (nAdd 0 1))) (If (chB (chA c) && (insC [f, i, a, q, e] l).length.ble 1000 && allW 0 1 [c 56]) (If (iLt
  (bif iBeq (c 56) (cz (chA c) 56) then IntKind.i64.wrap (iSub (haveO h0 (IntKind.i64.wrap (iSub h0 a)) (c 56)) (costO rt (iOf (insC [f, i, a, q, e] l).length))) else haveO h0
  (IntKind.i64.wrap (iSub h0 a)) (c 56)) 0) (lfP (addE O c no h0 h1 rt l f i a q e) no (hsub f h0 a 0) (hsub f h1 a 1) rt (insC [f, i, a, q, e] l) 0 0 0 0 8 []) (If (chB (chA c) &&
  (insC [f, i, a, q, e] l).length.ble 1000 && allW 0 1 [f]) (If (iLt (bif iBeq f (cz (chA c) 56) then IntKind.i64.wrap (iSub (haveO h0 (IntKind.i64.wrap (iSub h0 a)) f) (costO rt (iOf
  (insC [f, i, a, q, e] l).length))) else haveO h0 (IntKind.i64.wrap (iSub h0 a)) f) (c 51)) (lfP (addE O c no h0 h1 rt l f i a q e) no (hsub f h0 a 0) (hsub f h1 a 1) rt (insC [f, i,
  a, q, e] l) 0 0 0 0 10 []) (lfP (addE O c no h0 h1 rt l f i a q e) no (hsub f h0 a 0) (hsub f h1 a 1) rt (insC [f, i, a, q, e] l) no h0 (IntKind.i64.wrap (iSub h0 a)) rt 0 (insC [f,
  i, a, q, e] l))) False)) False) False)) (If (iEq f (iOf (nAdd 0 1))) (If (iEq f (iOf 0)) (If (chB (chA c) && (insC [f, i, a, q, e] l).length.ble 1000 && allW 0 1 [c 56]) (If (iLt
  (bif iBeq (c 56) (cz (chA c) 56) then IntKind.i64.wrap (iSub (haveO (IntKind.i64.wrap (iSub h1 a)) h1 (c 56)) (costO rt (iOf (insC [f, i, a, q, e] l).length))) else haveO
  (IntKind.i64.wrap (iSub h1 a)) h1 (c 56)) 0) (lfP (addE O c no h0 h1 rt l f i a q e) no (hsub f h0 a 0) (hsub f h1 a 1) rt (insC [f, i, a, q, e] l) 0 0 0 0 8 []) (If (chB (chA c) &&
  (insC [f, i, a, q, e] l).length.ble 1000 && allW 0 1 [f]) (If (iLt (bif iBeq f (cz (chA c) 56) then IntKind.i64.wrap (iSub (haveO (IntKind.i64.wrap (iSub h1 a)) h1 f) (costO rt (iOf
  (insC [f, i, a, q, e] l).length))) else haveO (IntKind.i64.wrap (iSub h1 a)) h1 f) (c 51)) (lfP (addE O c no h0 h1 rt l f i a q e) no (hsub f h0 a 0) (hsub f h1 a 1) rt (insC [f, i,
  a, q, e] l) 0 0 0 0 10 []) (lfP (addE O c no h0 h1 rt l f i a q e) no (hsub f h0 a 0) (hsub f h1 a 1) rt (insC [f, i, a, q, e] l) no (IntKind.i64.wrap (iSub h1 a)) h1 rt 0 (insC [f,
  i, a, q, e] l))) False)) False) (If (iEq f (iOf (nAdd 0 1))) (If (chB (chA c) && (insC [f, i, a, q, e] l).length.ble 1000 && allW 0 1 [c 56]) (If (iLt (bif iBeq (c 56) (cz (chA c)
  56) then IntKind.i64.wrap (iSub (haveO h0 (IntKind.i64.wrap (iSub h1 a)) (c 56)) (costO rt (iOf (insC [f, i, a, q, e] l).length))) else haveO h0 (IntKind.i64.wrap (iSub h1 a)) (c
  56)) 0) (lfP (addE O c no h0 h1 rt l f i a q e) no (hsub f h0 a 0) (hsub f h1 a 1) rt (insC [f, i, a, q, e] l) 0 0 0 0 8 []) (If (chB (chA c) && (insC [f, i, a, q, e] l).length.ble
  1000 && allW 0 1 [f]) (If (iLt (bif iBeq f (cz (chA c) 56) then IntKind.i64.wrap (iSub (haveO h0 (IntKind.i64.wrap (iSub h1 a)) f) (costO rt (iOf (insC [f, i, a, q, e] l).length)))
  else haveO h0 (IntKind.i64.wrap (iSub h1 a)) f) (c 51)) (lfP (addE O c no h0 h1 rt l f i a q e) no (hsub f h0 a 0) (hsub f h1 a 1) rt (insC [f, i, a, q, e] l) 0 0 0 0 10 []) (lfP
  (addE O c no h0 h1 rt l f i a q e) no (hsub f h0 a 0) (hsub f h1 a 1) rt (insC [f, i, a, q, e] l) no h0 (IntKind.i64.wrap (iSub h1 a)) rt 0 (insC [f, i, a, q, e] l))) False)) False)
  False)) False)) False)) False))))))) False) False) False))) False)) False := by
 simp only [ec]
 refine Sx.if_true (by rw [hc, g0, g1]; rfl) (Sx.if_both (fun a => lf_err (by unfold addE; rw [a]; rfl) rfl) (fun a1 => Sx.if_true g2 (Sx.if_both (fun a => lf_err (by unfold addE; rw [a1, a]; rfl) rfl) (fun a3 => ?_))))
 have hr : rightO O c no h0 h1 rt l = true := by simpa using a1
 have hfi : fineO O f i a q e = true := by simpa using a3
 have ho := op01 hc hr
 have hf : f = 0 ∨ f = 1 := by have := (fine_all.1 hfi).1; omega
 have hin : iLe 16 (l.length : Int) = false → ∀ s, allW 0 1 [s] = true → (chB (chA c) && (insC [f, i, a, q, e] l).length.ble 1000 && allW 0 1 [s]) = true := fun h s hs => by
  rw [hc, hs, ins_len]
  rw [iLe_f] at h
  rw [show (l.length + 1).ble 1000 = true by rw [Nat.ble_eq]; omega]; rfl
 have hw : (l.length.ble 1000 && cnd l && inU q 18446744073709551616 && bsB [f, i, a, q, e] l) = true := by rw [g0, g1, g2, right_sorted hr]; rfl
 rcases hf with rfl | rfl
 ·simp only [show iEq (IntKind.i64.wrap (iSub 1 0)) (iOf 0) = false from rfl, show iEq (IntKind.i64.wrap (iSub 1 0)) (iOf (nAdd 0 1)) = true from rfl, show iEq ((0 : Int)) (iOf 0) = true from rfl, show iEq ((0 : Int)) (iOf (nAdd 0 1)) = false from rfl, If_t, If_f]
  exact addS (P := fun k => lfP _ _ _ _ _ _ 0 0 0 0 k []) (by unfold addE; rw [a1, a3]; rfl) (fun k hk e => lf_err e hk) (fun e => lf_ok e rfl rfl) g0 g0 hw (fun h => hin h _ ho) (fun h => hin h _ rfl)
 ·simp only [show iEq (IntKind.i64.wrap (iSub 1 1)) (iOf 0) = true from rfl, show iEq (IntKind.i64.wrap (iSub 1 1)) (iOf (nAdd 0 1)) = false from rfl, show iEq ((1 : Int)) (iOf 0) = false from rfl, show iEq ((1 : Int)) (iOf (nAdd 0 1)) = true from rfl, If_t, If_f]
  exact addS (P := fun k => lfP _ _ _ _ _ _ 0 0 0 0 k []) (by unfold addE; rw [a1, a3]; rfl) (fun k hk e => lf_err e hk) (fun e => lf_ok e rfl rfl) g0 g0 hw (fun h => hin h _ ho) (fun h => hin h _ rfl)
theorem wpc_sadd (O : OO) (Y : OY) (c : Nat → Int) (no h0 h1 rt : Int) (l : List (List Int)) (f i a q e : Int) (F : FO O) (hy : Y = yO O) (hc : chB (chA c) = true) (g0 : Nat.ble l.length 1000 = true) (g1 : cnd l = true) (g2 : inU q 18446744073709551616 = true) (ec : cz (chA c) = c) : wpcI Tryz.prog (spS18 O Y) Tryz.f10.ntmps [] (bodyOf Tryz.f10) 0 64 (envP (mks [.v, .agg [.v, .v, .v, .roS [.i64, .i64, .i64, .u64, .i64], .v], .v] [.v (.agg (chA c)), .node [.v (.int .i64 no), .v (.int .i64 h0), .v (.int .i64 h1), .structs l, .v (.int .i64 rt)], .v (.agg ⟨[.int .i64 f, .int .i64 i, .int .i64 a, .int .u64 q, .int .i64 e]⟩)] 0).1 0) (mks [.v, .agg [.v, .v, .v, .roS [.i64, .i64, .i64, .u64, .i64], .v], .v] [.v (.agg (chA c)), .node [.v (.int .i64 no), .v (.int .i64 h0), .v (.int .i64 h1), .structs l, .v (.int .i64 rt)], .v (.agg ⟨[.int .i64 f, .int .i64 i, .int .i64 a, .int .u64 q, .int .i64 e]⟩)] 0).2 (retPA [(400006, 62, .structs [.i64, .i64, .i64, .u64, .i64] [])] Tryz.prog Tryz.f10.results.toList 1 (⟨[.agg [.v (.int .i64 (bif iBeq (addE O c no h0 h1 rt l f i a q e) 0 then no else 0)), .v (.int .i64 (bif iBeq (addE O c no h0 h1 rt l f i a q e) 0 then (hsub f h0 a 0) else 0)), .v (.int .i64 (bif iBeq (addE O c no h0 h1 rt l f i a q e) 0 then (hsub f h1 a 1) else 0)), .row 1, .v (.int .i64 (bif iBeq (addE O c no h0 h1 rt l f i a q e) 0 then rt else 0))], .v (.int .i64 (addE O c no h0 h1 rt l f i a q e))], [(1, .ro (.structs [.i64, .i64, .i64, .u64, .i64] (bif iBeq (addE O c no h0 h1 rt l f i a q e) 0 then (insC [f, i, a, q, e] l) else [])))]⟩ : Post)) :=
 Eq.mpr (by kernel_rfl) (vc_sadd O Y c no h0 h1 rt l f i a q e F hy hc g0 g1 g2 ec)
theorem ok_sadd (I : Sx.Interp) (O : OO) (hO : O = oo) (Y : OY) (hY : Y = yO O) : Sx.SpecOK I Tryz.prog 10 (pspec [.v, .agg [.v, .v, .v, .roS [.i64, .i64, .i64, .u64, .i64], .v], .v] true (g_sadd O Y)) := by
 refine spec_patAI (spS18_ok I O hO Y hY) (by kernel_rfl) (fun ds => match ds with | [.v (.agg ch), .node [.v (.int .i64 no), .v (.int .i64 h0), .v (.int .i64 h1), .structs l, .v (.int .i64 rt)], .v (.agg ⟨[.int .i64 f, .int .i64 i, .int .i64 a, .int .u64 q, .int .i64 e]⟩)] => [] | _ => []) (fun ds => match ds with | [.v (.agg ch), .node [.v (.int .i64 no), .v (.int .i64 h0), .v (.int .i64 h1), .structs l, .v (.int .i64 rt)], .v (.agg ⟨[.int .i64 f, .int .i64 i, .int .i64 a, .int .u64 q, .int .i64 e]⟩)] => [(400006, 62, .structs [.i64, .i64, .i64, .u64, .i64] [])] | _ => []) Tryz.func10 (by kernel_rfl) (by kernel_rfl) rfl Tryz.ntmps10 (by decide) ?_ ?_
 ·intro ds p bs F h
  unfold g_sadd at h
  split at h
  ·simp only [Option.some.injEq, Prod.mk.injEq] at h
   obtain ⟨_, _, rfl⟩ := h
   kernel_rfl
  ·cases h
 ·intro ds bs F hl h
  unfold g_sadd at h
  split at h
  ·rename_i ch no h0 h1 l rt f i a q e
   simp only [Option.some.injEq, Prod.mk.injEq, Bool.and_eq_true] at h
   obtain ⟨⟨⟨⟨hc, g0⟩, g1⟩, g2⟩, _, rfl⟩ := h
   obtain ⟨c, ec, rfl⟩ : ∃ c, cz ch = c ∧ ch = chA c := ⟨_, rfl, chB_eq hc⟩
   simp only [ec]
   exact wpc_sadd O Y c no h0 h1 rt l f i a q e (fo_oo O hO) hY hc g0 g1 g2 (ec)
  ·cases h
def g_sset (O : OO) (Y : OY) (ds : List Dt) : Option (Bool × List Bool × (List Bool → Post)) := match ds with
 | [.v (.agg ch), .node [.v (.int .i64 no), .v (.int .i64 h0), .v (.int .i64 h1), .structs l, .v (.int .i64 rt)], .v (.int .i64 fr), .v (.int .i64 id), .v (.int .u64 k)] => some ((chB ch) && (Nat.ble l.length 1000) && (cnd l) && (inU k 18446744073709551616), [], fun _ => ⟨[.agg [.v (.int .i64 (bif iBeq (setE O (cz ch) no h0 h1 rt l fr id k) 0 then no else 0)), .v (.int .i64 (bif iBeq (setE O (cz ch) no h0 h1 rt l fr id k) 0 then (hadd fr h0 (findC fr id l 2) 1) else 0)), .v (.int .i64 (bif iBeq (setE O (cz ch) no h0 h1 rt l fr id k) 0 then (hadd fr h1 (findC fr id l 2) 0) else 0)), .row 1, .v (.int .i64 (bif iBeq (setE O (cz ch) no h0 h1 rt l fr id k) 0 then rt else 0))], .v (.int .i64 (setE O (cz ch) no h0 h1 rt l fr id k))], [(1, .ro (.structs [.i64, .i64, .i64, .u64, .i64] (bif iBeq (setE O (cz ch) no h0 h1 rt l fr id k) 0 then (remC [findC fr id l 0, findC fr id l 1, findC fr id l 2, findC fr id l 3, findC fr id l 4] l) else [])))]⟩)
 | _ => none
set_option maxHeartbeats 4000000 in
theorem vc_sset (O : OO) (Y : OY) (c : Nat → Int) (no h0 h1 rt : Int) (l : List (List Int)) (fr id k : Int) (F : FO O) (hy : Y = yO O) (hc : chB (chA c) = true) (g0 : Nat.ble l.length 1000 = true) (g1 : cnd l = true) (g2 : inU k 18446744073709551616 = true) (ec : cz (chA c) = c) :
 If (chB (chA c) && l.length.ble 1000 && cnd l) (If (!rightO O (cz (chA c)) no h0 h1 rt l) (lfP (setE O c no h0 h1 rt l fr id k) no (hadd fr h0 (findC fr id l 2) 1) (hadd fr h1
  (findC fr id l 2) 0) rt (remC [findC fr id l 0, findC fr id l 1, findC fr id l 2, findC fr id l 3, findC fr id l 4] l) 0 0 0 0 1 []) (If (l.length.ble 1000) (If (!!iLt (idxS (matchF
  fr id) l) 0) (lfP (setE O c no h0 h1 rt l fr id k) no (hadd fr h0 (findC fr id l 2) 1) (hadd fr h1 (findC fr id l 2) 0) rt (remC [findC fr id l 0, findC fr id l 1, findC fr id l 2,
  findC fr id l 3, findC fr id l 4] l) 0 0 0 0 5 []) (If (inU k 18446744073709551616) (If (iBne (O.pbase k) (findC fr id l 3)) (lfP (setE O c no h0 h1 rt l fr id k) no (hadd fr h0
  (findC fr id l 2) 1) (hadd fr h1 (findC fr id l 2) 0) rt (remC [findC fr id l 0, findC fr id l 1, findC fr id l 2, findC fr id l 3, findC fr id l 4] l) 0 0 0 0 23 []) (If
  (l.length.ble 1000 && cnd l && inU (findC fr id l 3) 18446744073709551616 && allW 0 1 [IntKind.i64.wrap (iSub 1 fr)]) (lfP (setE O c no h0 h1 rt l fr id k) no (hadd fr h0 (findC fr
  id l 2) 1) (hadd fr h1 (findC fr id l 2) 0) rt (remC [findC fr id l 0, findC fr id l 1, findC fr id l 2, findC fr id l 3, findC fr id l 4] l) no (bif iBeq (IntKind.i64.wrap (iSub 1
  fr)) 0 then IntKind.i64.wrap (iAdd h0 (findC fr id l 2)) else h0) (bif iBeq (IntKind.i64.wrap (iSub 1 fr)) 0 then h1 else IntKind.i64.wrap (iAdd h1 (findC fr id l 2))) rt 0 (remC
  [findC fr id l 0, findC fr id l 1, findC fr id l 2, findC fr id l 3, findC fr id l 4] l)) False)) False)) False)) False := by
 simp only [ec]
 refine Sx.if_true (by rw [hc, g0, g1]; rfl) (Sx.if_both (fun a => lf_err (by unfold setE; rw [a]; rfl) rfl) (fun a1 => Sx.if_true g0 (Sx.if_both (fun b => ?_) (fun b => Sx.if_true g2 (Sx.if_both (fun d => ?_) (fun d => ?_))))))
 ·have b' : iLt (idxS (matchF fr id) l) 0 = true := by simpa using b
  exact lf_err (by unfold setE; rw [a1, b']; rfl) rfl
 ·have b' : iLt (idxS (matchF fr id) l) 0 = false := by simpa using b
  exact lf_err (by unfold setE; rw [a1, b', d]; rfl) rfl
 ·have b' : iLt (idxS (matchF fr id) l) 0 = false := by simpa using b
  have hr : rightO O c no h0 h1 rt l = true := by simpa using a1
  obtain ⟨hf, m, hm, e1, e2, e3⟩ := found_fr hr b'
  have hq : inU (findC fr id l 3) 18446744073709551616 = true := by rw [e3]; exact cnd_at g1 hm
  have hE : setE O c no h0 h1 rt l fr id k = 0 := by unfold setE; rw [a1, b', d]; rfl
  rcases hf with rfl | rfl
  ·exact Sx.if_true (by rw [g0, g1, hq]; rfl) (lf_ok hE rfl rfl)
  ·exact Sx.if_true (by rw [g0, g1, hq]; rfl) (lf_ok hE rfl rfl)
theorem wpc_sset (O : OO) (Y : OY) (c : Nat → Int) (no h0 h1 rt : Int) (l : List (List Int)) (fr id k : Int) (F : FO O) (hy : Y = yO O) (hc : chB (chA c) = true) (g0 : Nat.ble l.length 1000 = true) (g1 : cnd l = true) (g2 : inU k 18446744073709551616 = true) (ec : cz (chA c) = c) : wpcI Tryz.prog (spS18 O Y) Tryz.f12.ntmps [] (bodyOf Tryz.f12) 0 64 (envP (mks [.v, .agg [.v, .v, .v, .roS [.i64, .i64, .i64, .u64, .i64], .v], .v, .v, .v] [.v (.agg (chA c)), .node [.v (.int .i64 no), .v (.int .i64 h0), .v (.int .i64 h1), .structs l, .v (.int .i64 rt)], .v (.int .i64 fr), .v (.int .i64 id), .v (.int .u64 k)] 0).1 0) (mks [.v, .agg [.v, .v, .v, .roS [.i64, .i64, .i64, .u64, .i64], .v], .v, .v, .v] [.v (.agg (chA c)), .node [.v (.int .i64 no), .v (.int .i64 h0), .v (.int .i64 h1), .structs l, .v (.int .i64 rt)], .v (.int .i64 fr), .v (.int .i64 id), .v (.int .u64 k)] 0).2 (retPA [(400010, 62, .structs [.i64, .i64, .i64, .u64, .i64] [])] Tryz.prog Tryz.f12.results.toList 1 (⟨[.agg [.v (.int .i64 (bif iBeq (setE O c no h0 h1 rt l fr id k) 0 then no else 0)), .v (.int .i64 (bif iBeq (setE O c no h0 h1 rt l fr id k) 0 then (hadd fr h0 (findC fr id l 2) 1) else 0)), .v (.int .i64 (bif iBeq (setE O c no h0 h1 rt l fr id k) 0 then (hadd fr h1 (findC fr id l 2) 0) else 0)), .row 1, .v (.int .i64 (bif iBeq (setE O c no h0 h1 rt l fr id k) 0 then rt else 0))], .v (.int .i64 (setE O c no h0 h1 rt l fr id k))], [(1, .ro (.structs [.i64, .i64, .i64, .u64, .i64] (bif iBeq (setE O c no h0 h1 rt l fr id k) 0 then (remC [findC fr id l 0, findC fr id l 1, findC fr id l 2, findC fr id l 3, findC fr id l 4] l) else [])))]⟩ : Post)) :=
 Eq.mpr (by kernel_rfl) (vc_sset O Y c no h0 h1 rt l fr id k F hy hc g0 g1 g2 ec)
theorem ok_sset (I : Sx.Interp) (O : OO) (hO : O = oo) (Y : OY) (hY : Y = yO O) : Sx.SpecOK I Tryz.prog 12 (pspec [.v, .agg [.v, .v, .v, .roS [.i64, .i64, .i64, .u64, .i64], .v], .v, .v, .v] true (g_sset O Y)) := by
 refine spec_patAI (spS18_ok I O hO Y hY) (by kernel_rfl) (fun ds => match ds with | [.v (.agg ch), .node [.v (.int .i64 no), .v (.int .i64 h0), .v (.int .i64 h1), .structs l, .v (.int .i64 rt)], .v (.int .i64 fr), .v (.int .i64 id), .v (.int .u64 k)] => [] | _ => []) (fun ds => match ds with | [.v (.agg ch), .node [.v (.int .i64 no), .v (.int .i64 h0), .v (.int .i64 h1), .structs l, .v (.int .i64 rt)], .v (.int .i64 fr), .v (.int .i64 id), .v (.int .u64 k)] => [(400010, 62, .structs [.i64, .i64, .i64, .u64, .i64] [])] | _ => []) Tryz.func12 (by kernel_rfl) (by kernel_rfl) rfl Tryz.ntmps12 (by decide) ?_ ?_
 ·intro ds p bs F h
  unfold g_sset at h
  split at h
  ·simp only [Option.some.injEq, Prod.mk.injEq] at h
   obtain ⟨_, _, rfl⟩ := h
   kernel_rfl
  ·cases h
 ·intro ds bs F hl h
  unfold g_sset at h
  split at h
  ·rename_i ch no h0 h1 l rt fr id k
   simp only [Option.some.injEq, Prod.mk.injEq, Bool.and_eq_true] at h
   obtain ⟨⟨⟨⟨hc, g0⟩, g1⟩, g2⟩, _, rfl⟩ := h
   obtain ⟨c, ec, rfl⟩ : ∃ c, cz ch = c ∧ ch = chA c := ⟨_, rfl, chB_eq hc⟩
   simp only [ec]
   exact wpc_sset O Y c no h0 h1 rt l fr id k (fo_oo O hO) hY hc g0 g1 g2 (ec)
  ·cases h
def g_sfail (O : OO) (Y : OY) (ds : List Dt) : Option (Bool × List Bool × (List Bool → Post)) := match ds with
 | [.v (.agg ch), .node [.v (.int .i64 no), .v (.int .i64 h0), .v (.int .i64 h1), .structs l, .v (.int .i64 rt)], .v (.int .i64 fr), .v (.int .i64 id)] => some ((chB ch) && (Nat.ble l.length 1000) && (cnd l), [], fun _ => ⟨[.agg [.v (.int .i64 (bif iBeq (failE O (cz ch) no h0 h1 rt l fr id) 0 then no else 0)), .v (.int .i64 (bif iBeq (failE O (cz ch) no h0 h1 rt l fr id) 0 then (hadd fr h0 (findC fr id l 2) 0) else 0)), .v (.int .i64 (bif iBeq (failE O (cz ch) no h0 h1 rt l fr id) 0 then (hadd fr h1 (findC fr id l 2) 1) else 0)), .row 1, .v (.int .i64 (bif iBeq (failE O (cz ch) no h0 h1 rt l fr id) 0 then rt else 0))], .v (.int .i64 (failE O (cz ch) no h0 h1 rt l fr id))], [(1, .ro (.structs [.i64, .i64, .i64, .u64, .i64] (bif iBeq (failE O (cz ch) no h0 h1 rt l fr id) 0 then (remC [findC fr id l 0, findC fr id l 1, findC fr id l 2, findC fr id l 3, findC fr id l 4] l) else [])))]⟩)
 | _ => none
set_option maxHeartbeats 4000000 in
theorem vc_sfail (O : OO) (Y : OY) (c : Nat → Int) (no h0 h1 rt : Int) (l : List (List Int)) (fr id : Int) (F : FO O) (hy : Y = yO O) (hc : chB (chA c) = true) (g0 : Nat.ble l.length 1000 = true) (g1 : cnd l = true) (ec : cz (chA c) = c) :
 If (chB (chA c) && l.length.ble 1000 && cnd l) (If (!rightO O (cz (chA c)) no h0 h1 rt l) (lfP (failE O c no h0 h1 rt l fr id) no (hadd fr h0 (findC fr id l 2) 0) (hadd fr h1 (findC
  fr id l 2) 1) rt (remC [findC fr id l 0, findC fr id l 1, findC fr id l 2, findC fr id l 3, findC fr id l 4] l) 0 0 0 0 1 []) (If (l.length.ble 1000) (If (!!iLt (idxS (matchF fr id)
  l) 0) (lfP (failE O c no h0 h1 rt l fr id) no (hadd fr h0 (findC fr id l 2) 0) (hadd fr h1 (findC fr id l 2) 1) rt (remC [findC fr id l 0, findC fr id l 1, findC fr id l 2, findC fr
  id l 3, findC fr id l 4] l) 0 0 0 0 5 []) (If (l.length.ble 1000 && cnd l && inU (findC fr id l 3) 18446744073709551616 && allW 0 1 [fr]) (lfP (failE O c no h0 h1 rt l fr id) no
  (hadd fr h0 (findC fr id l 2) 0) (hadd fr h1 (findC fr id l 2) 1) rt (remC [findC fr id l 0, findC fr id l 1, findC fr id l 2, findC fr id l 3, findC fr id l 4] l) no (bif iBeq fr 0
  then IntKind.i64.wrap (iAdd h0 (findC fr id l 2)) else h0) (bif iBeq fr 0 then h1 else IntKind.i64.wrap (iAdd h1 (findC fr id l 2))) rt 0 (remC [findC fr id l 0, findC fr id l 1,
  findC fr id l 2, findC fr id l 3, findC fr id l 4] l)) False)) False)) False := by
 simp only [ec]
 refine Sx.if_true (by rw [hc, g0, g1]; rfl) (Sx.if_both (fun a => lf_err (by unfold failE; rw [a]; rfl) rfl) (fun a1 => Sx.if_true g0 (Sx.if_both (fun b => ?_) (fun b => ?_))))
 ·have b' : iLt (idxS (matchF fr id) l) 0 = true := by simpa using b
  exact lf_err (by unfold failE; rw [a1, b']; rfl) rfl
 ·have b' : iLt (idxS (matchF fr id) l) 0 = false := by simpa using b
  have hr : rightO O c no h0 h1 rt l = true := by simpa using a1
  obtain ⟨hf, m, hm, e1, e2, e3⟩ := found_fr hr b'
  have hq : inU (findC fr id l 3) 18446744073709551616 = true := by rw [e3]; exact cnd_at g1 hm
  have hE : failE O c no h0 h1 rt l fr id = 0 := by unfold failE; rw [a1, b']; rfl
  rcases hf with rfl | rfl
  ·exact Sx.if_true (by rw [g0, g1, hq]; rfl) (lf_ok hE rfl rfl)
  ·exact Sx.if_true (by rw [g0, g1, hq]; rfl) (lf_ok hE rfl rfl)
theorem wpc_sfail (O : OO) (Y : OY) (c : Nat → Int) (no h0 h1 rt : Int) (l : List (List Int)) (fr id : Int) (F : FO O) (hy : Y = yO O) (hc : chB (chA c) = true) (g0 : Nat.ble l.length 1000 = true) (g1 : cnd l = true) (ec : cz (chA c) = c) : wpcI Tryz.prog (spS18 O Y) Tryz.f14.ntmps [] (bodyOf Tryz.f14) 0 64 (envP (mks [.v, .agg [.v, .v, .v, .roS [.i64, .i64, .i64, .u64, .i64], .v], .v, .v] [.v (.agg (chA c)), .node [.v (.int .i64 no), .v (.int .i64 h0), .v (.int .i64 h1), .structs l, .v (.int .i64 rt)], .v (.int .i64 fr), .v (.int .i64 id)] 0).1 0) (mks [.v, .agg [.v, .v, .v, .roS [.i64, .i64, .i64, .u64, .i64], .v], .v, .v] [.v (.agg (chA c)), .node [.v (.int .i64 no), .v (.int .i64 h0), .v (.int .i64 h1), .structs l, .v (.int .i64 rt)], .v (.int .i64 fr), .v (.int .i64 id)] 0).2 (retPA [(400008, 62, .structs [.i64, .i64, .i64, .u64, .i64] [])] Tryz.prog Tryz.f14.results.toList 1 (⟨[.agg [.v (.int .i64 (bif iBeq (failE O c no h0 h1 rt l fr id) 0 then no else 0)), .v (.int .i64 (bif iBeq (failE O c no h0 h1 rt l fr id) 0 then (hadd fr h0 (findC fr id l 2) 0) else 0)), .v (.int .i64 (bif iBeq (failE O c no h0 h1 rt l fr id) 0 then (hadd fr h1 (findC fr id l 2) 1) else 0)), .row 1, .v (.int .i64 (bif iBeq (failE O c no h0 h1 rt l fr id) 0 then rt else 0))], .v (.int .i64 (failE O c no h0 h1 rt l fr id))], [(1, .ro (.structs [.i64, .i64, .i64, .u64, .i64] (bif iBeq (failE O c no h0 h1 rt l fr id) 0 then (remC [findC fr id l 0, findC fr id l 1, findC fr id l 2, findC fr id l 3, findC fr id l 4] l) else [])))]⟩ : Post)) :=
 Eq.mpr (by kernel_rfl) (vc_sfail O Y c no h0 h1 rt l fr id F hy hc g0 g1 ec)
theorem ok_sfail (I : Sx.Interp) (O : OO) (hO : O = oo) (Y : OY) (hY : Y = yO O) : Sx.SpecOK I Tryz.prog 14 (pspec [.v, .agg [.v, .v, .v, .roS [.i64, .i64, .i64, .u64, .i64], .v], .v, .v] true (g_sfail O Y)) := by
 refine spec_patAI (spS18_ok I O hO Y hY) (by kernel_rfl) (fun ds => match ds with | [.v (.agg ch), .node [.v (.int .i64 no), .v (.int .i64 h0), .v (.int .i64 h1), .structs l, .v (.int .i64 rt)], .v (.int .i64 fr), .v (.int .i64 id)] => [] | _ => []) (fun ds => match ds with | [.v (.agg ch), .node [.v (.int .i64 no), .v (.int .i64 h0), .v (.int .i64 h1), .structs l, .v (.int .i64 rt)], .v (.int .i64 fr), .v (.int .i64 id)] => [(400008, 62, .structs [.i64, .i64, .i64, .u64, .i64] [])] | _ => []) Tryz.func14 (by kernel_rfl) (by kernel_rfl) rfl Tryz.ntmps14 (by decide) ?_ ?_
 ·intro ds p bs F h
  unfold g_sfail at h
  split at h
  ·simp only [Option.some.injEq, Prod.mk.injEq] at h
   obtain ⟨_, _, rfl⟩ := h
   kernel_rfl
  ·cases h
 ·intro ds bs F hl h
  unfold g_sfail at h
  split at h
  ·rename_i ch no h0 h1 l rt fr id
   simp only [Option.some.injEq, Prod.mk.injEq, Bool.and_eq_true] at h
   obtain ⟨⟨⟨hc, g0⟩, g1⟩, _, rfl⟩ := h
   obtain ⟨c, ec, rfl⟩ : ∃ c, cz ch = c ∧ ch = chA c := ⟨_, rfl, chB_eq hc⟩
   simp only [ec]
   exact wpc_sfail O Y c no h0 h1 rt l fr id (fo_oo O hO) hY hc g0 g1 (ec)
  ·cases h
def g_srate (O : OO) (Y : OY) (ds : List Dt) : Option (Bool × List Bool × (List Bool → Post)) := match ds with
 | [.v (.agg ch), .node [.v (.int .i64 no), .v (.int .i64 h0), .v (.int .i64 h1), .structs l, .v (.int .i64 rt)], .v (.int .i64 r)] => some ((chB ch) && (Nat.ble l.length 1000) && (cnd l), [], fun _ => ⟨[.agg [.v (.int .i64 (bif iBeq (rateE O (cz ch) no h0 h1 rt l r) 0 then no else 0)), .v (.int .i64 (bif iBeq (rateE O (cz ch) no h0 h1 rt l r) 0 then h0 else 0)), .v (.int .i64 (bif iBeq (rateE O (cz ch) no h0 h1 rt l r) 0 then h1 else 0)), .row 1, .v (.int .i64 (bif iBeq (rateE O (cz ch) no h0 h1 rt l r) 0 then r else 0))], .v (.int .i64 (rateE O (cz ch) no h0 h1 rt l r))], [(1, .ro (.structs [.i64, .i64, .i64, .u64, .i64] (bif iBeq (rateE O (cz ch) no h0 h1 rt l r) 0 then l else [])))]⟩)
 | _ => none