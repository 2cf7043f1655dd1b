/- Sheet: what comes of a condition that is added, settled, or fails, and of another rate (printed by genSh.py; VCs by VcTool). -/
import Derived.Test.YtgekiddgdjeaiaaGreatSl1
namespace Go.Proofs.YtgekiddgdjeaiaaGreat
open Go.RowKit Go.Lib Ckp Cfd Cpd Sx
open IntKind (i64 u64 u8 i32 u32)
set_option linter.unusedVariables false
set_option linter.unusedSimpArgs false
set_option maxRecDepth 1000000
set_option maxHeartbeats 4000000
@[reducible] def lfP (E no h0 h1 rt : Int) (l : List (List Int)) (x0 x1 x2 x3 k : Int) (L : List (List Int)) : Prop := ((Value.int .i64 x0 = Value.int .i64 (bif ax E 0 then no else 0) ∧ Value.int .i64 x1 = Value.int .i64 (bif ax E 0 then h0 else 0) ∧ Value.int .i64 x2 = Value.int .i64 (bif ax E 0 then h1 else 0) ∧ Value.int .i64 x3 = Value.int .i64 (bif ax E 0 then rt else 0)) ∧ Value.int .i64 k = Value.int .i64 E) ∧ True ∧ af.structs [.i64, .i64, .i64, .u64, .i64] L = af.structs [.i64, .i64, .i64, .u64, .i64] (bif ax E 0 then l else []) ∧ True
def jr (f : Int) (j : Nat) : Nat := bif ax f 0 then 50 + j else 44 + j
def jm (c : Nat → Int) (h0 h1 rt : Int) (n : Int) (side : Int) : Int := bif ax side (c 56) then i64.wrap (jf h0 h1 side - jg rt n) else jf h0 h1 side
def hsub (f h a : Int) (k : Int) : Int := bif ax f k then i64.wrap (h - a) else h
def hadd (f h a : Int) (k : Int) : Int := bif ax f k then i64.wrap (h + a) else h
def gm (O : OO) (c : Nat → Int) (no h0 h1 rt : Int) (l : List (List Int)) (f i a q e : Int) : Int :=
 bif (bif !(jh O c no h0 h1 rt l) then true else !(yg O f i a q e)) then 1 else
 bif !(iLt (ed (aj f i) l) 0) then 4 else
 bif iLt a (c (jr f 4)) then 9 else
 bif (bif iLe 16 (l.length : Int) then true else iLe (c (jr f 3)) (o7 (i64.wrap (1 - f)) l)) then 3 else
 bif iLt (c (jr f 5)) (i64.wrap (og (i64.wrap (1 - f)) l + a)) then 6 else
 bif iLt (jf h0 h1 f) a then 8 else
 bif iLt (jm c (hsub f h0 a 0) (hsub f h1 a 1) rt ((bn [f, i, a, q, e] l).length : Int) (c 56)) 0 then 8 else
 bif iLt (jm c (hsub f h0 a 0) (hsub f h1 a 1) rt ((bn [f, i, a, q, e] l).length : Int) f) (c (jr f 1)) then 10 else 0
def aas (O : OO) (c : Nat → Int) (no h0 h1 rt : Int) (l : List (List Int)) (fr id k : Int) : Int :=
 bif !(jh O c no h0 h1 rt l) then 1 else bif iLt (ed (aj fr id) l) 0 then 5 else bif qc (O.jl k) (ak fr id l 3) then 23 else 0
def vz (O : OO) (c : Nat → Int) (no h0 h1 rt : Int) (l : List (List Int)) (fr id : Int) : Int :=
 bif !(jh O c no h0 h1 rt l) then 1 else bif iLt (ed (aj fr id) l) 0 then 5 else 0
def ny (O : OO) (c : Nat → Int) (no h0 h1 rt : Int) (l : List (List Int)) (r : Int) : Int :=
 bif (bif !(jh O c no h0 h1 rt l) then true else !(jy 0 1000 [r])) then 1 else
 bif iLt (jm c h0 h1 r (l.length : Int) (c 56)) 0 then 8 else
 bif (bif iLt rt r then iLt (jm c h0 h1 r (l.length : Int) (c 56)) (c (jr (c 56) 1)) else false) then 10 else 0
theorem eu {E k no h0 h1 rt : Int} {l : List (List Int)} {ks : List IntKind} (hE : E = k) (hk : ax k 0 = false) : (((Value.int .i64 0 = Value.int .i64 (bif ax E 0 then no else 0) ∧ Value.int .i64 0 = Value.int .i64 (bif ax E 0 then h0 else 0) ∧ Value.int .i64 0 = Value.int .i64 (bif ax E 0 then h1 else 0) ∧ Value.int .i64 0 = Value.int .i64 (bif ax E 0 then rt else 0)) ∧ Value.int .i64 k = Value.int .i64 E) ∧ True ∧ af.structs ks [] = af.structs ks (bif ax E 0 then l else []) ∧ True) := by
 subst hE
 rw [hk]
 exact ⟨⟨⟨rfl, rfl, rfl, rfl⟩, rfl⟩, trivial, rfl, trivial⟩
theorem aht {E no h0 h1 rt a b : Int} {l : List (List Int)} {ks : List IntKind} (hE : E = 0) (e1 : a = h0) (e2 : b = h1) : (((Value.int .i64 no = Value.int .i64 (bif ax E 0 then no else 0) ∧ Value.int .i64 a = Value.int .i64 (bif ax E 0 then h0 else 0) ∧ Value.int .i64 b = Value.int .i64 (bif ax E 0 then h1 else 0) ∧ Value.int .i64 rt = Value.int .i64 (bif ax E 0 then rt else 0)) ∧ Value.int .i64 0 = Value.int .i64 E) ∧ True ∧ af.structs ks l = af.structs ks (bif ax E 0 then l else []) ∧ True) := by
 subst hE e1 e2
 exact ⟨⟨⟨rfl, rfl, rfl, rfl⟩, rfl⟩, trivial, rfl, trivial⟩
theorem ae7 (q : List Int) (l : List (List Int)) : (bn q l).length = l.length + 1 := by
 have := cnt_le q l
 unfold bn
 simp only [zlA, List.length_take, List.length_drop, List.length_cons, List.length_nil]; omega
theorem agl {O : OO} {c : Nat → Int} {no h0 h1 rt : Int} {l : List (List Int)} {f i : Int} (h : jh O c no h0 h1 rt l = true) (hf : iLt (ed (aj f i) l) 0 = false) : (f = 0 ∨ f = 1) ∧ ∃ k, k < l.length ∧ fr (l.getD k []) = f ∧ idn (l.getD k []) = i ∧ ∀ j, ak f i l j = (l.getD k []).getD j 0 := by
 obtain ⟨k, hk, h1, h2, h3⟩ := bdt hf
 refine ⟨?_, k, hk, h1, h2, h3⟩
 have := ((qo.1 h).fine _ (List.getElem_mem hk)).1.1
 rw [← getD_at hk, h1] at this
 omega
theorem bpj {O : OO} {c : Nat → Int} {no h0 h1 rt : Int} {l : List (List Int)} (hc : chB (chA c) = true) (h : jh O c no h0 h1 rt l = true) : jy 0 1 [c 56] = true := by
 rw [ww]
 have := akj hc (qo.1 h).fit
 omega
def bau (O : OO) (Y : OY) (f : FuncId) : Option Sx.Spec := match f with
 | 34 => some (au [.agg [.v, .v, .v, .roS [.i64, .i64, .i64, .u64, .i64], .v], .v] false (aut O Y))
 | 40 => some (au [.agg [.v, .v, .v, .roS [.i64, .i64, .i64, .u64, .i64], .v], .v, .v] true (ahj O Y))
 | f => bag O Y f
theorem af0 (I : Sx.Interp) (O : OO) (hO : O = oo) (Y : OY) (hY : Y = yO O) : ∀ f s, bau O Y f = some s → ag I Tryz.prog f s := by
 intro f s h
 unfold bau at h
 split at h
 · cases h; exact bi6 I O hO Y hY
 · cases h; exact ay3 I O hO Y hY
 ·exact ank I O hO Y hY _ s h
theorem addS {E : Int} {P : Int → Prop} {K : Prop} {G H W V V2 b0 b1 b2 b3 b4 b5 b6 b7 : Bool} (hE : E = bif b0 then 4 else bif b1 then 9 else bif (bif b2 then true else b3) then 3 else bif b4 then 6 else bif b5 then 8 else bif b6 then 8 else bif b7 then 10 else 0) (hP : ∀ k, ax k 0 = false → E = k → P k) (hK : E = 0 → K) (hG : G = true) (hH : H = true) (hW : W = true) (hV : b2 = false → V = true) (hV2 : b2 = false → V2 = true) :
  Sx.If G (Sx.If H (Sx.If b0 (P 4) (Sx.If b1 (P 9) (Sx.If b2 (P 3) (Sx.If b3 (P 3) (Sx.If b4 (P 6) (Sx.If b5 (P 8) (Sx.If W (Sx.If V (Sx.If b6 (P 8) (Sx.If V2 (Sx.If b7 (P 10) K) False)) False) False))))))) False) False := by
 subst hG hH hW
 cases b0 with
 | true => exact hP 4 rfl hE
 | false => cases b1 with
  | true => exact hP 9 rfl hE
  | false => cases b2 with
   | true => exact hP 3 rfl hE
   | false =>
    have v := hV rfl
    have v2 := hV2 rfl
    subst v v2
    cases b3 with
    | true => exact hP 3 rfl hE
    | false => cases b4 with
     | true => exact hP 6 rfl hE
     | false => cases b5 with
      | true => exact hP 8 rfl hE
      | false => cases b6 with
       | true => exact hP 8 rfl hE
       | false => cases b7 with
        | true => exact hP 10 rfl hE
        | false => exact hK hE
def aua (O : OO) (Y : OY) (ds : List Dt) : zG := match ds with
 | [.v (.agg ch), .node [.v (.int .i64 no), .v (.int .i64 h0), .v (.int .i64 h1), .structs l, .v (.int .i64 rt)], .v (.agg ⟨[.int .i64 f, .int .i64 i, .int .i64 a, .int .u64 q, .int .i64 e]⟩)] => some ((chB ch) && (Nat.ble l.length 1000) && (cnd l) && (inU q 18446744073709551616), [], fun _ => ⟨[.agg [.v (.int .i64 (bif ax (gm O (cz ch) no h0 h1 rt l f i a q e) 0 then no else 0)), .v (.int .i64 (bif ax (gm O (cz ch) no h0 h1 rt l f i a q e) 0 then (hsub f h0 a 0) else 0)), .v (.int .i64 (bif ax (gm O (cz ch) no h0 h1 rt l f i a q e) 0 then (hsub f h1 a 1) else 0)), .row 1, .v (.int .i64 (bif ax (gm O (cz ch) no h0 h1 rt l f i a q e) 0 then rt else 0))], .v (.int .i64 (gm O (cz ch) no h0 h1 rt l f i a q e))], [(1, .ro (.structs [.i64, .i64, .i64, .u64, .i64] (bif ax (gm O (cz ch) no h0 h1 rt l f i a q e) 0 then (bn [f, i, a, q, e] l) else [])))]⟩)
 | _ => none
theorem bfm (O : OO) (Y : OY) (c : Nat → Int) (no h0 h1 rt : Int) (l : List (List Int)) (f i a q e : Int) (F : FO O) (hy : Y = yO O) (hc : chB (chA c) = true) (g0 : Nat.ble l.length 1000 = true) (g1 : cnd l = true) (g2 : inU q 18446744073709551616 = true) (ec : cz (chA c) = c) :
 let T1 := If (l.length.ble 1000 && cnd l && inU q 18446744073709551616 && bsB [f, i, a, q, e] l) (If (iEq f (iOf 0)) (If (iEq f (iOf 0)) (If (chB (chA c) && (bn [f, i, a, q, e] l).length.ble 1000 && jy 0 1 [c 56]) (If (iLt (bif ax (c 56) (cz (chA c) 56) then i64.wrap (di (jf (i64.wrap (di h0 a)) h1 (c 56)) (jg rt (iOf (bn [f, i, a, q, e] l).length))) else jf (i64.wrap (di h0 a)) h1 (c 56)) 0) (lfP (gm O c no h0 h1 rt l f i a q e) no (hsub f h0 a 0) (hsub f h1 a 1) rt (bn [f, i, a, q, e] l) 0 0 0 0 8 []) (If (chB (chA c) && (bn [f, i, a, q, e] l).length.ble 1000 && jy 0 1 [f]) (If (iLt (bif ax f (cz (chA c) 56) then i64.wrap (di (jf (i64.wrap (di h0 a)) h1 f) (jg rt (iOf (bn [f, i, a, q, e] l).length))) else jf (i64.wrap (di h0 a)) h1 f) (c 45)) (lfP (gm O c no h0 h1 rt l f i a q e) no (hsub f h0 a 0) (hsub f h1 a 1) rt (bn [f, i, a, q, e] l) 0 0 0 0 10 []) (lfP (gm O c no h0 h1 rt l f i a q e) no (hsub f h0 a 0) (hsub f h1 a 1) rt (bn [f, i, a, q, e] l) no (i64.wrap (di h0 a)) h1 rt 0 (bn [f, i, a, q, e] l))) False)) False) (If (iEq f (iOf (ay 0 1))) (If (chB (chA c) && (bn [f, i, a, q, e] l).length.ble 1000 && jy 0 1 [c 56]) (If (iLt (bif ax (c 56) (cz (chA c) 56) then i64.wrap (di (jf h0 (i64.wrap (di h0 a)) (c 56)) (jg rt (iOf (bn [f, i, a, q, e] l).length))) else jf h0 (i64.wrap (di h0 a)) (c 56)) 0) (lfP (gm O c no h0 h1 rt l f i a q e) no (hsub f h0 a 0) (hsub f h1 a 1) rt (bn [f, i, a, q, e] l) 0 0 0 0 8 []) (If (chB (chA c) && (bn [f, i, a, q, e] l).length.ble 1000 && jy 0 1 [f]) (If (iLt (bif ax f (cz (chA c) 56) then i64.wrap (di (jf h0 (i64.wrap (di h0 a)) f) (jg rt (iOf (bn [f, i, a, q, e] l).length))) else jf h0 (i64.wrap (di h0 a)) f) (c 45)) (lfP (gm O c no h0 h1 rt l f i a q e) no (hsub f h0 a 0) (hsub f h1 a 1) rt (bn [f, i, a, q, e] l) 0 0 0 0 10 []) (lfP (gm O c no h0 h1 rt l f i a q e) no (hsub f h0 a 0) (hsub f h1 a 1) rt (bn [f, i, a, q, e] l) no h0 (i64.wrap (di h0 a)) rt 0 (bn [f, i, a, q, e] l))) False)) False) False)) (If (iEq f (iOf (ay 0 1))) (If (iEq f (iOf 0)) (If (chB (chA c) && (bn [f, i, a, q, e] l).length.ble 1000 && jy 0 1 [c 56]) (If (iLt (bif ax (c 56) (cz (chA c) 56) then i64.wrap (di (jf (i64.wrap (di h1 a)) h1 (c 56)) (jg rt (iOf (bn [f, i, a, q, e] l).length))) else jf (i64.wrap (di h1 a)) h1 (c 56)) 0) (lfP (gm O c no h0 h1 rt l f i a q e) no (hsub f h0 a 0) (hsub f h1 a 1) rt (bn [f, i, a, q, e] l) 0 0 0 0 8 []) (If (chB (chA c) && (bn [f, i, a, q, e] l).length.ble 1000 && jy 0 1 [f]) (If (iLt (bif ax f (cz (chA c) 56) then i64.wrap (di (jf (i64.wrap (di h1 a)) h1 f) (jg rt (iOf (bn [f, i, a, q, e] l).length))) else jf (i64.wrap (di h1 a)) h1 f) (c 45)) (lfP (gm O c no h0 h1 rt l f i a q e) no (hsub f h0 a 0) (hsub f h1 a 1) rt (bn [f, i, a, q, e] l) 0 0 0 0 10 []) (lfP (gm O c no h0 h1 rt l f i a q e) no (hsub f h0 a 0) (hsub f h1 a 1) rt (bn [f, i, a, q, e] l) no (i64.wrap (di h1 a)) h1 rt 0 (bn [f, i, a, q, e] l))) False)) False) (If (iEq f (iOf (ay 0 1))) (If (chB (chA c) && (bn [f, i, a, q, e] l).length.ble 1000 && jy 0 1 [c 56]) (If (iLt (bif ax (c 56) (cz (chA c) 56) then i64.wrap (di (jf h0 (i64.wrap (di h1 a)) (c 56)) (jg rt (iOf (bn [f, i, a, q, e] l).length))) else jf h0 (i64.wrap (di h1 a)) (c 56)) 0) (lfP (gm O c no h0 h1 rt l f i a q e) no (hsub f h0 a 0) (hsub f h1 a 1) rt (bn [f, i, a, q, e] l) 0 0 0 0 8 []) (If (chB (chA c) && (bn [f, i, a, q, e] l).length.ble 1000 && jy 0 1 [f]) (If (iLt (bif ax f (cz (chA c) 56) then i64.wrap (di (jf h0 (i64.wrap (di h1 a)) f) (jg rt (iOf (bn [f, i, a, q, e] l).length))) else jf h0 (i64.wrap (di h1 a)) f) (c 45)) (lfP (gm O c no h0 h1 rt l f i a q e) no (hsub f h0 a 0) (hsub f h1 a 1) rt (bn [f, i, a, q, e] l) 0 0 0 0 10 []) (lfP (gm O c no h0 h1 rt l f i a q e) no (hsub f h0 a 0) (hsub f h1 a 1) rt (bn [f, i, a, q, e] l) no h0 (i64.wrap (di h1 a)) rt 0 (bn [f, i, a, q, e] l))) False)) False) False)) False)) False;
  let T2 := If (l.length.ble 1000 && cnd l && inU q 18446744073709551616 && bsB [f, i, a, q, e] l) (If (iEq f (iOf 0)) (If (iEq f (iOf 0)) (If (chB (chA c) && (bn [f, i, a, q, e] l).length.ble 1000 && jy 0 1 [c 56]) (If (iLt (bif ax (c 56) (cz (chA c) 56) then i64.wrap (di (jf (i64.wrap (di h0 a)) h1 (c 56)) (jg rt (iOf (bn [f, i, a, q, e] l).length))) else jf (i64.wrap (di h0 a)) h1 (c 56)) 0) (lfP (gm O c no h0 h1 rt l f i a q e) no (hsub f h0 a 0) (hsub f h1 a 1) rt (bn [f, i, a, q, e] l) 0 0 0 0 8 []) (If (chB (chA c) && (bn [f, i, a, q, e] l).length.ble 1000 && jy 0 1 [f]) (If (iLt (bif ax f (cz (chA c) 56) then i64.wrap (di (jf (i64.wrap (di h0 a)) h1 f) (jg rt (iOf (bn [f, i, a, q, e] l).length))) else jf (i64.wrap (di h0 a)) h1 f) (c 51)) (lfP (gm O c no h0 h1 rt l f i a q e) no (hsub f h0 a 0) (hsub f h1 a 1) rt (bn [f, i, a, q, e] l) 0 0 0 0 10 []) (lfP (gm O c no h0 h1 rt l f i a q e) no (hsub f h0 a 0) (hsub f h1 a 1) rt (bn [f, i, a, q, e] l) no (i64.wrap (di h0 a)) h1 rt 0 (bn [f, i, a, q, e] l))) False)) False) (If (iEq f (iOf (ay 0 1))) (If (chB (chA c) && (bn [f, i, a, q, e] l).length.ble 1000 && jy 0 1 [c 56]) (If (iLt (bif ax (c 56) (cz (chA c) 56) then i64.wrap (di (jf h0 (i64.wrap (di h0 a)) (c 56)) (jg rt (iOf (bn [f, i, a, q, e] l).length))) else jf h0 (i64.wrap (di h0 a)) (c 56)) 0) (lfP (gm O c no h0 h1 rt l f i a q e) no (hsub f h0 a 0) (hsub f h1 a 1) rt (bn [f, i, a, q, e] l) 0 0 0 0 8 []) (If (chB (chA c) && (bn [f, i, a, q, e] l).length.ble 1000 && jy 0 1 [f]) (If (iLt (bif ax f (cz (chA c) 56) then i64.wrap (di (jf h0 (i64.wrap (di h0 a)) f) (jg rt (iOf (bn [f, i, a, q, e] l).length))) else jf h0 (i64.wrap (di h0 a)) f) (c 51)) (lfP (gm O c no h0 h1 rt l f i a q e) no (hsub f h0 a 0) (hsub f h1 a 1) rt (bn [f, i, a, q, e] l) 0 0 0 0 10 []) (lfP (gm O c no h0 h1 rt l f i a q e) no (hsub f h0 a 0) (hsub f h1 a 1) rt (bn [f, i, a, q, e] l) no h0 (i64.wrap (di h0 a)) rt 0 (bn [f, i, a, q, e] l))) False)) False) False)) (If (iEq f (iOf (ay 0 1))) (If (iEq f (iOf 0)) (If (chB (chA c) && (bn [f, i, a, q, e] l).length.ble 1000 && jy 0 1 [c 56]) (If (iLt (bif ax (c 56) (cz (chA c) 56) then i64.wrap (di (jf (i64.wrap (di h1 a)) h1 (c 56)) (jg rt (iOf (bn [f, i, a, q, e] l).length))) else jf (i64.wrap (di h1 a)) h1 (c 56)) 0) (lfP (gm O c no h0 h1 rt l f i a q e) no (hsub f h0 a 0) (hsub f h1 a 1) rt (bn [f, i, a, q, e] l) 0 0 0 0 8 []) (If (chB (chA c) && (bn [f, i, a, q, e] l).length.ble 1000 && jy 0 1 [f]) (If (iLt (bif ax f (cz (chA c) 56) then i64.wrap (di (jf (i64.wrap (di h1 a)) h1 f) (jg rt (iOf (bn [f, i, a, q, e] l).length))) else jf (i64.wrap (di h1 a)) h1 f) (c 51)) (lfP (gm O c no h0 h1 rt l f i a q e) no (hsub f h0 a 0) (hsub f h1 a 1) rt (bn [f, i, a, q, e] l) 0 0 0 0 10 []) (lfP (gm O c no h0 h1 rt l f i a q e) no (hsub f h0 a 0) (hsub f h1 a 1) rt (bn [f, i, a, q, e] l) no (i64.wrap (di h1 a)) h1 rt 0 (bn [f, i, a, q, e] l))) False)) False) (If (iEq f (iOf (ay 0 1))) (If (chB (chA c) && (bn [f, i, a, q, e] l).length.ble 1000 && jy 0 1 [c 56]) (If (iLt (bif ax (c 56) (cz (chA c) 56) then i64.wrap (di (jf h0 (i64.wrap (di h1 a)) (c 56)) (jg rt (iOf (bn [f, i, a, q, e] l).length))) else jf h0 (i64.wrap (di h1 a)) (c 56)) 0) (lfP (gm O c no h0 h1 rt l f i a q e) no (hsub f h0 a 0) (hsub f h1 a 1) rt (bn [f, i, a, q, e] l) 0 0 0 0 8 []) (If (chB (chA c) && (bn [f, i, a, q, e] l).length.ble 1000 && jy 0 1 [f]) (If (iLt (bif ax f (cz (chA c) 56) then i64.wrap (di (jf h0 (i64.wrap (di h1 a)) f) (jg rt (iOf (bn [f, i, a, q, e] l).length))) else jf h0 (i64.wrap (di h1 a)) f) (c 51)) (lfP (gm O c no h0 h1 rt l f i a q e) no (hsub f h0 a 0) (hsub f h1 a 1) rt (bn [f, i, a, q, e] l) 0 0 0 0 10 []) (lfP (gm O c no h0 h1 rt l f i a q e) no (hsub f h0 a 0) (hsub f h1 a 1) rt (bn [f, i, a, q, e] l) no h0 (i64.wrap (di h1 a)) rt 0 (bn [f, i, a, q, e] l))) False)) False) False)) False)) False;
  let T3 := lfP (gm O c no h0 h1 rt l f i a q e) no (hsub f h0 a 0) (hsub f h1 a 1) rt (bn [f, i, a, q, e] l) 0 0 0 0 3 []; let T4 := lfP (gm O c no h0 h1 rt l f i a q e) no (hsub f h0 a 0) (hsub f h1 a 1) rt (bn [f, i, a, q, e] l) 0 0 0 0 8 [];
  let T5 := lfP (gm O c no h0 h1 rt l f i a q e) no (hsub f h0 a 0) (hsub f h1 a 1) rt (bn [f, i, a, q, e] l) 0 0 0 0 1 []; let T6 := lfP (gm O c no h0 h1 rt l f i a q e) no (hsub f h0 a 0) (hsub f h1 a 1) rt (bn [f, i, a, q, e] l) 0 0 0 0 4 [];
  let T7 := lfP (gm O c no h0 h1 rt l f i a q e) no (hsub f h0 a 0) (hsub f h1 a 1) rt (bn [f, i, a, q, e] l) 0 0 0 0 9 []; let T8 := lfP (gm O c no h0 h1 rt l f i a q e) no (hsub f h0 a 0) (hsub f h1 a 1) rt (bn [f, i, a, q, e] l) 0 0 0 0 6 [];
  let T9 := i64.wrap (dh (og (i64.wrap (di 1 f)) l) a); If (chB (chA c) && l.length.ble 1000 && cnd l) (If (!jh O (cz (chA c)) no h0 h1 rt l) T5 (If (inU q
  18446744073709551616) (If (!yg O f i a q e) T5 (If (iEq (i64.wrap (di 1 f)) (iOf 0)) (If (l.length.ble 1000) (If (l.length.ble 1000) (If (!iLt (ed (aj f i) l) 0)
  T6 (If (iLt a (c 48)) T7 (If (iLe 16 (iOf (cS l).n)) T3 (If (iLe (c 47) (o7 (i64.wrap (di 1 f)) l)) T3 (If (iLt (c 49) T9) T8 (If (iEq f (iOf 0)) (If (iLt h0 a) T4 T1)
  (If (iEq f (iOf (ay 0 1))) (If (iLt h1 a) T4 T1) False))))))) False) False) (If (iEq (i64.wrap (di 1 f)) (iOf (ay 0 1))) (If (l.length.ble 1000) (If (l.length.ble
  1000) (If (!iLt (ed (aj f i) l) 0) T6 (If (iLt a (c 54)) T7 (If (iLe 16 (iOf (cS l).n)) T3 (If (iLe (c 53) (o7 (i64.wrap (di 1 f)) l)) T3 (If (iLt (c 55) T9) T8
  (If (iEq f (iOf 0)) (If (iLt h0 a) T4 T2) (If (iEq f (iOf (ay 0 1))) (If (iLt h1 a) T4 T2) False))))))) False) False) False))) False)) False := by
 conv => zeta
 simp only [ec]
 refine ziT (by rw [hc, g0, g1]; rfl) (ae (fun a => eu (by unfold gm; rw [a]; rfl) rfl) (fun a1 => ziT g2 (ae (fun a => eu (by unfold gm; rw [a1, a]; rfl) rfl) (fun a3 => ?_))))
 have hr : jh O c no h0 h1 rt l = true := by simpa using a1
 have hfi : yg O f i a q e = true := by simpa using a3
 have ho := bpj hc hr
 have hf : f = 0 ∨ f = 1 := by have := (aba.1 hfi).1; omega
 have hin : iLe 16 (l.length : Int) = false → ∀ s, jy 0 1 [s] = true → (chB (chA c) && (bn [f, i, a, q, e] l).length.ble 1000 && jy 0 1 [s]) = true := fun h s hs => by
  rw [hc, hs, ae7]
  rw [ajt] at h
  rw [show (l.length + 1).ble 1000 = true by rw [Nat.ble_eq]; omega]; rfl
 have hw : (l.length.ble 1000 && cnd l && inU q 18446744073709551616 && bsB [f, i, a, q, e] l) = true := by rw [g0, g1, g2, aad hr]; rfl
 rcases hf with rfl | rfl
 ·simp only [show iEq (i64.wrap (di 1 0)) (iOf 0) = false from rfl, show iEq (i64.wrap (di 1 0)) (iOf (ay 0 1)) = true from rfl, show iEq ((0 : Int)) (iOf 0) = true from rfl, show iEq ((0 : Int)) (iOf (ay 0 1)) = false from rfl, axe, a7t]
  exact addS (P := fun k => lfP _ _ _ _ _ _ 0 0 0 0 k []) (by unfold gm; rw [a1, a3]; rfl) (fun k hk e => eu e hk) (fun e => aht e rfl rfl) g0 g0 hw (fun h => hin h _ ho) (fun h => hin h _ rfl)
 ·simp only [show iEq (i64.wrap (di 1 1)) (iOf 0) = true from rfl, show iEq (i64.wrap (di 1 1)) (iOf (ay 0 1)) = false from rfl, show iEq ((1 : Int)) (iOf 0) = false from rfl, show iEq ((1 : Int)) (iOf (ay 0 1)) = true from rfl, axe, a7t]
  exact addS (P := fun k => lfP _ _ _ _ _ _ 0 0 0 0 k []) (by unfold gm; rw [a1, a3]; rfl) (fun k hk e => eu e hk) (fun e => aht e rfl rfl) g0 g0 hw (fun h => hin h _ ho) (fun h => hin h _ rfl)
theorem bjj (I : Sx.Interp) (O : OO) (hO : O = oo) (Y : OY) (hY : Y = yO O) : ag I Tryz.prog 6 (au [.v, .agg [.v, .v, .v, .roS [.i64, .i64, .i64, .u64, .i64], .v], .v] true (aua O Y)) := by
 refine yc (af0 I O hO Y hY) (by kernel_rfl) (fun _ => []) (fun ds => match ds with | [.v (.agg ch), .node [.v (.int .i64 no), .v (.int .i64 h0), .v (.int .i64 h1), .structs l, .v (.int .i64 rt)], .v (.agg ⟨[.int .i64 f, .int .i64 i, .int .i64 a, .int .u64 q, .int .i64 e]⟩)] => [(400006, 41, .structs [.i64, .i64, .i64, .u64, .i64] [])] | _ => []) Tryz.func6 (by kernel_rfl) (by kernel_rfl) rfl Tryz.ntmps6 (by decide) ?_ ?_
 ·intro ds p bs F h
  unfold aua at h
  split at h
  ·simp only [zsI, zpI] at h
   obtain ⟨_, _, rfl⟩ := h
   kernel_rfl
  ·cases h
 ·intro ds bs F hl h
  unfold aua at h
  split at h
  ·rename_i ch no h0 h1 l rt f i a q e
   simp only [zsI, zpI, zaT] at h
   obtain ⟨⟨⟨⟨hc, g0⟩, g1⟩, g2⟩, _, rfl⟩ := h
   obtain ⟨c, ec, rfl⟩ : ∃ c, cz ch = c ∧ ch = chA c := ⟨_, rfl, aak hc⟩
   simp only [ec]
   exact Eq.mpr (by kernel_rfl) (bfm O Y c no h0 h1 rt l f i a q e (dn O hO) hY hc g0 g1 g2 (ec))
  ·cases h
def avx (O : OO) (Y : OY) (ds : List Dt) : zG := match ds with
 | [.v (.agg ch), .node [.v (.int .i64 no), .v (.int .i64 h0), .v (.int .i64 h1), .structs l, .v (.int .i64 rt)], .v (.int .i64 fr), .v (.int .i64 id), .v (.int .u64 k)] => some ((chB ch) && (Nat.ble l.length 1000) && (cnd l) && (inU k 18446744073709551616), [], fun _ => ⟨[.agg [.v (.int .i64 (bif ax (aas O (cz ch) no h0 h1 rt l fr id k) 0 then no else 0)), .v (.int .i64 (bif ax (aas O (cz ch) no h0 h1 rt l fr id k) 0 then (hadd fr h0 (ak fr id l 2) 1) else 0)), .v (.int .i64 (bif ax (aas O (cz ch) no h0 h1 rt l fr id k) 0 then (hadd fr h1 (ak fr id l 2) 0) else 0)), .row 1, .v (.int .i64 (bif ax (aas O (cz ch) no h0 h1 rt l fr id k) 0 then rt else 0))], .v (.int .i64 (aas O (cz ch) no h0 h1 rt l fr id k))], [(1, .ro (.structs [.i64, .i64, .i64, .u64, .i64] (bif ax (aas O (cz ch) no h0 h1 rt l fr id k) 0 then (mg [ak fr id l 0, ak fr id l 1, ak fr id l 2, ak fr id l 3, ak fr id l 4] l) else [])))]⟩)
 | _ => none
theorem bjc (O : OO) (Y : OY) (c : Nat → Int) (no h0 h1 rt : Int) (l : List (List Int)) (fr id k : Int) (F : FO O) (hy : Y = yO O) (hc : chB (chA c) = true) (g0 : Nat.ble l.length 1000 = true) (g1 : cnd l = true) (g2 : inU k 18446744073709551616 = true) (ec : cz (chA c) = c) :
 let T1 := mg [ak fr id l 0, ak fr id l 1, ak fr id l 2, ak fr id l 3, ak fr id l 4] l; If (chB (chA c) && l.length.ble 1000 && cnd l) (If (!jh O (cz (chA c)) no
  h0 h1 rt l) (lfP (aas O c no h0 h1 rt l fr id k) no (hadd fr h0 (ak fr id l 2) 1) (hadd fr h1 (ak fr id l 2) 0) rt T1 0 0 0 0 1 []) (If (l.length.ble 1000) (If (!!iLt (ed
  (aj fr id) l) 0) (lfP (aas O c no h0 h1 rt l fr id k) no (hadd fr h0 (ak fr id l 2) 1) (hadd fr h1 (ak fr id l 2) 0) rt T1 0 0 0 0 5 []) (If (inU k 18446744073709551616)
  (If (qc (O.jl k) (ak fr id l 3)) (lfP (aas O c no h0 h1 rt l fr id k) no (hadd fr h0 (ak fr id l 2) 1) (hadd fr h1 (ak fr id l 2) 0) rt T1 0 0 0 0 23 []) (If
  (l.length.ble 1000 && cnd l && inU (ak fr id l 3) 18446744073709551616 && jy 0 1 [i64.wrap (di 1 fr)]) (lfP (aas O c no h0 h1 rt l fr id k) no (hadd fr h0 (ak fr
  id l 2) 1) (hadd fr h1 (ak fr id l 2) 0) rt T1 no (bif ax (i64.wrap (di 1 fr)) 0 then i64.wrap (dh h0 (ak fr id l 2)) else h0) (bif ax
  (i64.wrap (di 1 fr)) 0 then h1 else i64.wrap (dh h1 (ak fr id l 2))) rt 0 T1) False)) False)) False)) False := by
 conv => zeta
 simp only [ec]
 refine ziT (by rw [hc, g0, g1]; rfl) (ae (fun a => eu (by unfold aas; rw [a]; rfl) rfl) (fun a1 => ziT g0 (ae (fun b => ?_) (fun b => ziT g2 (ae (fun d => ?_) (fun d => ?_))))))
 ·have b' : iLt (ed (aj fr id) l) 0 = true := by simpa using b
  exact eu (by unfold aas; rw [a1, b']; rfl) rfl
 ·have b' : iLt (ed (aj fr id) l) 0 = false := by simpa using b
  exact eu (by unfold aas; rw [a1, b', d]; rfl) rfl
 ·have b' : iLt (ed (aj fr id) l) 0 = false := by simpa using b
  have hr : jh O c no h0 h1 rt l = true := by simpa using a1
  obtain ⟨hf, m, hm, e1, e2, e3⟩ := agl hr b'
  have hq : inU (ak fr id l 3) 18446744073709551616 = true := by rw [e3]; exact aaz g1 hm
  have hE : aas O c no h0 h1 rt l fr id k = 0 := by unfold aas; rw [a1, b', d]; rfl
  rcases hf with rfl | rfl
  ·exact ziT (by rw [g0, g1, hq]; rfl) (aht hE rfl rfl)
  ·exact ziT (by rw [g0, g1, hq]; rfl) (aht hE rfl rfl)
theorem bjk (I : Sx.Interp) (O : OO) (hO : O = oo) (Y : OY) (hY : Y = yO O) : ag I Tryz.prog 8 (au [.v, .agg [.v, .v, .v, .roS [.i64, .i64, .i64, .u64, .i64], .v], .v, .v, .v] true (avx O Y)) := by
 refine yc (af0 I O hO Y hY) (by kernel_rfl) (fun _ => []) (fun ds => match ds with | [.v (.agg ch), .node [.v (.int .i64 no), .v (.int .i64 h0), .v (.int .i64 h1), .structs l, .v (.int .i64 rt)], .v (.int .i64 fr), .v (.int .i64 id), .v (.int .u64 k)] => [(400010, 41, .structs [.i64, .i64, .i64, .u64, .i64] [])] | _ => []) Tryz.func8 (by kernel_rfl) (by kernel_rfl) rfl Tryz.ntmps8 (by decide) ?_ ?_
 ·intro ds p bs F h
  unfold avx at h
  split at h
  ·simp only [zsI, zpI] at h
   obtain ⟨_, _, rfl⟩ := h
   kernel_rfl
  ·cases h
 ·intro ds bs F hl h
  unfold avx at h
  split at h
  ·rename_i ch no h0 h1 l rt fr id k
   simp only [zsI, zpI, zaT] at h
   obtain ⟨⟨⟨⟨hc, g0⟩, g1⟩, g2⟩, _, rfl⟩ := h
   obtain ⟨c, ec, rfl⟩ : ∃ c, cz ch = c ∧ ch = chA c := ⟨_, rfl, aak hc⟩
   simp only [ec]
   exact Eq.mpr (by kernel_rfl) (bjc O Y c no h0 h1 rt l fr id k (dn O hO) hY hc g0 g1 g2 (ec))
  ·cases h
def aly (O : OO) (Y : OY) (ds : List Dt) : zG := match ds with
 | [.v (.agg ch), .node [.v (.int .i64 no), .v (.int .i64 h0), .v (.int .i64 h1), .structs l, .v (.int .i64 rt)], .v (.int .i64 fr), .v (.int .i64 id)] => some ((chB ch) && (Nat.ble l.length 1000) && (cnd l), [], fun _ => ⟨[.agg [.v (.int .i64 (bif ax (vz O (cz ch) no h0 h1 rt l fr id) 0 then no else 0)), .v (.int .i64 (bif ax (vz O (cz ch) no h0 h1 rt l fr id) 0 then (hadd fr h0 (ak fr id l 2) 0) else 0)), .v (.int .i64 (bif ax (vz O (cz ch) no h0 h1 rt l fr id) 0 then (hadd fr h1 (ak fr id l 2) 1) else 0)), .row 1, .v (.int .i64 (bif ax (vz O (cz ch) no h0 h1 rt l fr id) 0 then rt else 0))], .v (.int .i64 (vz O (cz ch) no h0 h1 rt l fr id))], [(1, .ro (.structs [.i64, .i64, .i64, .u64, .i64] (bif ax (vz O (cz ch) no h0 h1 rt l fr id) 0 then (mg [ak fr id l 0, ak fr id l 1, ak fr id l 2, ak fr id l 3, ak fr id l 4] l) else [])))]⟩)
 | _ => none
theorem ba6 (O : OO) (Y : OY) (c : Nat → Int) (no h0 h1 rt : Int) (l : List (List Int)) (fr id : Int) (F : FO O) (hy : Y = yO O) (hc : chB (chA c) = true) (g0 : Nat.ble l.length 1000 = true) (g1 : cnd l = true) (ec : cz (chA c) = c) :
 let T1 := mg [ak fr id l 0, ak fr id l 1, ak fr id l 2, ak fr id l 3, ak fr id l 4] l; If (chB (chA c) && l.length.ble 1000 && cnd l) (If (!jh O (cz (chA c)) no
  h0 h1 rt l) (lfP (vz O c no h0 h1 rt l fr id) no (hadd fr h0 (ak fr id l 2) 0) (hadd fr h1 (ak fr id l 2) 1) rt T1 0 0 0 0 1 []) (If (l.length.ble 1000) (If (!!iLt (ed
  (aj fr id) l) 0) (lfP (vz O c no h0 h1 rt l fr id) no (hadd fr h0 (ak fr id l 2) 0) (hadd fr h1 (ak fr id l 2) 1) rt T1 0 0 0 0 5 []) (If (l.length.ble 1000 && cnd l &&
  inU (ak fr id l 3) 18446744073709551616 && jy 0 1 [fr]) (lfP (vz O c no h0 h1 rt l fr id) no (hadd fr h0 (ak fr id l 2) 0) (hadd fr h1 (ak fr id l 2) 1) rt T1 no (bif
  ax fr 0 then i64.wrap (dh h0 (ak fr id l 2)) else h0) (bif ax fr 0 then h1 else i64.wrap (dh h1 (ak fr id l 2))) rt 0 T1) False)) False)) False := by
 conv => zeta
 simp only [ec]
 refine ziT (by rw [hc, g0, g1]; rfl) (ae (fun a => eu (by unfold vz; rw [a]; rfl) rfl) (fun a1 => ziT g0 (ae (fun b => ?_) (fun b => ?_))))
 ·have b' : iLt (ed (aj fr id) l) 0 = true := by simpa using b
  exact eu (by unfold vz; rw [a1, b']; rfl) rfl
 ·have b' : iLt (ed (aj fr id) l) 0 = false := by simpa using b
  have hr : jh O c no h0 h1 rt l = true := by simpa using a1
  obtain ⟨hf, m, hm, e1, e2, e3⟩ := agl hr b'
  have hq : inU (ak fr id l 3) 18446744073709551616 = true := by rw [e3]; exact aaz g1 hm
  have hE : vz O c no h0 h1 rt l fr id = 0 := by unfold vz; rw [a1, b']; rfl
  rcases hf with rfl | rfl
  ·exact ziT (by rw [g0, g1, hq]; rfl) (aht hE rfl rfl)
  ·exact ziT (by rw [g0, g1, hq]; rfl) (aht hE rfl rfl)
theorem a8y (I : Sx.Interp) (O : OO) (hO : O = oo) (Y : OY) (hY : Y = yO O) : ag I Tryz.prog 10 (au [.v, .agg [.v, .v, .v, .roS [.i64, .i64, .i64, .u64, .i64], .v], .v, .v] true (aly O Y)) := by
 refine yc (af0 I O hO Y hY) (by kernel_rfl) (fun _ => []) (fun ds => match ds with | [.v (.agg ch), .node [.v (.int .i64 no), .v (.int .i64 h0), .v (.int .i64 h1), .structs l, .v (.int .i64 rt)], .v (.int .i64 fr), .v (.int .i64 id)] => [(400008, 41, .structs [.i64, .i64, .i64, .u64, .i64] [])] | _ => []) Tryz.func10 (by kernel_rfl) (by kernel_rfl) rfl Tryz.ntmps10 (by decide) ?_ ?_
 ·intro ds p bs F h
  unfold aly at h
  split at h
  ·simp only [zsI, zpI] at h
   obtain ⟨_, _, rfl⟩ := h
   kernel_rfl
  ·cases h
 ·intro ds bs F hl h
  unfold aly at h
  split at h
  ·rename_i ch no h0 h1 l rt fr id
   simp only [zsI, zpI, zaT] at h
   obtain ⟨⟨⟨hc, g0⟩, g1⟩, _, rfl⟩ := h
   obtain ⟨c, ec, rfl⟩ : ∃ c, cz ch = c ∧ ch = chA c := ⟨_, rfl, aak hc⟩
   simp only [ec]
   exact Eq.mpr (by kernel_rfl) (ba6 O Y c no h0 h1 rt l fr id (dn O hO) hY hc g0 g1 (ec))
  ·cases h
def amf (O : OO) (Y : OY) (ds : List Dt) : zG := match ds with
 | [.v (.agg ch), .node [.v (.int .i64 no), .v (.int .i64 h0), .v (.int .i64 h1), .structs l, .v (.int .i64 rt)], .v (.int .i64 r)] => some ((chB ch) && (Nat.ble l.length 1000) && (cnd l), [], fun _ => ⟨[.agg [.v (.int .i64 (bif ax (ny O (cz ch) no h0 h1 rt l r) 0 then no else 0)), .v (.int .i64 (bif ax (ny O (cz ch) no h0 h1 rt l r) 0 then h0 else 0)), .v (.int .i64 (bif ax (ny O (cz ch) no h0 h1 rt l r) 0 then h1 else 0)), .row 1, .v (.int .i64 (bif ax (ny O (cz ch) no h0 h1 rt l r) 0 then r else 0))], .v (.int .i64 (ny O (cz ch) no h0 h1 rt l r))], [(1, .ro (.structs [.i64, .i64, .i64, .u64, .i64] (bif ax (ny O (cz ch) no h0 h1 rt l r) 0 then l else [])))]⟩)
 | _ => none
theorem bbg (O : OO) (Y : OY) (c : Nat → Int) (no h0 h1 rt : Int) (l : List (List Int)) (r : Int) (F : FO O) (hy : Y = yO O) (hc : chB (chA c) = true) (g0 : Nat.ble l.length 1000 = true) (g1 : cnd l = true) (ec : cz (chA c) = c) :
 let T1 := bif ax (c 56) (cz (chA c) 56) then i64.wrap (di (jf h0 h1 (c 56)) (jg r (iOf l.length))) else jf h0 h1 (c 56); let T2 := lfP (ny O c no h0 h1 rt l r) no h0 h1 r l no h0 h1 r 0 l;
  let T3 := lfP (ny O c no h0 h1 rt l r) no h0 h1 r l 0 0 0 0 10 []; let T4 := lfP (ny O c no h0 h1 rt l r) no h0 h1 r l 0 0 0 0 1 []; If (chB (chA c) && l.length.ble 1000 &&
  cnd l) (If (!jh O (cz (chA c)) no h0 h1 rt l) T4 (If (!jy 0 1000 [r]) T4 (If (l.length.ble 1000) (If (chB (chA c) && l.length.ble 1000 && jy 0 1 [c 56]) (If (iLt T1 0) (lfP
  (ny O c no h0 h1 rt l r) no h0 h1 r l 0 0 0 0 8 []) (If (iLt rt r) (If (iEq (i64.wrap (di 1 (c 56))) (iOf 0)) (If (iLt T1 (c 45)) T3 T2) (If (iEq (i64.wrap
  (di 1 (c 56))) (iOf (ay 0 1))) (If (iLt T1 (c 51)) T3 T2) False)) T2)) False) False))) False := by
 conv => zeta
 simp only [ec]
 refine ziT (by rw [hc, g0, g1]; rfl) (ae (fun a => eu (by unfold ny; rw [a]; rfl) rfl) (fun a1 => ae (fun a => eu (by unfold ny; rw [a1, a]; rfl) rfl) (fun a2 => ziT g0 ?_)))
 have hr : jh O c no h0 h1 rt l = true := by simpa using a1
 have ho := bpj hc hr
 have hf := akj hc (qo.1 hr).fit
 refine ziT (by rw [hc, g0, ho]; rfl) (ae (fun a => eu (by unfold ny; rw [a1, a2, show iLt (jm c h0 h1 r (l.length : Int) (c 56)) 0 = true from a]; rfl) rfl) (fun a3 => ae (fun a => ?_) (fun a => aht (by unfold ny; rw [a1, a2, show iLt (jm c h0 h1 r (l.length : Int) (c 56)) 0 = false from a3, a]; rfl) rfl rfl)))
 refine ae (fun b => ae (fun d => eu ?_ rfl) (fun d => aht ?_ rfl rfl)) (fun b => ae (fun b2 => ae (fun d => eu ?_ rfl) (fun d => aht ?_ rfl rfl)) (fun b2 => ?_))
 ·have e : jr (c 56) 1 = 45 := by
   rcases hf with h | h
   ·rw [h] at b; cases (show false = true from b)
   ·rw [h]; rfl
  unfold ny
  rw [a1, a2, show iLt (jm c h0 h1 r (l.length : Int) (c 56)) 0 = false from a3, a, e, show iLt (jm c h0 h1 r (l.length : Int) (c 56)) (c 45) = true from d]; rfl
 ·have e : jr (c 56) 1 = 45 := by
   rcases hf with h | h
   ·rw [h] at b; cases (show false = true from b)
   ·rw [h]; rfl
  unfold ny
  rw [a1, a2, show iLt (jm c h0 h1 r (l.length : Int) (c 56)) 0 = false from a3, a, e, show iLt (jm c h0 h1 r (l.length : Int) (c 56)) (c 45) = false from d]; rfl
 ·have e : jr (c 56) 1 = 51 := by
   rcases hf with h | h
   ·rw [h]; rfl
   ·rw [h] at b2; cases (show false = true from b2)
  unfold ny
  rw [a1, a2, show iLt (jm c h0 h1 r (l.length : Int) (c 56)) 0 = false from a3, a, e, show iLt (jm c h0 h1 r (l.length : Int) (c 56)) (c 51) = true from d]; rfl
 ·have e : jr (c 56) 1 = 51 := by
   rcases hf with h | h
   ·rw [h]; rfl
   ·rw [h] at b2; cases (show false = true from b2)
  unfold ny
  rw [a1, a2, show iLt (jm c h0 h1 r (l.length : Int) (c 56)) 0 = false from a3, a, e, show iLt (jm c h0 h1 r (l.length : Int) (c 56)) (c 51) = false from d]; rfl
 ·rcases hf with h | h
  ·rw [h] at b2; cases (show true = false from b2)
  ·rw [h] at b; cases (show true = false from b)
theorem bcq (I : Sx.Interp) (O : OO) (hO : O = oo) (Y : OY) (hY : Y = yO O) : ag I Tryz.prog 12 (au [.v, .agg [.v, .v, .v, .roS [.i64, .i64, .i64, .u64, .i64], .v], .v] true (amf O Y)) := by
 refine yc (af0 I O hO Y hY) (by kernel_rfl) (fun _ => []) (fun ds => match ds with | [.v (.agg ch), .node [.v (.int .i64 no), .v (.int .i64 h0), .v (.int .i64 h1), .structs l, .v (.int .i64 rt)], .v (.int .i64 r)] => [(400006, 41, .structs [.i64, .i64, .i64, .u64, .i64] [])] | _ => []) Tryz.func12 (by kernel_rfl) (by kernel_rfl) rfl Tryz.ntmps12 (by decide) ?_ ?_
 ·intro ds p bs F h
  unfold amf at h
  split at h
  ·simp only [zsI, zpI] at h
   obtain ⟨_, _, rfl⟩ := h
   kernel_rfl
  ·cases h
 ·intro ds bs F hl h
  unfold amf at h
  split at h
  ·rename_i ch no h0 h1 l rt r
   simp only [zsI, zpI, zaT] at h
   obtain ⟨⟨⟨hc, g0⟩, g1⟩, _, rfl⟩ := h
   obtain ⟨c, ec, rfl⟩ : ∃ c, cz ch = c ∧ ch = chA c := ⟨_, rfl, aak hc⟩
   simp only [ec]
   exact Eq.mpr (by kernel_rfl) (bbg O Y c no h0 h1 rt l r (dn O hO) hY hc g0 g1 (ec))
  ·cases h
end Go.Proofs.YtgekiddgdjeaiaaGreat
