/- The document's terms and sheet: what is right, what is offered, found, what it costs (printed by genSt.py; VCs by VcTool). -/
import Derived.Test.YtgekiddgdjeaiaaGreatSh8
namespace Go.Proofs.YtgekiddgdjeaiaaGreat
open Go.RowKit Go.Lib Ckp Cfd Cpd Sx
open IntKind (i64 u64 u8 i32 u32)
set_option linter.unusedVariables false
set_option linter.unusedSimpArgs false
set_option maxRecDepth 1000000
set_option maxHeartbeats 4000000

theorem aa8 {n lo hi : Int} : inB n lo hi = true ↔ lo ≤ n ∧ n ≤ hi := by
 unfold inB
 cases h : iLe lo n
 ·simp only [Bz, Sx.af.n] at h; simp only [cond_false]; constructor
  ·intro h'; cases h'
  ·intro h'; omega
 ·simp only [Bz, Sx.af.n] at h; rw [cond_true, ag4]; omega
theorem adm {n lo hi : Int} : (bif iLt n lo then true else iLt hi n) = !(inB n lo hi) := by
 cases h : inB n lo hi
 ·have h' : ¬ (lo ≤ n ∧ n ≤ hi) := fun c => by rw [aa8.2 c] at h; cases h
  cases h2 : iLt n lo
  ·simp only [Bz, Sx.af.n] at h2
   show iLt hi n = true
   simp only [Bz, Sx.af.n]; omega
  ·rfl
 ·have h' := aa8.1 h
  rw [show iLt n lo = false by simp only [Bz, Sx.af.n]; omega, show iLt hi n = false by simp only [Bz, Sx.af.n]; omega]; rfl
theorem yj {n lo hi : Int} : jy lo hi [n] = inB n lo hi := by
 have e : jy lo hi [n] = (!(bif iLt n lo then true else iLt hi n) && true) := rfl
 rw [e, adm, Bool.and_true, Bool.not_not]
theorem bhu {x : Int} (hx : -9223372036854775808 ≤ x ∧ x ≤ 9223372036854775807) : opX x = !(inB x 0 1) := by
 cases h : inB x 0 1
 ·cases h2 : opX x
  ·have := bbs hx h2
   have h' : inB x 0 1 = true := aa8.2 (by omega)
   rw [h] at h'; cases h'
  ·rfl
 ·have h' := aa8.1 h
  have : x = 0 ∨ x = 1 := by omega
  rcases this with rfl | rfl <;> decide
theorem a1s (t w0 w1 w2 w3 w4 : Bool) (X : Int) : (bif (bif !t then true else !(!w0 && (!w1 && (!w2 && (!w3 && (!w4 && true)))))) then 1 else X) = bif !t then 1 else bif w0 then 1 else bif w1 then 1 else bif w2 then 1 else bif w3 then 1 else bif w4 then 1 else X := by
 cases t <;> cases w0 <;> cases w1 <;> cases w2 <;> cases w3 <;> cases w4 <;> rfl
def bk7 (O : OO) (c : Nat → Int) : Int :=
 bif !(inB (c 33) 1 1125899906842624) then 1 else bif !(inB (c 32) 0 63) then 1 else bif !(inB (c 56) 0 1) then 1 else
 bif !(ou (c 44) (c 45) (c 46) (c 47) (c 48) (c 49)) then 1 else bif jc O (c 34) then 1 else bif jc O (c 35) then 1 else bif jc O (c 36) then 1 else bif jc O (c 37) then 1 else bif jc O (c 38) then 1 else
 bif !(ou (c 50) (c 51) (c 52) (c 53) (c 54) (c 55)) then 1 else bif jc O (c 39) then 1 else bif jc O (c 40) then 1 else bif jc O (c 41) then 1 else bif jc O (c 42) then 1 else bif jc O (c 43) then 1 else
 bif iLt (c 33) (i64.wrap (c 45 + c 51)) then 10 else 0
theorem bpo {d r l c a m : Int} (h : ou d r l c a m = true) : 0 ≤ r ∧ r ≤ 1125899906842624 := by
 unfold ou at h
 cases h1 : inB d 0 65536
 ·rw [h1] at h; cases h
 ·rw [h1] at h
  cases h2 : inB l 1 4096
  ·rw [h2] at h; cases h
  ·rw [h2] at h
   cases h3 : inB c 0 16
   ·rw [h3] at h; cases h
   ·rw [h3] at h
    cases h4 : inB r d 1125899906842624
    ·rw [h4] at h; cases h
    ·have a := aa8.1 h1
     have b := aa8.1 h4
     omega
theorem bky {O : OO} {c : Nat → Int} (hc : chB (chA c) = true) : adv O c = bk7 O c := by
 have e0 : ptC O c 0 = (!(jc O (c 34)) && (!(jc O (c 35)) && (!(jc O (c 36)) && (!(jc O (c 37)) && (!(jc O (c 38)) && true))))) := rfl
 have e1 : ptC O c 1 = (!(jc O (c 39)) && (!(jc O (c 40)) && (!(jc O (c 41)) && (!(jc O (c 42)) && (!(jc O (c 43)) && true))))) := rfl
 have t0 : trC c 0 = ou (c 44) (c 45) (c 46) (c 47) (c 48) (c 49) := rfl
 have t1 : trC c 1 = ou (c 50) (c 51) (c 52) (c 53) (c 54) (c 55) := rfl
 have a1 : (bif iLt (c 32) 0 then true else iLe 64 (c 32)) = !(inB (c 32) 0 63) := by
  rw [← adm]
  cases iLt (c 32) 0
  ·rw [cond_false, cond_false, Bool.eq_iff_iff]; simp only [Bz, Sx.af.n]; omega
  ·rfl
 unfold adv bk7
 rw [e0, e1, t0, t1, a1s, a1s, adm, bhu (a96 hc)]
 generalize jc O (c 34) = w0
 generalize jc O (c 35) = w1
 generalize jc O (c 36) = w2
 generalize jc O (c 37) = w3
 generalize jc O (c 38) = w4
 generalize jc O (c 39) = w5
 generalize jc O (c 40) = w6
 generalize jc O (c 41) = w7
 generalize jc O (c 42) = w8
 generalize jc O (c 43) = w9
 cases h33 : inB (c 33) 1 1125899906842624
 ·rfl
 ·have b33 := aa8.1 h33
  have a2 : (bif bif bif bif !true then true else iLt (c 32) 0 then true else iLe 64 (c 32) then true else !(inB (c 56) 0 1) then (1 : Int) else (bif !(ou (c 44) (c 45) (c 46) (c 47) (c 48) (c 49)) then 1 else bif w0 then 1 else bif w1 then 1 else bif w2 then 1 else bif w3 then 1 else bif w4 then 1 else bif !(ou (c 50) (c 51) (c 52) (c 53) (c 54) (c 55)) then 1 else bif w5 then 1 else bif w6 then 1 else bif w7 then 1 else bif w8 then 1 else bif w9 then 1 else bif (bif !(agd (c 45) (c 51)) then true else iLt (c 33) (ajl (c 45) (c 51))) then 10 else 0)) = (bif !(inB (c 32) 0 63) then 1 else bif !(inB (c 56) 0 1) then 1 else (bif !(ou (c 44) (c 45) (c 46) (c 47) (c 48) (c 49)) then 1 else bif w0 then 1 else bif w1 then 1 else bif w2 then 1 else bif w3 then 1 else bif w4 then 1 else bif !(ou (c 50) (c 51) (c 52) (c 53) (c 54) (c 55)) then 1 else bif w5 then 1 else bif w6 then 1 else bif w7 then 1 else bif w8 then 1 else bif w9 then 1 else bif (bif !(agd (c 45) (c 51)) then true else iLt (c 33) (ajl (c 45) (c 51))) then 10 else 0)) := by
   rw [show (bif bif !true then true else iLt (c 32) 0 then true else iLe 64 (c 32)) = !(inB (c 32) 0 63) from a1]
   cases inB (c 32) 0 63 <;> cases inB (c 56) 0 1 <;> rfl
  refine a2.trans ?_
  cases hq0 : ou (c 44) (c 45) (c 46) (c 47) (c 48) (c 49)
  ·rfl
  ·cases hq1 : ou (c 50) (c 51) (c 52) (c 53) (c 54) (c 55)
   ·rfl
   ·have r0 := bpo hq0
    have r1 := bpo hq1
    have fin : (bif (bif !(agd (c 45) (c 51)) then true else iLt (c 33) (ajl (c 45) (c 51))) then (10 : Int) else 0) = bif iLt (c 33) (i64.wrap (c 45 + c 51)) then 10 else 0 := by
     have w1 : i64.wrap (c 45 + c 51) = c 45 + c 51 := by rw [IntKind.wrap_i64]; omega
     have w2 : i64.wrap (1125899906842624 - c 51) = 1125899906842624 - c 51 := by rw [IntKind.wrap_i64]; omega
     unfold agd ajl agd
     rw [aa8.2 r0, aa8.2 r1, w1, w2]
     cases h : iLt (1125899906842624 - c 51) (c 45)
     ·rfl
     ·simp only [Bz, Sx.af.n] at h
      rw [show iLt (c 33) (c 45 + c 51) = true by simp only [Bz, Sx.af.n]; omega]; rfl
    rw [fin]; rfl
def am8 (O : OO) (Y : OY) (l : List Value) : Option (Bool × Value) := match l with
 | [.int .i64 n, .int .i64 lo, .int .i64 hi] => some (true, .bool (inB n lo hi))
 | _ => none
theorem a92 (O : OO) (Y : OY) (n lo hi : Int) (out : Value) (F : FO O) (hy : Y = yO O)  (ho : .bool (inB n lo hi) = out) :
 If (iLe lo n) (vB (iLe n hi) = out) (vB false = out) := by
 subst ho
 unfold inB
 exact ae (fun h => by rw [h]; rfl) (fun h => by rw [h]; rfl)
theorem bbu (I : Sx.Interp) (O : OO) (hO : O = oo) (Y : OY) (hY : Y = yO O) : ag I Tryz.prog 45 (bz (am8 O Y)) := by
 refine jq (n := 3) (apz I O hO Y hY) (by kernel_rfl) [] Tryz.func45 (by kernel_rfl) (by kernel_rfl) rfl Tryz.ntmps45 (by decide) ?_ ?_
 ·intro l p v hg; unfold am8 at hg; split at hg <;> first | rfl | cases hg
 ·intro l v hg
  unfold am8 at hg
  split at hg
  ·rename_i n lo hi
   simp only [zsI, zpI, zaT] at hg
   obtain ⟨_, rfl⟩ := hg
   exact Eq.mpr (by kernel_rfl) (a92 O Y n lo hi  _ (dn O hO) hY   rfl)
  ·cases hg
def al6 (O : OO) (Y : OY) (l : List Value) : Option (Bool × Value) := match l with
 | [.int .i64 n, .int .i64 lo, .int .i64 hi] => some (true, .bool (inB n lo hi))
 | _ => none
theorem a9f (O : OO) (Y : OY) (n lo hi : Int) (out : Value) (F : FO O) (hy : Y = yO O)  (ho : .bool (inB n lo hi) = out) :
 If (iLe lo n) (vB (iLe n hi) = out) (vB false = out) := by
 subst ho
 unfold inB
 exact ae (fun h => by rw [h]; rfl) (fun h => by rw [h]; rfl)
theorem bej (I : Sx.Interp) (O : OO) (hO : O = oo) (Y : OY) (hY : Y = yO O) : ag I Tryz.prog 86 (bz (al6 O Y)) := by
 refine jq (n := 3) (apz I O hO Y hY) (by kernel_rfl) [] Tryz.func86 (by kernel_rfl) (by kernel_rfl) rfl Tryz.ntmps86 (by decide) ?_ ?_
 ·intro l p v hg; unfold al6 at hg; split at hg <;> first | rfl | cases hg
 ·intro l v hg
  unfold al6 at hg
  split at hg
  ·rename_i n lo hi
   simp only [zsI, zpI, zaT] at hg
   obtain ⟨_, rfl⟩ := hg
   exact Eq.mpr (by kernel_rfl) (a9f O Y n lo hi  _ (dn O hO) hY   rfl)
  ·cases hg
def bod (O : OO) (Y : OY) (f : FuncId) : Option Sx.Spec := match f with
 | 45 => some (bz (am8 O Y))
 | 86 => some (bz (al6 O Y))
 | f => bdd O Y f
theorem am9 (I : Sx.Interp) (O : OO) (hO : O = oo) (Y : OY) (hY : Y = yO O) : ∀ f s, bod O Y f = some s → ag I Tryz.prog f s := by
 intro f s h
 unfold bod at h
 split at h
 · cases h; exact bbu I O hO Y hY
 · cases h; exact bej I O hO Y hY
 ·exact apz I O hO Y hY _ s h
def a2n (O : OO) (Y : OY) (l : List Value) : Option (Bool × Value) := match l with
 | [.agg ⟨[.int .i64 d, .int .i64 r, .int .i64 l, .int .i64 c, .int .i64 a, .int .i64 m]⟩] => some (true, .bool (ou d r l c a m))
 | _ => none
theorem bk4 (O : OO) (Y : OY) (d r l c a m : Int) (out : Value) (F : FO O) (hy : Y = yO O)  (ho : .bool (ou d r l c a m) = out) :
 If (inB d 0 65536) (If (inB r d 1125899906842624) (If (inB l 1 4096) (If (inB c 0 16) (If (inB a 1 1125899906842624) (vB (inB m 0 1125899906842624) = out) (vB false = out)) (vB false = out)) (vB false = out)) (vB false = out)) (vB false = out) := by
 subst ho
 unfold ou
 generalize inB d 0 65536 = A
 generalize inB l 1 4096 = B
 generalize inB c 0 16 = C
 generalize inB r d 1125899906842624 = D
 generalize inB a 1 1125899906842624 = E
 generalize inB m 0 1125899906842624 = G
 cases A <;> cases B <;> cases C <;> cases D <;> cases E <;> cases G <;> exact rfl
theorem bns (I : Sx.Interp) (O : OO) (hO : O = oo) (Y : OY) (hY : Y = yO O) : ag I Tryz.prog 93 (bz (a2n O Y)) := by
 refine jq (n := 1) (am9 I O hO Y hY) (by kernel_rfl) [] Tryz.func93 (by kernel_rfl) (by kernel_rfl) rfl Tryz.ntmps93 (by decide) ?_ ?_
 ·intro l p v hg; unfold a2n at hg; split at hg <;> first | rfl | cases hg
 ·intro l v hg
  unfold a2n at hg
  split at hg
  ·rename_i d r l c a m
   simp only [zsI, zpI, zaT] at hg
   obtain ⟨_, rfl⟩ := hg
   exact Eq.mpr (by kernel_rfl) (bk4 O Y d r l c a m  _ (dn O hO) hY   rfl)
  ·cases hg
def au5 (O : OO) (Y : OY) (l : List Value) : Option (Bool × Value) := match l with
 | [.int .u64 p] => some ((inU p 18446744073709551616), .bool (!(jc O p)))
 | _ => none
theorem biy (O : OO) (Y : OY) (p : Int) (out : Value) (F : FO O) (hy : Y = yO O) (h0 : inU p 18446744073709551616 = true) (ho : .bool (!(jc O p)) = out) :
 If (inU p 18446744073709551616) (If (O.iw p) (vB (qc p 1) = out) (vB false = out)) False := by
 subst ho
 unfold jc
 refine ziT h0 ?_
 have e : qc p 1 = !(ax p 1) := by
  cases h : ax p 1
  ·simp only [Bz, Sx.af.n] at h; simp only [Bool.not_false, Bz, Sx.af.n]; exact h
  ·simp only [Bz, Sx.af.n] at h; simp only [Bool.not_true, Bz, Sx.af.n]; exact h
 rw [e]
 cases O.iw p <;> cases ax p 1 <;> exact rfl
theorem bi7 (I : Sx.Interp) (O : OO) (hO : O = oo) (Y : OY) (hY : Y = yO O) : ag I Tryz.prog 94 (bz (au5 O Y)) := by
 refine jq (n := 1) (am9 I O hO Y hY) (by kernel_rfl) [] Tryz.func94 (by kernel_rfl) (by kernel_rfl) rfl Tryz.ntmps94 (by decide) ?_ ?_
 ·intro l p v hg; unfold au5 at hg; split at hg <;> first | rfl | cases hg
 ·intro l v hg
  unfold au5 at hg
  split at hg
  ·rename_i p
   simp only [zsI, zpI, zaT] at hg
   obtain ⟨q0, rfl⟩ := hg
   exact Eq.mpr (by kernel_rfl) (biy O Y p  _ (dn O hO) hY q0  rfl)
  ·cases hg
def aul (O : OO) (Y : OY) (l : List Value) : Option (Bool × Value) := match l with
 | [.int .i64 n] => some (true, .int .i64 (wgt n))
 | _ => none
theorem bik (O : OO) (Y : OY) (n : Int) (out : Value) (F : FO O) (hy : Y = yO O)  (ho : .int .i64 (wgt n) = out) :
 If (!inB n 0 16) (vI 0 = out) (vI (i64.wrap (dh 36 (i64.wrap (aa9 (i64.wrap (dh 4 n)) 8)))) = out) := by
 subst ho
 refine ae (fun h => ?_) (fun h => ?_)
 ·have h : inB n 0 16 = false := by simpa using h
  unfold wgt
  rw [adm, h]; rfl
 ·have h : inB n 0 16 = true := by simpa using h
  have hn := aa8.1 h
  unfold wgt
  rw [adm, h]
  show Value.int .i64 _ = Value.int .i64 (i64.wrap (68 + i64.wrap (8 * n)))
  simp only [zUn]
  rw [IntKind.wrap_i64 (8 * n), IntKind.wrap_i64 (4 + n), show (4 + n + 9223372036854775808) % 18446744073709551616 - 9223372036854775808 = 4 + n by omega, IntKind.wrap_i64 ((4 + n) * 8)]
  congr 2
  omega
theorem bf1 (I : Sx.Interp) (O : OO) (hO : O = oo) (Y : OY) (hY : Y = yO O) : ag I Tryz.prog 87 (bz (aul O Y)) := by
 refine jq (n := 1) (am9 I O hO Y hY) (by kernel_rfl) [] Tryz.func87 (by kernel_rfl) (by kernel_rfl) rfl Tryz.ntmps87 (by decide) ?_ ?_
 ·intro l p v hg; unfold aul at hg; split at hg <;> first | rfl | cases hg
 ·intro l v hg
  unfold aul at hg
  split at hg
  ·rename_i n
   simp only [zsI, zpI, zaT] at hg
   obtain ⟨_, rfl⟩ := hg
   exact Eq.mpr (by kernel_rfl) (bik O Y n  _ (dn O hO) hY   rfl)
  ·cases hg
def bkz (O : OO) (Y : OY) (f : FuncId) : Option Sx.Spec := match f with
 | 93 => some (bz (a2n O Y))
 | 94 => some (bz (au5 O Y))
 | 87 => some (bz (aul O Y))
 | f => bod O Y f
theorem ajv (I : Sx.Interp) (O : OO) (hO : O = oo) (Y : OY) (hY : Y = yO O) : ∀ f s, bkz O Y f = some s → ag I Tryz.prog f s := by
 intro f s h
 unfold bkz at h
 split at h
 · cases h; exact bns I O hO Y hY
 · cases h; exact bi7 I O hO Y hY
 · cases h; exact bf1 I O hO Y hY
 ·exact am9 I O hO Y hY _ s h
def atp (O : OO) (Y : OY) (l : List Value) : Option (Bool × Value) := match l with
 | [.int .i64 r, .int .i64 n] => some (true, .int .i64 (aqp r n))
 | _ => none
theorem bg1 (O : OO) (Y : OY) (r n : Int) (out : Value) (F : FO O) (hy : Y = yO O)  (ho : .int .i64 (aqp r n) = out) :
 If (!inB r 0 1000) (vI 0 = out) (vI (i64.wrap (aa9 r (wgt n))) = out) := by
 subst ho
 unfold aqp
 rw [adm]
 cases inB r 0 1000 <;> exact rfl
theorem bg6 (I : Sx.Interp) (O : OO) (hO : O = oo) (Y : OY) (hY : Y = yO O) : ag I Tryz.prog 57 (bz (atp O Y)) := by
 refine jq (n := 2) (ajv I O hO Y hY) (by kernel_rfl) [] Tryz.func57 (by kernel_rfl) (by kernel_rfl) rfl Tryz.ntmps57 (by decide) ?_ ?_
 ·intro l p v hg; unfold atp at hg; split at hg <;> first | rfl | cases hg
 ·intro l v hg
  unfold atp at hg
  split at hg
  ·rename_i r n
   simp only [zsI, zpI, zaT] at hg
   obtain ⟨_, rfl⟩ := hg
   exact Eq.mpr (by kernel_rfl) (bg1 O Y r n  _ (dn O hO) hY   rfl)
  ·cases hg
def au9 (O : OO) (Y : OY) (ds : List Dt) : zG := match ds with
 | [.v (.agg ch)] => some ((chB ch), [], fun _ => ⟨[.v (.int .i64 (adv O (cz ch)))], []⟩)
 | _ => none
theorem be6 (O : OO) (Y : OY) (c : Nat → Int) (F : FO O) (hy : Y = yO O) (hc : chB (chA c) = true) :
 let T1 := vI 1 = vI (adv O c) ∧ True ∧ True; If (!inB (c 33) 1 1125899906842624) T1 (If (!inB (c 32) 0 63) T1 (If (!inB (c 56) 0 1) T1 (If (!ou (c 44) (c 45) (c 46) (c 47) (c
  48) (c 49)) T1 (If (inU (c 34) 18446744073709551616) (If (!!jc O (c 34)) T1 (If (inU (c 35) 18446744073709551616) (If (!!jc O (c 35)) T1 (If (inU (c 36)
  18446744073709551616) (If (!!jc O (c 36)) T1 (If (inU (c 37) 18446744073709551616) (If (!!jc O (c 37)) T1 (If (inU (c 38) 18446744073709551616) (If (!!jc O (c 38)) T1
  (If (!ou (c 50) (c 51) (c 52) (c 53) (c 54) (c 55)) T1 (If (inU (c 39) 18446744073709551616) (If (!!jc O (c 39)) T1 (If (inU (c 40) 18446744073709551616) (If (!!jc O (c
  40)) T1 (If (inU (c 41) 18446744073709551616) (If (!!jc O (c 41)) T1 (If (inU (c 42) 18446744073709551616) (If (!!jc O (c 42)) T1 (If (inU (c 43) 18446744073709551616) (If
  (!!jc O (c 43)) T1 (If (iLt (c 33) (i64.wrap (dh (c 45) (c 51)))) (vI 10 = vI (adv O c) ∧ True ∧ True) (vI 0 = vI (adv O c) ∧ True ∧ True))) False)) False)) False))
  False)) False))) False)) False)) False)) False)) False)))) := by
 conv => zeta
 obtain ⟨p0, p1, p2, p3, p4, p5, p6, p7, p8, p9⟩ := bed hc
 rw [bky hc]
 unfold bk7
 simp only [Bool.not_not]
 refine ae (fun a => ⟨by rw [a]; rfl, trivial, trivial⟩) (fun a1 => ae (fun a => ⟨by rw [a1, a]; rfl, trivial, trivial⟩) (fun a2 => ae (fun a => ⟨by rw [a1, a2, a]; rfl, trivial, trivial⟩) (fun a3 => ae (fun a => ⟨by rw [a1, a2, a3, a]; rfl, trivial, trivial⟩) (fun a4 => ?_))))
 refine ziT p0 (ae (fun a => ⟨by rw [a1, a2, a3, a4, a]; rfl, trivial, trivial⟩) (fun a5 => ziT p1 (ae (fun a => ⟨by rw [a1, a2, a3, a4, a5, a]; rfl, trivial, trivial⟩) (fun a6 => ziT p2 (ae (fun a => ⟨by rw [a1, a2, a3, a4, a5, a6, a]; rfl, trivial, trivial⟩) (fun a7 => ziT p3 (ae (fun a => ⟨by rw [a1, a2, a3, a4, a5, a6, a7, a]; rfl, trivial, trivial⟩) (fun a8 => ziT p4 (ae (fun a => ⟨by rw [a1, a2, a3, a4, a5, a6, a7, a8, a]; rfl, trivial, trivial⟩) (fun a9 => ?_))))))))))
 rw [a1, a2, a3, a4, a5, a6, a7, a8, a9]
 simp only [cond_false]
 refine ae (fun a => ⟨by rw [a]; rfl, trivial, trivial⟩) (fun a4 => ?_)
 refine ziT p5 (ae (fun a => ⟨by rw [a4, a]; rfl, trivial, trivial⟩) (fun a5 => ziT p6 (ae (fun a => ⟨by rw [a4, a5, a]; rfl, trivial, trivial⟩) (fun a6 => ziT p7 (ae (fun a => ⟨by rw [a4, a5, a6, a]; rfl, trivial, trivial⟩) (fun a7 => ziT p8 (ae (fun a => ⟨by rw [a4, a5, a6, a7, a]; rfl, trivial, trivial⟩) (fun a8 => ziT p9 (ae (fun a => ⟨by rw [a4, a5, a6, a7, a8, a]; rfl, trivial, trivial⟩) (fun a9 => ?_))))))))))
 rw [a4, a5, a6, a7, a8, a9]
 simp only [cond_false]
 exact ae (fun a => ⟨by rw [show iLt (c 33) (i64.wrap (c 45 + c 51)) = true from a]; rfl, trivial, trivial⟩) (fun a => ⟨by rw [show iLt (c 33) (i64.wrap (c 45 + c 51)) = false from a]; rfl, trivial, trivial⟩)
theorem bfc (I : Sx.Interp) (O : OO) (hO : O = oo) (Y : OY) (hY : Y = yO O) : ag I Tryz.prog 60 (au [.v] false (au9 O Y)) := by
 refine jb (ajv I O hO Y hY) (by kernel_rfl) (fun ds => match ds with | [.v (.agg ch)] => [Ann.walk 3, Ann.walk 6] | _ => []) Tryz.func60 (by kernel_rfl) (by kernel_rfl) rfl Tryz.ntmps60 (by decide) ?_ ?_
 ·intro ds p bs F h
  unfold au9 at h
  split at h
  ·simp only [zsI, zpI] at h
   obtain ⟨_, _, rfl⟩ := h
   kernel_rfl
  ·cases h
 ·intro ds bs F hl h
  unfold au9 at h
  split at h
  ·rename_i ch
   simp only [zsI, zpI, zaT] at h
   obtain ⟨hc, _, rfl⟩ := h
   obtain ⟨c, ec, rfl⟩ : ∃ c, cz ch = c ∧ ch = chA c := ⟨_, rfl, aak hc⟩
   simp only [ec]
   exact Eq.mpr (by kernel_rfl) (be6 O Y c (dn O hO) hY hc)
  ·cases h
def amr (O : OO) (Y : OY) (l : List Value) : Option (Bool × Value) := match l with
 | [.agg ⟨[.int .i64 xf, .int .i64 xi, .int .i64 xa, .int .u64 xq, .int .i64 xe]⟩] => some ((inU xq 18446744073709551616), .bool (yg O xf xi xa xq xe))
 | _ => none
theorem bdy (O : OO) (Y : OY) (xf xi xa xq xe : Int) (out : Value) (F : FO O) (hy : Y = yO O) (h0 : inU xq 18446744073709551616 = true) (ho : .bool (yg O xf xi xa xq xe) = out) :
 If (inU xq 18446744073709551616) (If (O.iw xq) (If (qc xq 1) (If (inB xf 0 1) (If (inB xi 1 1048576) (If (inB xa 1 1125899906842624) (vB (inB xe 1 1048576) = out) (vB false = out)) (vB false = out)) (vB false = out)) (vB false = out)) (vB false = out)) False := by
 subst ho
 refine ziT h0 ?_
 unfold yg
 rw [yj, yj, yj, yj]
 cases O.iw xq <;> cases qc xq 1 <;> cases inB xf 0 1 <;> cases inB xi 1 1048576 <;> cases inB xa 1 1125899906842624 <;> cases inB xe 1 1048576 <;> exact rfl
theorem bd3 (I : Sx.Interp) (O : OO) (hO : O = oo) (Y : OY) (hY : Y = yO O) : ag I Tryz.prog 36 (bz (amr O Y)) := by
 refine jq (n := 1) (ajv I O hO Y hY) (by kernel_rfl) [] Tryz.func36 (by kernel_rfl) (by kernel_rfl) rfl Tryz.ntmps36 (by decide) ?_ ?_
 ·intro l p v hg; unfold amr at hg; split at hg <;> first | rfl | cases hg
 ·intro l v hg
  unfold amr at hg
  split at hg
  ·rename_i xf xi xa xq xe
   simp only [zsI, zpI, zaT] at hg
   obtain ⟨q0, rfl⟩ := hg
   exact Eq.mpr (by kernel_rfl) (bdy O Y xf xi xa xq xe  _ (dn O hO) hY q0  rfl)
  ·cases hg
def ajw (O : OO) (Y : OY) (l : List Value) : Option (Bool × Value) := match l with
 | [.agg ⟨[.int .i64 xf, .int .i64 xi, .int .i64 xa, .int .u64 xq, .int .i64 xe]⟩, .agg ⟨[.int .i64 yf, .int .i64 yi, .int .i64 ya, .int .u64 yq, .int .i64 ye]⟩] => some ((inU xq 18446744073709551616) && (inU yq 18446744073709551616), .bool (iLt (orZ (qx xf yf) (qx xi yi)) 0))
 | _ => none
theorem a5q (O : OO) (Y : OY) (xf xi xa xq xe yf yi ya yq ye : Int) (out : Value) (F : FO O) (hy : Y = yO O) (h0 : inU xq 18446744073709551616 = true) (h1 : inU yq 18446744073709551616 = true) (ho : .bool (iLt (orZ (qx xf yf) (qx xi yi)) 0) = out) :
 If (iLt xf yf) (vB true = out) (If (ax xf yf) (vB (iLt xi yi) = out) (vB false = out)) := by
 subst ho
 refine ae (fun h => ?_) (fun h => ae (fun h' => ?_) (fun h' => ?_))
 ·unfold orZ qx
  rw [h]; rfl
 ·simp only [Bz, Sx.af.n] at h'
  subst h'
  unfold orZ qx
  rw [h]
  show Value.bool (iLt xi yi) = Value.bool (iLt (bif iLt xi yi then -1 else bif iLt yi xi then 1 else 0) 0)
  cases iLt xi yi
  ·cases iLt yi xi <;> rfl
  ·rfl
 ·simp only [Bz, Sx.af.n] at h h'
  have h2 : iLt yf xf = true := by simp only [Bz, Sx.af.n]; omega
  unfold orZ qx
  rw [show iLt xf yf = false by simp only [Bz, Sx.af.n]; omega, h2]; rfl
theorem a4b (I : Sx.Interp) (O : OO) (hO : O = oo) (Y : OY) (hY : Y = yO O) : ag I Tryz.prog 61 (bz (ajw O Y)) := by
 refine jq (n := 2) (ajv I O hO Y hY) (by kernel_rfl) [] Tryz.func61 (by kernel_rfl) (by kernel_rfl) rfl Tryz.ntmps61 (by decide) ?_ ?_
 ·intro l p v hg; unfold ajw at hg; split at hg <;> first | rfl | cases hg
 ·intro l v hg
  unfold ajw at hg
  split at hg
  ·rename_i xf xi xa xq xe yf yi ya yq ye
   simp only [zsI, zpI, zaT] at hg
   obtain ⟨⟨q0, q1⟩, rfl⟩ := hg
   exact Eq.mpr (by kernel_rfl) (a5q O Y xf xi xa xq xe yf yi ya yq ye  _ (dn O hO) hY q0 q1  rfl)
  ·cases hg
def bnr (O : OO) (Y : OY) (f : FuncId) : Option Sx.Spec := match f with
 | 57 => some (bz (atp O Y))
 | 60 => some (au [.v] false (au9 O Y))
 | 36 => some (bz (amr O Y))
 | 61 => some (bz (ajw O Y))
 | f => bkz O Y f
theorem amc (I : Sx.Interp) (O : OO) (hO : O = oo) (Y : OY) (hY : Y = yO O) : ∀ f s, bnr O Y f = some s → ag I Tryz.prog f s := by
 intro f s h
 unfold bnr at h
 split at h
 · cases h; exact bg6 I O hO Y hY
 · cases h; exact bfc I O hO Y hY
 · cases h; exact bd3 I O hO Y hY
 · cases h; exact a4b I O hO Y hY
 ·exact ajv I O hO Y hY _ s h
def atj (O : OO) (Y : OY) (ds : List Dt) : zG := match ds with
 | [.node [.v (.int .i64 no), .v (.int .i64 h0), .v (.int .i64 h1), .structs l, .v (.int .i64 rt)], .v (.int .i64 tw)] => some ((Nat.ble l.length 1000), [], fun _ => ⟨[.v (.int .i64 (o7 tw l)), .v (.int .i64 (og tw l))], []⟩)
 | _ => none
theorem bgl (O : OO) (Y : OY) (no h0 h1 rt : Int) (l : List (List Int)) (tw : Int) (F : FO O) (hy : Y = yO O) (g0 : Nat.ble l.length 1000 = true) :
 let T1 := vI no = vI no ∧ vI h0 = vI h0 ∧ vI h1 = vI h1 ∧ vI rt = vI rt; (∃ (x : Nat), x ≤ l.length ∧ (vI 0 = vI (o7 tw (List.take x l)) ∧ vI 0 = vI (og tw (List.take x l)) ∧ vI
  0 = vI (iOf x) ∧ vI tw = vI tw ∧ True) ∧ T1 ∧ cS l = cS l ∧ True) ∧ ∀ (x : Nat), let T2 := true && Nat.beq 5 5 && (iOf x).toNat.blt l.length; let T3 := iLe 0 (iOf x) && (iOf x).toNat.blt l.length;
  x ≤ l.length → If (iLt (iOf x) (iOf (cS l).n)) (If T3 (If ((iOf x).toNat.blt l.length) (If T2 (If (ax ((l.getD (iOf x).toNat []).getD 0 0) (i64.wrap (di 1 tw))) (If T3
  (If ((iOf x).toNat.blt l.length) (If T2 (∃ (x' : Nat), x' ≤ l.length ∧ (iy l.length x').succ ≤ iy l.length x ∧ (vI (i64.wrap (dh (o7 tw (List.take x l)) 1)) = vI
  (o7 tw (List.take x' l)) ∧ vI (i64.wrap (dh (og tw (List.take x l)) ((l.getD (iOf x).toNat []).getD 2 0))) = vI (og tw (List.take x' l)) ∧ vI (i64.wrap (dh
  (iOf x) 1)) = vI (iOf x') ∧ vI tw = vI tw ∧ True) ∧ T1 ∧ cS l = cS l ∧ True) False) False) False) (∃ (x' : Nat), x' ≤ l.length ∧ (iy l.length x').succ ≤ iy l.length x ∧ (vI
  (o7 tw (List.take x l)) = vI (o7 tw (List.take x' l)) ∧ vI (og tw (List.take x l)) = vI (og tw (List.take x' l)) ∧ vI (i64.wrap (dh (iOf x) 1)) = vI (iOf x') ∧ vI
  tw = vI tw ∧ True) ∧ T1 ∧ cS l = cS l ∧ True)) False) False) False) ((vI (o7 tw (List.take x l)) = vI (o7 tw l) ∧ vI (og tw (List.take x l)) = vI (og tw l)) ∧ True ∧ True) := by
 conv => zeta
 simp only [zUn]
 have hm := zbL g0
 have nN : ∀ x, x < l.length → o7 tw (l.take (x + 1)) = bif afv tw (l.getD x []) then i64.wrap (o7 tw (l.take x) + 1) else o7 tw (l.take x) := fun x hx => foldl_snoc _ 0 l [] hx
 have nM : ∀ x, x < l.length → og tw (l.take (x + 1)) = bif afv tw (l.getD x []) then i64.wrap (og tw (l.take x) + (l.getD x []).getD 2 0) else og tw (l.take x) := fun x hx => foldl_snoc _ 0 l [] hx
 refine ⟨⟨0, Nat.zero_le _, (by repeat' (first | exact True.intro | exact rfl | refine ⟨?_, ?_⟩)), (by repeat' (first | exact True.intro | exact rfl | refine ⟨?_, ?_⟩))⟩, fun x hx => ae (fun h => ?_) (fun h => ?_)⟩
 ·simp only [Bz, Sx.af.n] at h
  have hlt : x < l.length := by omega
  have hbl : x.blt l.length = true := by rw [Nat.blt_eq]; exact hlt
  have b1 : (iLe 0 (x : Int) && x.blt l.length) = true := by simp only [Bz, Sx.af.n, hbl, and_true]; omega
  have b2 : (true && Nat.beq 5 5 && x.blt l.length) = true := by rw [hbl]; rfl
  simp only [ztN]
  refine ziT b1 (ziT hbl (ziT b2 ?_))
  have n1 := nN x hlt
  have n2 := nM x hlt
  refine ae (fun hc => ?_) (fun hc => ?_)
  ·have e : afv tw (l.getD x []) = true := hc
   rw [e] at n1 n2
   exact ziT b1 (ziT hbl (ziT b2 ⟨x + 1, hlt, by omega, ⟨by rw [n1]; rfl, by rw [n2]; rfl, by rw [wrap_succ (by omega)], (by first | rfl | trivial)⟩, (by repeat' (first | exact True.intro | exact rfl | refine ⟨?_, ?_⟩))⟩))
  ·have e : afv tw (l.getD x []) = false := hc
   rw [e] at n1 n2
   exact ⟨x + 1, hlt, by omega, ⟨by rw [n1]; rfl, by rw [n2]; rfl, by rw [wrap_succ (by omega)], (by first | rfl | trivial)⟩, (by repeat' (first | exact True.intro | exact rfl | refine ⟨?_, ?_⟩))⟩
 ·simp only [Bz, Sx.af.n] at h
  have hx2 : x = l.length := by omega
  subst hx2
  rw [List.take_of_length_le (Nat.le_refl _)]
  exact (by repeat' (first | exact True.intro | exact rfl | refine ⟨?_, ?_⟩))
theorem bjf (I : Sx.Interp) (O : OO) (hO : O = oo) (Y : OY) (hY : Y = yO O) : ag I Tryz.prog 38 (au [.agg [.v, .v, .v, .roS [.i64, .i64, .i64, .u64, .i64], .v], .v] false (atj O Y)) := by
 refine jb (amc I O hO Y hY) (by kernel_rfl) (fun ds => match ds with | [.node [.v (.int .i64 no), .v (.int .i64 h0), .v (.int .i64 h1), .structs l, .v (.int .i64 rt)], .v (.int .i64 tw)] => [⟨Nat, [1, 2, 3], [], fun B j => [(6, .v (.int .i64 (o7 tw (l.take j)))), (7, .v (.int .i64 (og tw (l.take j)))), (8, .v (.int .i64 (j : Int)))], fun B j => [], fun j => j ≤ l.length, fun j => l.length - j, 0⟩] | _ => []) Tryz.func38 (by kernel_rfl) (by kernel_rfl) rfl Tryz.ntmps38 (by decide) ?_ ?_
 ·intro ds p bs F h
  unfold atj at h
  split at h
  ·simp only [zsI, zpI] at h
   obtain ⟨_, _, rfl⟩ := h
   kernel_rfl
  ·cases h
 ·intro ds bs F hl h
  unfold atj at h
  split at h
  ·rename_i no h0 h1 l rt tw
   simp only [zsI, zpI, zaT] at h
   obtain ⟨g0, _, rfl⟩ := h
   exact Eq.mpr (by kernel_rfl) (bgl O Y no h0 h1 rt l tw (dn O hO) hY g0)
  ·cases h
def al0 (O : OO) (Y : OY) (ds : List Dt) : zG := match ds with
 | [.v (.agg ch), .node [.v (.int .i64 no), .v (.int .i64 h0), .v (.int .i64 h1), .structs l, .v (.int .i64 rt)]] => some ((chB ch) && (Nat.ble l.length 1000), [], fun _ => ⟨[.v (.int .i64 (jg rt l.length))], []⟩)
 | _ => none
theorem bch (O : OO) (Y : OY) (c : Nat → Int) (no h0 h1 rt : Int) (l : List (List Int)) (F : FO O) (hy : Y = yO O) (hc : chB (chA c) = true) (g0 : Nat.ble l.length 1000 = true) :
 vI (i64.wrap (dh (aqp rt (iOf l.length)) 660)) = vI (jg rt (iOf l.length)) ∧ True ∧ True := by
 exact ⟨rfl, trivial, trivial⟩
theorem bc7 (I : Sx.Interp) (O : OO) (hO : O = oo) (Y : OY) (hY : Y = yO O) : ag I Tryz.prog 20 (au [.v, .agg [.v, .v, .v, .roS [.i64, .i64, .i64, .u64, .i64], .v]] false (al0 O Y)) := by
 refine jb (amc I O hO Y hY) (by kernel_rfl) (fun _ => []) Tryz.func20 (by kernel_rfl) (by kernel_rfl) rfl Tryz.ntmps20 (by decide) ?_ ?_
 ·intro ds p bs F h
  unfold al0 at h
  split at h
  ·simp only [zsI, zpI] at h
   obtain ⟨_, _, rfl⟩ := h
   kernel_rfl
  ·cases h
 ·intro ds bs F hl h
  unfold al0 at h
  split at h
  ·rename_i ch no h0 h1 l rt
   simp only [zsI, zpI, zaT] at h
   obtain ⟨⟨hc, g0⟩, _, rfl⟩ := h
   obtain ⟨c, ec, rfl⟩ : ∃ c, cz ch = c ∧ ch = chA c := ⟨_, rfl, aak hc⟩
   simp only [ec]
   exact Eq.mpr (by kernel_rfl) (bch O Y c no h0 h1 rt l (dn O hO) hY hc g0)
  ·cases h
def au0 (O : OO) (Y : OY) (ds : List Dt) : zG := match ds with
 | [.node [.v (.int .i64 no), .v (.int .i64 h0), .v (.int .i64 h1), .structs l, .v (.int .i64 rt)]] => some ((Nat.ble l.length 1000), [], fun _ => ⟨[.v (.int .i64 (aa3 h0 h1 l))], []⟩)
 | _ => none
theorem bgo (O : OO) (Y : OY) (no h0 h1 rt : Int) (l : List (List Int)) (F : FO O) (hy : Y = yO O) (g0 : Nat.ble l.length 1000 = true) :
 let T1 := vI no = vI no ∧ vI h0 = vI h0 ∧ vI h1 = vI h1 ∧ vI rt = vI rt; (∃ (x : Nat), x ≤ l.length ∧ (vI (i64.wrap (dh h0 h1)) = vI (aa3 h0 h1 (List.take x l)) ∧ vI 0 =
  vI (iOf x) ∧ True) ∧ T1 ∧ cS l = cS l ∧ True) ∧ ∀ (x : Nat), x ≤ l.length → If (iLt (iOf x) (iOf (cS l).n)) (If (iLe 0 (iOf x) && (iOf x).toNat.blt l.length) (If ((iOf x).toNat.blt
  l.length) (If (true && Nat.beq 5 5 && (iOf x).toNat.blt l.length) (∃ (x' : Nat), x' ≤ l.length ∧ (iy l.length x').succ ≤ iy l.length x ∧ (vI (i64.wrap (dh (aa3 h0 h1
  (List.take x l)) ((l.getD (iOf x).toNat []).getD 2 0))) = vI (aa3 h0 h1 (List.take x' l)) ∧ vI (i64.wrap (dh (iOf x) 1)) = vI (iOf x') ∧ True) ∧ T1 ∧ cS l = cS l ∧ True)
  False) False) False) (vI (aa3 h0 h1 (List.take x l)) = vI (aa3 h0 h1 l) ∧ True ∧ True) := by
 conv => zeta
 simp only [zUn]
 have hm := zbL g0
 have nT : ∀ x, x < l.length → aa3 h0 h1 (l.take (x + 1)) = i64.wrap (aa3 h0 h1 (l.take x) + (l.getD x []).getD 2 0) := fun x hx => foldl_snoc a4o _ l [] hx
 refine ⟨⟨0, Nat.zero_le _, (by repeat' (first | exact True.intro | exact rfl | refine ⟨?_, ?_⟩)), (by repeat' (first | exact True.intro | exact rfl | refine ⟨?_, ?_⟩))⟩, fun x hx => ae (fun h => ?_) (fun h => ?_)⟩
 ·simp only [Bz, Sx.af.n] at h
  have hlt : x < l.length := by omega
  have hbl : x.blt l.length = true := by rw [Nat.blt_eq]; exact hlt
  have b1 : (iLe 0 (x : Int) && x.blt l.length) = true := by simp only [Bz, Sx.af.n, hbl, and_true]; omega
  have b2 : (true && Nat.beq 5 5 && x.blt l.length) = true := by rw [hbl]; rfl
  simp only [ztN]
  refine ziT b1 (ziT hbl (ziT b2 ?_))
  exact ⟨x + 1, hlt, by omega, ⟨by rw [nT x hlt], by rw [wrap_succ (by omega)], (by first | rfl | trivial)⟩, (by repeat' (first | exact True.intro | exact rfl | refine ⟨?_, ?_⟩))⟩
 ·simp only [Bz, Sx.af.n] at h
  have hx2 : x = l.length := by omega
  subst hx2
  rw [List.take_of_length_le (Nat.le_refl _)]
  exact (by repeat' (first | exact True.intro | exact rfl | refine ⟨?_, ?_⟩))
theorem be3 (I : Sx.Interp) (O : OO) (hO : O = oo) (Y : OY) (hY : Y = yO O) : ag I Tryz.prog 24 (au [.agg [.v, .v, .v, .roS [.i64, .i64, .i64, .u64, .i64], .v]] false (au0 O Y)) := by
 refine jb (amc I O hO Y hY) (by kernel_rfl) (fun ds => match ds with | [.node [.v (.int .i64 no), .v (.int .i64 h0), .v (.int .i64 h1), .structs l, .v (.int .i64 rt)]] => [⟨Nat, [1], [], fun B j => [(3, .v (.int .i64 (aa3 h0 h1 (l.take j)))), (4, .v (.int .i64 (j : Int)))], fun B j => [], fun j => j ≤ l.length, fun j => l.length - j, 0⟩] | _ => []) Tryz.func24 (by kernel_rfl) (by kernel_rfl) rfl Tryz.ntmps24 (by decide) ?_ ?_
 ·intro ds p bs F h
  unfold au0 at h
  split at h
  ·simp only [zsI, zpI] at h
   obtain ⟨_, _, rfl⟩ := h
   kernel_rfl
  ·cases h
 ·intro ds bs F hl h
  unfold au0 at h
  split at h
  ·rename_i no h0 h1 l rt
   simp only [zsI, zpI, zaT] at h
   obtain ⟨g0, _, rfl⟩ := h
   exact Eq.mpr (by kernel_rfl) (bgo O Y no h0 h1 rt l (dn O hO) hY g0)
  ·cases h
def bnh (O : OO) (Y : OY) (f : FuncId) : Option Sx.Spec := match f with
 | 38 => some (au [.agg [.v, .v, .v, .roS [.i64, .i64, .i64, .u64, .i64], .v], .v] false (atj O Y))
 | 20 => some (au [.v, .agg [.v, .v, .v, .roS [.i64, .i64, .i64, .u64, .i64], .v]] false (al0 O Y))
 | 24 => some (au [.agg [.v, .v, .v, .roS [.i64, .i64, .i64, .u64, .i64], .v]] false (au0 O Y))
 | f => bnr O Y f
theorem aue (I : Sx.Interp) (O : OO) (hO : O = oo) (Y : OY) (hY : Y = yO O) : ∀ f s, bnh O Y f = some s → ag I Tryz.prog f s := by
 intro f s h
 unfold bnh at h
 split at h
 · cases h; exact bjf I O hO Y hY
 · cases h; exact bc7 I O hO Y hY
 · cases h; exact be3 I O hO Y hY
 ·exact amc I O hO Y hY _ s h
def ajc (O : OO) (Y : OY) (ds : List Dt) : zG := match ds with
 | [.v (.agg ch), .node [.v (.int .i64 no), .v (.int .i64 h0), .v (.int .i64 h1), .structs l, .v (.int .i64 rt)]] => some ((chB ch) && (Nat.ble l.length 1000) && (cnd l), [], fun _ => ⟨[.v (.bool (jh O (cz ch) no h0 h1 rt l))], []⟩)
 | _ => none
theorem a6z (O : OO) (Y : OY) (c : Nat → Int) (no h0 h1 rt : Int) (l : List (List Int)) (F : FO O) (hy : Y = yO O) (hc : chB (chA c) = true) (g0 : Nat.ble l.length 1000 = true) (g1 : cnd l = true) (ec : cz (chA c) = c) :
 let T1 := vB false = vB (jh O c no h0 h1 rt l) ∧ True ∧ True; let T2 := vI no = vI no ∧ vI h0 = vI h0 ∧ vI h1 = vI h1 ∧ vI rt = vI rt; If (chB (chA c)) (If (qc (adv O (cz
  (chA c))) 0) T1 (If (!inB no 0 1048576) T1 (If (!inB h0 0 1125899906842624) T1 (If (!inB h1 0 1125899906842624) T1 (If (!inB rt 0 1000) T1 (If (iLt 16 (iOf (cS l).n)) T1 ((∃ (x :
  Nat), (x ≤ l.length ∧ allB O c l x = true) ∧ (vI 0 = vI (iOf x) ∧ True) ∧ T2 ∧ chA c = chA c ∧ cS l = cS l ∧ True) ∧ ∀ (x : Nat), let T3 := true && Nat.beq 5 5 && (iOf x).toNat.blt l.length;
  let T4 := iLe 0 (iOf x) && (iOf x).toNat.blt l.length; let T5 := i64.wrap (di 1 ((l.getD (iOf x).toNat []).getD 0 0)); let T6 := l.getD (i64.wrap (di (iOf x) 1)).toNat [];
  let T7 := iLt ((l.getD (iOf x).toNat []).getD (ay (ay 0 1) 1) 0) (c 48); let T8 := iLt ((l.getD (iOf x).toNat []).getD (ay (ay 0 1) 1) 0) (c 54); x ≤ l.length ∧ allB O c l x
  = true → If (iLt (iOf x) (iOf (cS l).n)) (If T4 (If T3 (If (inU ((l.getD (iOf x).toNat []).getD 3 0) 18446744073709551616) (If (!yg O ((l.getD (iOf x).toNat []).getD 0 0)
  ((l.getD (iOf x).toNat []).getD 1 0) ((l.getD (iOf x).toNat []).getD 2 0) ((l.getD (iOf x).toNat []).getD 3 0) ((l.getD (iOf x).toNat []).getD 4 0)) T1 (If (iLt 0 (iOf x)) (If (iLe
  0 (i64.wrap (di (iOf x) 1)) && (i64.wrap (di (iOf x) 1)).toNat.blt l.length) (If (true && Nat.beq 5 5 && (i64.wrap (di (iOf x) 1)).toNat.blt l.length)
  (If T4 (If T3 (If (inU (T6.getD 3 0) 18446744073709551616 && inU ((l.getD (iOf x).toNat []).getD 3 0) 18446744073709551616) (If (!iLt (orZ (qx (T6.getD 0 0) ((l.getD (iOf x).toNat
  []).getD 0 0)) (qx (T6.getD (ay 0 1) 0) ((l.getD (iOf x).toNat []).getD (ay 0 1) 0))) 0) T1 (If T4 (If ((iOf x).toNat.blt l.length) (If T3 (If T4 (If ((iOf x).toNat.blt
  l.length) (If T3 (If (iEq T5 (iOf 0)) (If T7 T1 (∃ (x' : Nat), (x' ≤ l.length ∧ allB O c l x' = true) ∧ (iy l.length x').succ ≤ iy l.length x ∧ (vI (i64.wrap (dh (iOf
  x) 1)) = vI (iOf x') ∧ True) ∧ T2 ∧ chA c = chA c ∧ cS l = cS l ∧ True)) (If (iEq T5 (iOf (ay 0 1))) (If T8 T1 (∃ (x' : Nat), (x' ≤ l.length ∧ allB O c l x' = true) ∧ (iy
  l.length x').succ ≤ iy l.length x ∧ (vI (i64.wrap (dh (iOf x) 1)) = vI (iOf x') ∧ True) ∧ T2 ∧ chA c = chA c ∧ cS l = cS l ∧ True)) False)) False) False) False) False)
  False) False)) False) False) False) False) False) (If T4 (If ((iOf x).toNat.blt l.length) (If T3 (If T4 (If ((iOf x).toNat.blt l.length) (If T3 (If (iEq T5 (iOf 0)) (If T7 T1 (∃ (x'
  : Nat), (x' ≤ l.length ∧ allB O c l x' = true) ∧ (iy l.length x').succ ≤ iy l.length x ∧ (vI (i64.wrap (dh (iOf x) 1)) = vI (iOf x') ∧ True) ∧ T2 ∧ chA c = chA c ∧ cS
  l = cS l ∧ True)) (If (iEq T5 (iOf (ay 0 1))) (If T8 T1 (∃ (x' : Nat), (x' ≤ l.length ∧ allB O c l x' = true) ∧ (iy l.length x').succ ≤ iy l.length x ∧ (vI (i64.wrap
  (dh (iOf x) 1)) = vI (iOf x') ∧ True) ∧ T2 ∧ chA c = chA c ∧ cS l = cS l ∧ True)) False)) False) False) False) False) False) False))) False) False) False) (If (l.length.ble 1000)
  (If (iLt (c 47) (o7 0 l)) T1 (If (iLt (c 49) (og 0 l)) T1 (If (l.length.ble 1000) (If (iLt (c 53) (o7 (i64.wrap (dh 0 1)) l)) T1 (If (iLt (c 55) (og
  (i64.wrap (dh 0 1)) l)) T1 (If (l.length.ble 1000) (If (ax (aa3 h0 h1 l) (c 33)) (If (iEq (c 56) (iOf 0)) (If (chB (chA c) && l.length.ble 1000) (vB (iLe (jg rt (iOf
  l.length)) h0) = vB (jh O c no h0 h1 rt l) ∧ True ∧ True) False) (If (iEq (c 56) (iOf (ay 0 1))) (If (chB (chA c) && l.length.ble 1000) (vB (iLe (jg rt (iOf l.length)) h1)
  = vB (jh O c no h0 h1 rt l) ∧ True ∧ True) False) False)) T1) False))) False))) False)))))))) False := by
 conv => zeta
 simp only [ec, iOf, Sx.af.n]
 have hm := zbL g0
 have eH : jy 0 1125899906842624 [h0, h1] = (inB h0 0 1125899906842624 && inB h1 0 1125899906842624) := by
  have e : jy 0 1125899906842624 [h0, h1] = (!(bif iLt h0 0 then true else iLt 1125899906842624 h0) && (!(bif iLt h1 0 then true else iLt 1125899906842624 h1) && true)) := rfl
  rw [e, adm, adm, Bool.not_not, Bool.not_not, Bool.and_true]
 have r0 : jh O c no h0 h1 rt l = bif qc (adv O c) 0 then false else bif !(inB no 0 1048576) then false else bif !(inB h0 0 1125899906842624) then false else bif !(inB h1 0 1125899906842624) then false else bif !(inB rt 0 1000) then false else bif iLt 16 (l.length : Int) then false else (bif !(allB O c l l.length) then false else bif xm c l 0 (c 47) (c 49) then false else bif xm c l 1 (c 53) (c 55) then false else bif ax (aa3 h0 h1 l) (c 33) then iLe (jg rt l.length) (jf h0 h1 (c 56)) else false) := by
  unfold jh
  rw [yj, yj, eH]
  cases qc (adv O c) 0 <;> cases inB no 0 1048576 <;> cases inB h0 0 1125899906842624 <;> cases inB h1 0 1125899906842624 <;> cases inB rt 0 1000 <;> cases iLt 16 (l.length : Int) <;> rfl
 refine ziT hc (ae (fun a => ⟨by rw [r0, a]; rfl, (by first | rfl | trivial)⟩) (fun a1 => ae (fun a => ⟨by rw [r0, a1, a]; rfl, (by first | rfl | trivial)⟩) (fun a2 => ae (fun a => ⟨by rw [r0, a1, a2, a]; rfl, (by first | rfl | trivial)⟩) (fun a3 => ae (fun a => ⟨by rw [r0, a1, a2, a3, a]; rfl, (by first | rfl | trivial)⟩) (fun a4 => ae (fun a => ⟨by rw [r0, a1, a2, a3, a4, a]; rfl, (by first | rfl | trivial)⟩) (fun a5 => ae (fun a => ⟨by rw [r0, a1, a2, a3, a4, a5, a]; rfl, (by first | rfl | trivial)⟩) (fun a6 => ?_)))))))
 have hR : jh O c no h0 h1 rt l = (bif !(allB O c l l.length) then false else bif xm c l 0 (c 47) (c 49) then false else bif xm c l 1 (c 53) (c 55) then false else bif ax (aa3 h0 h1 l) (c 33) then iLe (jg rt l.length) (jf h0 h1 (c 56)) else false) := by
  rw [r0, a1, a2, a3, a4, a5, a6]; rfl
 refine ⟨⟨0, ⟨Nat.zero_le _, rfl⟩, (by repeat' (first | exact True.intro | exact rfl | refine ⟨?_, ?_⟩)), (by repeat' (first | exact True.intro | exact rfl | refine ⟨?_, ?_⟩))⟩, fun x hx => ae (fun h => ?_) (fun h => ?_)⟩
 ·simp only [Bz, Sx.af.n] at h
  have hlt : x < l.length := by omega
  have hbl : x.blt l.length = true := by rw [Nat.blt_eq]; exact hlt
  have b1 : (iLe 0 (x : Int) && x.blt l.length) = true := by simp only [Bz, Sx.af.n, hbl, and_true]; omega
  have b2 : (true && Nat.beq 5 5 && x.blt l.length) = true := by rw [hbl]; rfl
  simp only [ztN]
  have hbad : aaw O c l x = true → Value.bool false = Value.bool (jh O c no h0 h1 rt l) ∧ True ∧ True := fun hb => ⟨by rw [hR, axu hlt hb]; rfl, trivial, trivial⟩
  have hnext : aaw O c l x = false → allB O c l (x + 1) = true := fun hb => by rw [aru, hx.2, hb]; rfl
  refine ziT b1 (ziT b2 (ziT (aaz g1 hlt) (ae (fun f => hbad ?_) (fun f => ?_))))
  ·unfold aaw
   rw [show (!yg O (xAt l x 0) (xAt l x 1) (xAt l x 2) (xAt l x 3) (xAt l x 4)) = true from f]; rfl
  have fn : (!yg O (xAt l x 0) (xAt l x 1) (xAt l x 2) (xAt l x 3) (xAt l x 4)) = false := f
  have kB : ∀ lc, afh c (i64.wrap (1 - xAt l x 0)) = lc → aaw O c l x = bif iLt (xAt l x 2) lc then true else bif iLt 0 (x : Int) then iLe 0 (orZ (qx (xAt l (x - 1) 0) (xAt l x 0)) (qx (xAt l (x - 1) 1) (xAt l x 1))) else false := fun lc e => by
   unfold aaw
   rw [fn, e]
   cases iLt (xAt l x 2) lc <;> rfl
  have nxt : ∀ Z : Prop, Z → aaw O c l x = false → ∃ (x' : Nat), (x' ≤ l.length ∧ allB O c l x' = true) ∧ (iy l.length x').succ ≤ iy l.length x ∧ (Value.int i64 (i64.wrap (dh (x : Int) 1)) = Value.int i64 (x' : Int) ∧ True) ∧ Z := fun Z z hb =>
   ⟨x + 1, ⟨hlt, hnext hb⟩, by simp only [iy]; omega, ⟨by simp only [dh]; rw [wrap_succ (by omega)], trivial⟩, z⟩
  have tail : ∀ ah : Bool, (bif iLt 0 (x : Int) then iLe 0 (orZ (qx (xAt l (x - 1) 0) (xAt l x 0)) (qx (xAt l (x - 1) 1) (xAt l x 1))) else false) = false → ∀ G0 G1 : Prop, ((iLt (xAt l x 2) (c 48) = true → aaw O c l x = true) → (iLt (xAt l x 2) (c 48) = false → aaw O c l x = false) → G0) → ((iLt (xAt l x 2) (c 54) = true → aaw O c l x = true) → (iLt (xAt l x 2) (c 54) = false → aaw O c l x = false) → G1) →
    Sx.If (iEq (i64.wrap (1 - xAt l x 0)) (iOf 0)) G0 (Sx.If (iEq (i64.wrap (1 - xAt l x 0)) (iOf (ay 0 1))) G1 False) := fun _ ht G0 G1 g0' g1' => by
   refine ae (fun e => ?_) (fun e => ae (fun e2 => ?_) (fun e2 => ?_))
   ·have k := kB _ (least0 e)
    exact g0' (fun q => by rw [k, q]; rfl) (fun q => by rw [k, q, ht]; rfl)
   ·have k := kB _ (least1 e2)
    exact g1' (fun q => by rw [k, q]; rfl) (fun q => by rw [k, q, ht]; rfl)
   ·have ff : yg O (xAt l x 0) (xAt l x 1) (xAt l x 2) (xAt l x 3) (xAt l x 4) = true := by simpa using fn
    obtain ⟨⟨f1, f2⟩, _⟩ := aba.1 ff
    have g1' : ¬ i64.wrap (1 - xAt l x 0) = 0 := of_decide_eq_false e
    have g2' : ¬ i64.wrap (1 - xAt l x 0) = 1 := of_decide_eq_false e2
    rw [IntWalk.i64_in _ (by omega)] at g1' g2'
    omega
  refine ae (fun p => ?_) (fun p => ?_)
  ·have hp : 0 < x := by simp only [Bz, Sx.af.n] at p; omega
   have ew : i64.wrap ((x : Int) - 1) = ((x - 1 : Nat) : Int) := by rw [IntWalk.i64_in _ (by omega)]; omega
   have hb2 : (x - 1).blt l.length = true := by rw [Nat.blt_eq]; omega
   simp only [di, ew, ztN]
   refine ziT (by simp only [hb2, Bz, Sx.af.n, and_true]; omega) (ziT (by rw [hb2]; rfl) (ziT b1 (ziT b2 (ziT (by rw [aaz g1 (show x - 1 < l.length by omega), aaz g1 hlt]; rfl) (ae (fun q => hbad ?_) (fun q => ?_))))))
   ·have q : (!iLt (orZ (qx (xAt l (x - 1) 0) (xAt l x 0)) (qx (xAt l (x - 1) 1) (xAt l x 1))) 0) = true := q
    have q' : iLe 0 (orZ (qx (xAt l (x - 1) 0) (xAt l x 0)) (qx (xAt l (x - 1) 1) (xAt l x 1))) = true := by
     have : iLt (orZ (qx (xAt l (x - 1) 0) (xAt l x 0)) (qx (xAt l (x - 1) 1) (xAt l x 1))) 0 = false := by simpa using q
     simp only [Bz, Sx.af.n] at this ⊢; omega
    rw [kB _ rfl, p, q']
    cases iLt (xAt l x 2) (afh c (i64.wrap (1 - xAt l x 0))) <;> rfl
   ·have q : (!iLt (orZ (qx (xAt l (x - 1) 0) (xAt l x 0)) (qx (xAt l (x - 1) 1) (xAt l x 1))) 0) = false := q
    have q' : iLe 0 (orZ (qx (xAt l (x - 1) 0) (xAt l x 0)) (qx (xAt l (x - 1) 1) (xAt l x 1))) = false := by
     have : iLt (orZ (qx (xAt l (x - 1) 0) (xAt l x 0)) (qx (xAt l (x - 1) 1) (xAt l x 1))) 0 = true := by simpa using q
     simp only [Bz, Sx.af.n] at this ⊢; omega
    refine ziT b1 (ziT hbl (ziT b2 (ziT b1 (ziT hbl (ziT b2 ?_)))))
    exact tail true (by rw [p, q']; rfl) _ _ (fun u v => ae (fun e => hbad (u e)) (fun e => nxt _ (by repeat' (first | exact True.intro | exact rfl | refine ⟨?_, ?_⟩)) (v e))) (fun u v => ae (fun e => hbad (u e)) (fun e => nxt _ (by repeat' (first | exact True.intro | exact rfl | refine ⟨?_, ?_⟩)) (v e)))
  ·refine ziT b1 (ziT hbl (ziT b2 (ziT b1 (ziT hbl (ziT b2 ?_)))))
   exact tail true (by rw [p]; rfl) _ _ (fun u v => ae (fun e => hbad (u e)) (fun e => nxt _ (by repeat' (first | exact True.intro | exact rfl | refine ⟨?_, ?_⟩)) (v e))) (fun u v => ae (fun e => hbad (u e)) (fun e => nxt _ (by repeat' (first | exact True.intro | exact rfl | refine ⟨?_, ?_⟩)) (v e)))
 ·simp only [Bz, Sx.af.n] at h
  have hx2 : x = l.length := by omega
  subst hx2
  rw [hx.2] at hR
  refine ziT g0 (ae (fun b => ⟨by rw [hR]; unfold xm; rw [b]; rfl, (by first | rfl | trivial)⟩) (fun b1 => ae (fun b => ⟨by rw [hR]; unfold xm; rw [b1, b]; rfl, (by first | rfl | trivial)⟩) (fun b2 => ziT g0 (ae (fun b => ⟨?_, (by first | rfl | trivial)⟩) (fun b3 => ae (fun b => ⟨?_, (by first | rfl | trivial)⟩) (fun b4 => ziT g0 ?_))))))
  ·rw [hR]
   unfold xm
   rw [b1, b2, show iLt (c 53) (o7 1 l) = true from b]; rfl
  ·rw [hR]
   unfold xm
   rw [b1, b2, show iLt (c 53) (o7 1 l) = false from b3, show iLt (c 55) (og 1 l) = true from b]; rfl
  ·have hR2 : jh O c no h0 h1 rt l = (bif ax (aa3 h0 h1 l) (c 33) then iLe (jg rt l.length) (jf h0 h1 (c 56)) else false) := by
    rw [hR]
    unfold xm
    rw [b1, b2, show iLt (c 53) (o7 1 l) = false from b3, show iLt (c 55) (og 1 l) = false from b4]; rfl
   refine ae (fun t => ae (fun e => ziT (by rw [hc, g0]; rfl) ⟨by rw [hR2, t, ark e]; rfl, (by first | rfl | trivial)⟩) (fun e => ?_)) (fun t => ⟨by rw [hR2, t]; rfl, (by first | rfl | trivial)⟩)
   have e1 : iEq (c 56) (iOf (ay 0 1)) = true := by
    rcases akj hc a1 with h | h
    ·have : ¬ c 56 = 0 := of_decide_eq_false e
     exact absurd h this
    ·rw [h]; rfl
   exact ziT e1 (ziT (by rw [hc, g0]; rfl) ⟨by rw [hR2, t, arb e1]; rfl, (by first | rfl | trivial)⟩)
theorem a6r (I : Sx.Interp) (O : OO) (hO : O = oo) (Y : OY) (hY : Y = yO O) : ag I Tryz.prog 22 (au [.v, .agg [.v, .v, .v, .roS [.i64, .i64, .i64, .u64, .i64], .v]] false (ajc O Y)) := by
 refine jb (aue I O hO Y hY) (by kernel_rfl) (fun ds => match ds with | [.v (.agg ch), .node [.v (.int .i64 no), .v (.int .i64 h0), .v (.int .i64 h1), .structs l, .v (.int .i64 rt)]] => [⟨Nat, [2, 3], [], fun B j => [(5, .v (.int .i64 (j : Int)))], fun B j => [], fun j => j ≤ l.length ∧ allB O (cz ch) l j = true, fun j => l.length - j, 0⟩, Ann.walk 3] | _ => []) Tryz.func22 (by kernel_rfl) (by kernel_rfl) rfl Tryz.ntmps22 (by decide) ?_ ?_
 ·intro ds p bs F h
  unfold ajc at h
  split at h
  ·simp only [zsI, zpI] at h
   obtain ⟨_, _, rfl⟩ := h
   kernel_rfl
  ·cases h
 ·intro ds bs F hl h
  unfold ajc at h
  split at h
  ·rename_i ch no h0 h1 l rt
   simp only [zsI, zpI, zaT] at h
   obtain ⟨⟨⟨hc, g0⟩, g1⟩, _, rfl⟩ := h
   obtain ⟨c, ec, rfl⟩ : ∃ c, cz ch = c ∧ ch = chA c := ⟨_, rfl, aak hc⟩
   simp only [ec]
   exact Eq.mpr (by kernel_rfl) (a6z O Y c no h0 h1 rt l (dn O hO) hY hc g0 g1 (ec))
  ·cases h
def aja (O : OO) (Y : OY) (ds : List Dt) : zG := match ds with
 | [.node [.v (.int .i64 no), .v (.int .i64 h0), .v (.int .i64 h1), .structs l, .v (.int .i64 rt)], .v (.int .i64 fr), .v (.int .i64 id)] => some ((Nat.ble l.length 1000), [], fun _ => ⟨[.v (.int .i64 (ed (aj fr id) l))], []⟩)
 | _ => none
theorem a5r (O : OO) (Y : OY) (no h0 h1 rt : Int) (l : List (List Int)) (fr id : Int) (F : FO O) (hy : Y = yO O) (g0 : Nat.ble l.length 1000 = true) :
 let T1 := vI no = vI no ∧ vI h0 = vI h0 ∧ vI h1 = vI h1 ∧ vI rt = vI rt; (∃ (x : Nat), (x ≤ l.length ∧ ∀ (k : Nat), k.succ ≤ x → aj fr id (l.getD k []) = false) ∧ (vI 0 = vI
  (iOf x) ∧ vI fr = vI fr ∧ vI id = vI id ∧ True) ∧ T1 ∧ cS l = cS l ∧ True) ∧ ∀ (x : Nat), let T2 := true && Nat.beq 5 5 && (iOf x).toNat.blt l.length; let T3 := iLe 0 (iOf x) && (iOf x).toNat.blt l.length;
  (x ≤ l.length ∧ ∀ (k : Nat), k.succ ≤ x → aj fr id (l.getD k []) = false) → If (iLt (iOf x) (iOf (cS l).n)) (If T3 (If ((iOf x).toNat.blt l.length) (If T2 (If (ax ((l.getD
  (iOf x).toNat []).getD 0 0) fr) (If T3 (If ((iOf x).toNat.blt l.length) (If T2 (If (ax ((l.getD (iOf x).toNat []).getD 1 0) id) (vI (iOf x) = vI (ed (aj fr id) l) ∧ True ∧
  True) (∃ (x' : Nat), (x' ≤ l.length ∧ ∀ (k : Nat), k.succ ≤ x' → aj fr id (l.getD k []) = false) ∧ (iy l.length x').succ ≤ iy l.length x ∧ (vI (i64.wrap (dh (iOf
  x) 1)) = vI (iOf x') ∧ vI fr = vI fr ∧ vI id = vI id ∧ True) ∧ T1 ∧ cS l = cS l ∧ True)) False) False) False) (∃ (x' : Nat), (x' ≤ l.length ∧ ∀ (k : Nat), k.succ ≤ x' → aj fr id
  (l.getD k []) = false) ∧ (iy l.length x').succ ≤ iy l.length x ∧ (vI (i64.wrap (dh (iOf x) 1)) = vI (iOf x') ∧ vI fr = vI fr ∧ vI id = vI id ∧ True) ∧ T1 ∧ cS l = cS l
  ∧ True)) False) False) False) (vI (abn 1) = vI (ed (aj fr id) l) ∧ True ∧ True) := by
 conv => zeta
 simp only [zUn]
 have hm := zbL g0
 refine ⟨⟨0, ⟨Nat.zero_le _, fun k hk => absurd hk (Nat.not_succ_le_zero _)⟩, (by repeat' (first | exact True.intro | exact rfl | refine ⟨?_, ?_⟩)), (by repeat' (first | exact True.intro | exact rfl | refine ⟨?_, ?_⟩))⟩, fun x hx => ae (fun h => ?_) (fun h => ?_)⟩
 ·simp only [Bz, Sx.af.n] at h
  have hlt : x < l.length := by omega
  have hbl : x.blt l.length = true := by rw [Nat.blt_eq]; exact hlt
  have b1 : (iLe 0 (x : Int) && x.blt l.length) = true := by simp only [Bz, Sx.af.n, hbl, and_true]; omega
  have b2 : (true && Nat.beq 5 5 && x.blt l.length) = true := by rw [hbl]; rfl
  simp only [ztN]
  refine ziT b1 (ziT hbl (ziT b2 ?_))
  have nx : aj fr id (l.getD x []) = false → x + 1 ≤ l.length ∧ ∀ k, k.succ ≤ x + 1 → aj fr id (l.getD k []) = false := fun hc => ⟨hlt, fun k hk => by
   rcases Nat.lt_or_ge k x with h' | h'
   ·exact hx.2 k h'
   ·have : k = x := by omega
    rw [this]; exact hc⟩
  refine ae (fun hc => ziT b1 (ziT hbl (ziT b2 (ae (fun hd => ?_) (fun hd => ?_))))) (fun hc => ?_)
  ·have hm2 : aj fr id (l.getD x []) = true := by unfold aj; rw [hc, hd]; rfl
   exact ⟨by rw [akx hlt (fun k hk => hx.2 k hk) hm2], trivial, trivial⟩
  ·have hm2 : aj fr id (l.getD x []) = false := by unfold aj; rw [hc, hd]; rfl
   exact ⟨x + 1, nx hm2, by omega, ⟨by rw [wrap_succ (by omega)], (by repeat' (first | exact True.intro | exact rfl | refine ⟨?_, ?_⟩))⟩, (by repeat' (first | exact True.intro | exact rfl | refine ⟨?_, ?_⟩))⟩
  ·have hm2 : aj fr id (l.getD x []) = false := by unfold aj; rw [hc]; rfl
   exact ⟨x + 1, nx hm2, by omega, ⟨by rw [wrap_succ (by omega)], (by repeat' (first | exact True.intro | exact rfl | refine ⟨?_, ?_⟩))⟩, (by repeat' (first | exact True.intro | exact rfl | refine ⟨?_, ?_⟩))⟩
 ·simp only [Bz, Sx.af.n] at h
  have hx2 : x = l.length := by omega
  subst hx2
  exact ⟨by rw [aky (fun k hk => hx.2 k hk)], trivial, trivial⟩
theorem a6g (I : Sx.Interp) (O : OO) (hO : O = oo) (Y : OY) (hY : Y = yO O) : ag I Tryz.prog 37 (au [.agg [.v, .v, .v, .roS [.i64, .i64, .i64, .u64, .i64], .v], .v, .v] false (aja O Y)) := by
 refine jb (aue I O hO Y hY) (by kernel_rfl) (fun ds => match ds with | [.node [.v (.int .i64 no), .v (.int .i64 h0), .v (.int .i64 h1), .structs l, .v (.int .i64 rt)], .v (.int .i64 fr), .v (.int .i64 id)] => [⟨Nat, [1, 2, 3], [], fun B j => [(7, .v (.int .i64 (j : Int)))], fun B j => [], fun j => j ≤ l.length ∧ ∀ k, k < j → aj fr id (l.getD k []) = false, fun j => l.length - j, 0⟩] | _ => []) Tryz.func37 (by kernel_rfl) (by kernel_rfl) rfl Tryz.ntmps37 (by decide) ?_ ?_
 ·intro ds p bs F h
  unfold aja at h
  split at h
  ·simp only [zsI, zpI] at h
   obtain ⟨_, _, rfl⟩ := h
   kernel_rfl
  ·cases h
 ·intro ds bs F hl h
  unfold aja at h
  split at h
  ·rename_i no h0 h1 l rt fr id
   simp only [zsI, zpI, zaT] at h
   obtain ⟨g0, _, rfl⟩ := h
   exact Eq.mpr (by kernel_rfl) (a5r O Y no h0 h1 rt l fr id (dn O hO) hY g0)
  ·cases h
def bm3 (O : OO) (Y : OY) (f : FuncId) : Option Sx.Spec := match f with
 | 22 => some (au [.v, .agg [.v, .v, .v, .roS [.i64, .i64, .i64, .u64, .i64], .v]] false (ajc O Y))
 | 37 => some (au [.agg [.v, .v, .v, .roS [.i64, .i64, .i64, .u64, .i64], .v], .v, .v] false (aja O Y))
 | f => bnh O Y f
theorem auw (I : Sx.Interp) (O : OO) (hO : O = oo) (Y : OY) (hY : Y = yO O) : ∀ f s, bm3 O Y f = some s → ag I Tryz.prog f s := by
 intro f s h
 unfold bm3 at h
 split at h
 · cases h; exact a6r I O hO Y hY
 · cases h; exact a6g I O hO Y hY
 ·exact aue I O hO Y hY _ s h
def amx (O : OO) (Y : OY) (ds : List Dt) : zG := match ds with
 | [.node [.v (.int .i64 no), .v (.int .i64 h0), .v (.int .i64 h1), .structs l, .v (.int .i64 rt)], .v (.int .i64 fr), .v (.int .i64 id)] => some ((Nat.ble l.length 1000), [], fun _ => ⟨[.v (.agg ⟨[.int .i64 (ak fr id l 0), .int .i64 (ak fr id l 1), .int .i64 (ak fr id l 2), .int .u64 (ak fr id l 3), .int .i64 (ak fr id l 4)]⟩), .v (.bool (!(iLt (ed (aj fr id) l) 0)))], []⟩)
 | _ => none
theorem bai (O : OO) (Y : OY) (no h0 h1 rt : Int) (l : List (List Int)) (fr id : Int) (F : FO O) (hy : Y = yO O) (g0 : Nat.ble l.length 1000 = true) :
 let T1 := l.getD (ed (aj fr id) l).toNat []; let T2 := Array.mk [vI (ak fr id l 0), vI (ak fr id l 1), vI (ak fr id l 2), Value.int .u64 (ak fr id l 3), vI (ak fr id l 4)];
  If (l.length.ble 1000) (If (iLt (ed (aj fr id) l) 0) ((Value.agg (Array.mk [vI 0, vI 0, vI 0, Value.int .u64 0, vI 0]) = Value.agg T2 ∧ vB false = vB !iLt (ed (aj fr id)
  l) 0) ∧ True ∧ True) (If (iLe 0 (ed (aj fr id) l) && (ed (aj fr id) l).toNat.blt l.length) (If (true && Nat.beq 5 5 && (ed (aj fr id) l).toNat.blt l.length)
  ((Value.agg (Array.mk [vI (T1.getD 0 0), vI (T1.getD 1 0), vI (T1.getD 2 0), Value.int .u64 (T1.getD 3 0), vI (T1.getD 4 0)]) = Value.agg T2 ∧ vB true = vB !iLt (ed (aj fr id)
  l) 0) ∧ True ∧ True) False) False)) False := by
 conv => zeta
 have hl := ahc (aj fr id) l
 refine ziT g0 (ae (fun h => ⟨⟨by unfold ak; rw [h]; rfl, by rw [h]; rfl⟩, trivial, trivial⟩) (fun h => ?_))
 obtain ⟨h1', h2'⟩ := hl.2 h
 have hb : (ed (aj fr id) l).toNat.blt l.length = true := by rw [Nat.blt_eq]; exact h1'
 refine ziT (by rw [hb, Bool.and_true]; simp only [Bz, Sx.af.n]; exact h2') (ziT (by rw [hb]; rfl) ⟨⟨by unfold ak; rw [h]; rfl, by rw [h]; rfl⟩, trivial, trivial⟩)
theorem bb7 (I : Sx.Interp) (O : OO) (hO : O = oo) (Y : OY) (hY : Y = yO O) : ag I Tryz.prog 18 (au [.agg [.v, .v, .v, .roS [.i64, .i64, .i64, .u64, .i64], .v], .v, .v] false (amx O Y)) := by
 refine jb (auw I O hO Y hY) (by kernel_rfl) (fun _ => []) Tryz.func18 (by kernel_rfl) (by kernel_rfl) rfl Tryz.ntmps18 (by decide) ?_ ?_
 ·intro ds p bs F h
  unfold amx at h
  split at h
  ·simp only [zsI, zpI] at h
   obtain ⟨_, _, rfl⟩ := h
   kernel_rfl
  ·cases h
 ·intro ds bs F hl h
  unfold amx at h
  split at h
  ·rename_i no h0 h1 l rt fr id
   simp only [zsI, zpI, zaT] at h
   obtain ⟨g0, _, rfl⟩ := h
   exact Eq.mpr (by kernel_rfl) (bai O Y no h0 h1 rt l fr id (dn O hO) hY g0)
  ·cases h
def ajf (O : OO) (Y : OY) (ds : List Dt) : zG := match ds with
 | [.node [.v (.int .i64 no), .v (.int .i64 h0), .v (.int .i64 h1), .structs l, .v (.int .i64 rt)], .v (.int .i64 side)] => some ((Nat.ble l.length 1000), [], fun _ => ⟨[.v (.int .i64 (bif !(jy 0 1 [side]) then 0 else i64.wrap (jf h0 h1 side + og (i64.wrap (1 - side)) l)))], []⟩)
 | _ => none
theorem a6a (O : OO) (Y : OY) (no h0 h1 rt : Int) (l : List (List Int)) (side : Int) (F : FO O) (hy : Y = yO O) (g0 : Nat.ble l.length 1000 = true) :
 let T1 := bif !jy 0 1 [side] then 0 else i64.wrap (dh (jf h0 h1 side) (og (i64.wrap (di 1 side)) l)); If (!inB side 0 1) (vI 0 = vI T1 ∧ True ∧ True) (If
  (l.length.ble 1000) (If (iEq side (iOf 0)) (vI (i64.wrap (dh h0 (og (i64.wrap (di 1 side)) l))) = vI T1 ∧ True ∧ True) (If (iEq side (iOf (ay 0 1))) (vI
  (i64.wrap (dh h1 (og (i64.wrap (di 1 side)) l))) = vI T1 ∧ True ∧ True) False)) False) := by
 conv => zeta
 rw [yj]
 refine ae (fun h => ⟨by rw [h]; rfl, trivial, trivial⟩) (fun h => ?_)
 have hi : inB side 0 1 = true := by simpa using h
 have hs := aa8.1 hi
 rw [hi]
 refine ziT g0 (ae (fun e => ⟨by rw [ark e]; rfl, trivial, trivial⟩) (fun e => ziT (ad1 (by rw [yj]; exact hi) e) ⟨by rw [arb (ad1 (by rw [yj]; exact hi) e)]; rfl, trivial, trivial⟩))
theorem a7u (I : Sx.Interp) (O : OO) (hO : O = oo) (Y : OY) (hY : Y = yO O) : ag I Tryz.prog 26 (au [.agg [.v, .v, .v, .roS [.i64, .i64, .i64, .u64, .i64], .v], .v] false (ajf O Y)) := by
 refine jb (auw I O hO Y hY) (by kernel_rfl) (fun _ => []) Tryz.func26 (by kernel_rfl) (by kernel_rfl) rfl Tryz.ntmps26 (by decide) ?_ ?_
 ·intro ds p bs F h
  unfold ajf at h
  split at h
  ·simp only [zsI, zpI] at h
   obtain ⟨_, _, rfl⟩ := h
   kernel_rfl
  ·cases h
 ·intro ds bs F hl h
  unfold ajf at h
  split at h
  ·rename_i no h0 h1 l rt side
   simp only [zsI, zpI, zaT] at h
   obtain ⟨g0, _, rfl⟩ := h
   exact Eq.mpr (by kernel_rfl) (a6a O Y no h0 h1 rt l side (dn O hO) hY g0)
  ·cases h
def bnz (O : OO) (Y : OY) (f : FuncId) : Option Sx.Spec := match f with
 | 18 => some (au [.agg [.v, .v, .v, .roS [.i64, .i64, .i64, .u64, .i64], .v], .v, .v] false (amx O Y))
 | 26 => some (au [.agg [.v, .v, .v, .roS [.i64, .i64, .i64, .u64, .i64], .v], .v] false (ajf O Y))
 | f => bm3 O Y f
theorem avc (I : Sx.Interp) (O : OO) (hO : O = oo) (Y : OY) (hY : Y = yO O) : ∀ f s, bnz O Y f = some s → ag I Tryz.prog f s := by
 intro f s h
 unfold bnz at h
 split at h
 · cases h; exact bb7 I O hO Y hY
 · cases h; exact a7u I O hO Y hY
 ·exact auw I O hO Y hY _ s h
end Go.Proofs.YtgekiddgdjeaiaaGreat
