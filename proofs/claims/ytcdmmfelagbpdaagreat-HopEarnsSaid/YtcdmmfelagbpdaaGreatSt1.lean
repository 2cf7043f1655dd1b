/- The document's terms and sheet: what is right, what is offered, found, what it costs (printed by genSt.py; VCs by VcTool). -/
import Derived.Test.YtcdmmfelagbpdaaGreatSh8
namespace Go.Proofs.YtcdmmfelagbpdaaGreat
open Go.RowKit Go.Lib Ckp Cfd Cpd Sx
set_option linter.unusedVariables false
set_option linter.unusedSimpArgs false
set_option maxRecDepth 1000000

theorem inB_iff {n lo hi : Int} : inB n lo hi = true ↔ lo ≤ n ∧ n ≤ hi := by
 unfold inB
 cases h : iLe lo n
 ·simp only [Sx.Bz, Sx.Cont.n] at h; simp only [cond_false]; constructor
  ·intro h'; cases h'
  ·intro h'; omega
 ·simp only [Sx.Bz, Sx.Cont.n] at h; rw [cond_true, iLe_t]; omega
theorem inB_not {n lo hi : Int} : (bif iLt n lo then true else iLt hi n) = !(inB n lo hi) := by
 cases h : inB n lo hi
 ·have h' : ¬ (lo ≤ n ∧ n ≤ hi) := fun c => by rw [inB_iff.2 c] at h; cases h
  cases h2 : iLt n lo
  ·simp only [Sx.Bz, Sx.Cont.n] at h2
   show iLt hi n = true
   simp only [Sx.Bz, Sx.Cont.n]; omega
  ·rfl
 ·have h' := inB_iff.1 h
  rw [show iLt n lo = false by simp only [Sx.Bz, Sx.Cont.n]; omega, show iLt hi n = false by simp only [Sx.Bz, Sx.Cont.n]; omega]; rfl
theorem allW_inB {n lo hi : Int} : allW lo hi [n] = inB n lo hi := by
 have e : allW lo hi [n] = (!(bif iLt n lo then true else iLt hi n) && true) := rfl
 rw [e, inB_not, Bool.and_true, Bool.not_not]
theorem opX_inB {x : Int} (hx : -9223372036854775808 ≤ x ∧ x ≤ 9223372036854775807) : opX x = !(inB x 0 1) := by
 cases h : inB x 0 1
 ·cases h2 : opX x
  ·have := opX_no hx h2
   have h' : inB x 0 1 = true := inB_iff.2 (by omega)
   rw [h] at h'; cases h'
  ·rfl
 ·have h' := inB_iff.1 h
  have : x = 0 ∨ x = 1 := by omega
  rcases this with rfl | rfl <;> decide
theorem five_or (t w0 w1 w2 w3 w4 : Bool) (X : Int) : (bif (bif !t then true else !(!w0 && (!w1 && (!w2 && (!w3 && (!w4 && true)))))) then 1 else X) = bif !t then 1 else bif w0 then 1 else bif w1 then 1 else bif w2 then 1 else bif w3 then 1 else bif w4 then 1 else X := by
 cases t <;> cases w0 <;> cases w1 <;> cases w2 <;> cases w3 <;> cases w4 <;> rfl
def fitZ (O : OO) (c : Nat → Int) : Int :=
 bif !(inB (c 33) 1 1125899906842624) then 1 else bif !(inB (c 32) 0 63) then 1 else bif !(inB (c 56) 0 1) then 1 else
 bif !(tRightO (c 44) (c 45) (c 46) (c 47) (c 48) (c 49)) then 1 else bif wrongP O (c 34) then 1 else bif wrongP O (c 35) then 1 else bif wrongP O (c 36) then 1 else bif wrongP O (c 37) then 1 else bif wrongP O (c 38) then 1 else
 bif !(tRightO (c 50) (c 51) (c 52) (c 53) (c 54) (c 55)) then 1 else bif wrongP O (c 39) then 1 else bif wrongP O (c 40) then 1 else bif wrongP O (c 41) then 1 else bif wrongP O (c 42) then 1 else bif wrongP O (c 43) then 1 else
 bif iLt (c 33) (IntKind.i64.wrap (c 45 + c 51)) then 10 else 0
theorem tR_r {d r l c a m : Int} (h : tRightO d r l c a m = true) : 0 ≤ r ∧ r ≤ 1125899906842624 := by
 unfold tRightO at h
 cases h1 : inB d 0 65536
 ·rw [h1] at h; cases h
 ·rw [h1] at h
  cases h2 : inB l 1 4096
  ·rw [h2] at h; cases h
  ·rw [h2] at h
   cases h3 : inB c 0 16
   ·rw [h3] at h; cases h
   ·rw [h3] at h
    cases h4 : inB r d 1125899906842624
    ·rw [h4] at h; cases h
    ·have a := inB_iff.1 h1
     have b := inB_iff.1 h4
     omega
theorem fit_eq {O : OO} {c : Nat → Int} (hc : chB (chA c) = true) : fitO O c = fitZ O c := by
 have e0 : ptC O c 0 = (!(wrongP O (c 34)) && (!(wrongP O (c 35)) && (!(wrongP O (c 36)) && (!(wrongP O (c 37)) && (!(wrongP O (c 38)) && true))))) := rfl
 have e1 : ptC O c 1 = (!(wrongP O (c 39)) && (!(wrongP O (c 40)) && (!(wrongP O (c 41)) && (!(wrongP O (c 42)) && (!(wrongP O (c 43)) && true))))) := rfl
 have t0 : trC c 0 = tRightO (c 44) (c 45) (c 46) (c 47) (c 48) (c 49) := rfl
 have t1 : trC c 1 = tRightO (c 50) (c 51) (c 52) (c 53) (c 54) (c 55) := rfl
 have a1 : (bif iLt (c 32) 0 then true else iLe 64 (c 32)) = !(inB (c 32) 0 63) := by
  rw [← inB_not]
  cases iLt (c 32) 0
  ·rw [cond_false, cond_false, Bool.eq_iff_iff]; simp only [Sx.Bz, Sx.Cont.n]; omega
  ·rfl
 unfold fitO fitZ
 rw [e0, e1, t0, t1, five_or, five_or, inB_not, opX_inB (chA_op hc)]
 generalize wrongP O (c 34) = w0
 generalize wrongP O (c 35) = w1
 generalize wrongP O (c 36) = w2
 generalize wrongP O (c 37) = w3
 generalize wrongP O (c 38) = w4
 generalize wrongP O (c 39) = w5
 generalize wrongP O (c 40) = w6
 generalize wrongP O (c 41) = w7
 generalize wrongP O (c 42) = w8
 generalize wrongP O (c 43) = w9
 cases h33 : inB (c 33) 1 1125899906842624
 ·rfl
 ·have b33 := inB_iff.1 h33
  have a2 : (bif bif bif bif !true then true else iLt (c 32) 0 then true else iLe 64 (c 32) then true else !(inB (c 56) 0 1) then (1 : Int) else (bif !(tRightO (c 44) (c 45) (c 46) (c 47) (c 48) (c 49)) then 1 else bif w0 then 1 else bif w1 then 1 else bif w2 then 1 else bif w3 then 1 else bif w4 then 1 else bif !(tRightO (c 50) (c 51) (c 52) (c 53) (c 54) (c 55)) then 1 else bif w5 then 1 else bif w6 then 1 else bif w7 then 1 else bif w8 then 1 else bif w9 then 1 else bif (bif !(naddB (c 45) (c 51)) then true else iLt (c 33) (naddV (c 45) (c 51))) then 10 else 0)) = (bif !(inB (c 32) 0 63) then 1 else bif !(inB (c 56) 0 1) then 1 else (bif !(tRightO (c 44) (c 45) (c 46) (c 47) (c 48) (c 49)) then 1 else bif w0 then 1 else bif w1 then 1 else bif w2 then 1 else bif w3 then 1 else bif w4 then 1 else bif !(tRightO (c 50) (c 51) (c 52) (c 53) (c 54) (c 55)) then 1 else bif w5 then 1 else bif w6 then 1 else bif w7 then 1 else bif w8 then 1 else bif w9 then 1 else bif (bif !(naddB (c 45) (c 51)) then true else iLt (c 33) (naddV (c 45) (c 51))) then 10 else 0)) := by
   rw [show (bif bif !true then true else iLt (c 32) 0 then true else iLe 64 (c 32)) = !(inB (c 32) 0 63) from a1]
   cases inB (c 32) 0 63 <;> cases inB (c 56) 0 1 <;> rfl
  refine a2.trans ?_
  cases hq0 : tRightO (c 44) (c 45) (c 46) (c 47) (c 48) (c 49)
  ·rfl
  ·cases hq1 : tRightO (c 50) (c 51) (c 52) (c 53) (c 54) (c 55)
   ·rfl
   ·have r0 := tR_r hq0
    have r1 := tR_r hq1
    have fin : (bif (bif !(naddB (c 45) (c 51)) then true else iLt (c 33) (naddV (c 45) (c 51))) then (10 : Int) else 0) = bif iLt (c 33) (IntKind.i64.wrap (c 45 + c 51)) then 10 else 0 := by
     have w1 : IntKind.i64.wrap (c 45 + c 51) = c 45 + c 51 := by rw [IntKind.wrap_i64]; omega
     have w2 : IntKind.i64.wrap (1125899906842624 - c 51) = 1125899906842624 - c 51 := by rw [IntKind.wrap_i64]; omega
     unfold naddB naddV naddB
     rw [inB_iff.2 r0, inB_iff.2 r1, w1, w2]
     cases h : iLt (1125899906842624 - c 51) (c 45)
     ·rfl
     ·simp only [Sx.Bz, Sx.Cont.n] at h
      rw [show iLt (c 33) (c 45 + c 51) = true by simp only [Sx.Bz, Sx.Cont.n]; omega]; rfl
    rw [fin]; rfl
def g_zin20 (O : OO) (Y : OY) (l : List Value) : Option (Bool × Value) := match l with
 | [.int .i64 n, .int .i64 lo, .int .i64 hi] => some (true, .bool (inB n lo hi))
 | _ => none
set_option maxHeartbeats 4000000 in
theorem vc_zin20 (O : OO) (Y : OY) (n lo hi : Int) (out : Value) (F : FO O) (hy : Y = yO O)  (ho : .bool (inB n lo hi) = out) :
 If (iLe lo n) (Value.bool (iLe n hi) = out) (Value.bool false = out) := by
 subst ho
 unfold inB
 exact Sx.if_both (fun h => by rw [h]; rfl) (fun h => by rw [h]; rfl)
theorem wpc_zin20 (O : OO) (Y : OY) (n lo hi : Int) (out : Value) (F : FO O) (hy : Y = yO O)  (ho : .bool (inB n lo hi) = out) : wpcI Tryz.prog (spS21 O Y) Tryz.f45.ntmps [] (bodyOf Tryz.f45) 0 0 (argEnv [.int .i64 n, .int .i64 lo, .int .i64 hi] 0) [] (retK Tryz.prog Tryz.f45.results.toList out) :=
 Eq.mpr (by kernel_rfl) (vc_zin20 O Y n lo hi out F hy  ho)
theorem ok_zin20 (I : Sx.Interp) (O : OO) (hO : O = oo) (Y : OY) (hY : Y = yO O) : Sx.SpecOK I Tryz.prog 45 (Sx.vspec (g_zin20 O Y)) := by
 refine spec_walk (n := 3) (spS21_ok I O hO Y hY) (by kernel_rfl) [] Tryz.func45 (by kernel_rfl) (by kernel_rfl) rfl Tryz.ntmps45 (by decide) ?_ ?_
 ·intro l p v hg; unfold g_zin20 at hg; split at hg <;> first | rfl | cases hg
 ·intro l v hg
  unfold g_zin20 at hg
  split at hg
  ·rename_i n lo hi
   simp only [Option.some.injEq, Prod.mk.injEq, Bool.and_eq_true] at hg
   obtain ⟨_, rfl⟩ := hg
   exact wpc_zin20 O Y n lo hi  _ (fo_oo O hO) hY   rfl
  ·cases hg
def g_zin19 (O : OO) (Y : OY) (l : List Value) : Option (Bool × Value) := match l with
 | [.int .i64 n, .int .i64 lo, .int .i64 hi] => some (true, .bool (inB n lo hi))
 | _ => none
set_option maxHeartbeats 4000000 in
theorem vc_zin19 (O : OO) (Y : OY) (n lo hi : Int) (out : Value) (F : FO O) (hy : Y = yO O)  (ho : .bool (inB n lo hi) = out) :
 If (iLe lo n) (Value.bool (iLe n hi) = out) (Value.bool false = out) := by
 subst ho
 unfold inB
 exact Sx.if_both (fun h => by rw [h]; rfl) (fun h => by rw [h]; rfl)
theorem wpc_zin19 (O : OO) (Y : OY) (n lo hi : Int) (out : Value) (F : FO O) (hy : Y = yO O)  (ho : .bool (inB n lo hi) = out) : wpcI Tryz.prog (spS21 O Y) Tryz.f77.ntmps [] (bodyOf Tryz.f77) 0 0 (argEnv [.int .i64 n, .int .i64 lo, .int .i64 hi] 0) [] (retK Tryz.prog Tryz.f77.results.toList out) :=
 Eq.mpr (by kernel_rfl) (vc_zin19 O Y n lo hi out F hy  ho)
theorem ok_zin19 (I : Sx.Interp) (O : OO) (hO : O = oo) (Y : OY) (hY : Y = yO O) : Sx.SpecOK I Tryz.prog 77 (Sx.vspec (g_zin19 O Y)) := by
 refine spec_walk (n := 3) (spS21_ok I O hO Y hY) (by kernel_rfl) [] Tryz.func77 (by kernel_rfl) (by kernel_rfl) rfl Tryz.ntmps77 (by decide) ?_ ?_
 ·intro l p v hg; unfold g_zin19 at hg; split at hg <;> first | rfl | cases hg
 ·intro l v hg
  unfold g_zin19 at hg
  split at hg
  ·rename_i n lo hi
   simp only [Option.some.injEq, Prod.mk.injEq, Bool.and_eq_true] at hg
   obtain ⟨_, rfl⟩ := hg
   exact wpc_zin19 O Y n lo hi  _ (fo_oo O hO) hY   rfl
  ·cases hg
def spJ0 (O : OO) (Y : OY) (f : FuncId) : Option Sx.Spec := match f with
 | 45 => some (Sx.vspec (g_zin20 O Y))
 | 77 => some (Sx.vspec (g_zin19 O Y))
 | f => spS21 O Y f
theorem spJ0_ok (I : Sx.Interp) (O : OO) (hO : O = oo) (Y : OY) (hY : Y = yO O) : ∀ f s, spJ0 O Y f = some s → Sx.SpecOK I Tryz.prog f s := by
 intro f s h
 unfold spJ0 at h
 split at h
 · cases h; exact ok_zin20 I O hO Y hY
 · cases h; exact ok_zin19 I O hO Y hY
 ·exact spS21_ok I O hO Y hY _ s h
def g_zrt (O : OO) (Y : OY) (l : List Value) : Option (Bool × Value) := match l with
 | [.agg ⟨[.int .i64 d, .int .i64 r, .int .i64 l, .int .i64 c, .int .i64 a, .int .i64 m]⟩] => some (true, .bool (tRightO d r l c a m))
 | _ => none
set_option maxHeartbeats 4000000 in
theorem vc_zrt (O : OO) (Y : OY) (d r l c a m : Int) (out : Value) (F : FO O) (hy : Y = yO O)  (ho : .bool (tRightO d r l c a m) = out) :
 If (inB d 0 65536) (If (inB r d 1125899906842624) (If (inB l 1 4096) (If (inB c 0 16) (If (inB a 1 1125899906842624) (Value.bool (inB m 0 1125899906842624) = out) (Value.bool false
  = out)) (Value.bool false = out)) (Value.bool false = out)) (Value.bool false = out)) (Value.bool false = out) := by
 subst ho
 unfold tRightO
 generalize inB d 0 65536 = A
 generalize inB l 1 4096 = B
 generalize inB c 0 16 = C
 generalize inB r d 1125899906842624 = D
 generalize inB a 1 1125899906842624 = E
 generalize inB m 0 1125899906842624 = G
 cases A <;> cases B <;> cases C <;> cases D <;> cases E <;> cases G <;> exact rfl
theorem wpc_zrt (O : OO) (Y : OY) (d r l c a m : Int) (out : Value) (F : FO O) (hy : Y = yO O)  (ho : .bool (tRightO d r l c a m) = out) : wpcI Tryz.prog (spJ0 O Y) Tryz.f78.ntmps [] (bodyOf Tryz.f78) 0 0 (argEnv [.agg ⟨[.int .i64 d, .int .i64 r, .int .i64 l, .int .i64 c, .int .i64 a, .int .i64 m]⟩] 0) [] (retK Tryz.prog Tryz.f78.results.toList out) :=
 Eq.mpr (by kernel_rfl) (vc_zrt O Y d r l c a m out F hy  ho)
theorem ok_zrt (I : Sx.Interp) (O : OO) (hO : O = oo) (Y : OY) (hY : Y = yO O) : Sx.SpecOK I Tryz.prog 78 (Sx.vspec (g_zrt O Y)) := by
 refine spec_walk (n := 1) (spJ0_ok I O hO Y hY) (by kernel_rfl) [] Tryz.func78 (by kernel_rfl) (by kernel_rfl) rfl Tryz.ntmps78 (by decide) ?_ ?_
 ·intro l p v hg; unfold g_zrt at hg; split at hg <;> first | rfl | cases hg
 ·intro l v hg
  unfold g_zrt at hg
  split at hg
  ·rename_i d r l c a m
   simp only [Option.some.injEq, Prod.mk.injEq, Bool.and_eq_true] at hg
   obtain ⟨_, rfl⟩ := hg
   exact wpc_zrt O Y d r l c a m  _ (fo_oo O hO) hY   rfl
  ·cases hg
def g_zown (O : OO) (Y : OY) (l : List Value) : Option (Bool × Value) := match l with
 | [.int .u64 p] => some ((inU p 18446744073709551616), .bool (!(wrongP O p)))
 | _ => none
set_option maxHeartbeats 4000000 in
theorem vc_zown (O : OO) (Y : OY) (p : Int) (out : Value) (F : FO O) (hy : Y = yO O) (h0 : inU p 18446744073709551616 = true) (ho : .bool (!(wrongP O p)) = out) :
 If (inU p 18446744073709551616) (If (O.pright p) (Value.bool (iBne p 1) = out) (Value.bool false = out)) False := by
 subst ho
 unfold wrongP
 refine Sx.if_true h0 ?_
 have e : iBne p 1 = !(iBeq p 1) := by
  cases h : iBeq p 1
  ·simp only [Sx.Bz, Sx.Cont.n] at h; simp only [Bool.not_false, Sx.Bz, Sx.Cont.n]; exact h
  ·simp only [Sx.Bz, Sx.Cont.n] at h; simp only [Bool.not_true, Sx.Bz, Sx.Cont.n]; exact h
 rw [e]
 cases O.pright p <;> cases iBeq p 1 <;> exact rfl
theorem wpc_zown (O : OO) (Y : OY) (p : Int) (out : Value) (F : FO O) (hy : Y = yO O) (h0 : inU p 18446744073709551616 = true) (ho : .bool (!(wrongP O p)) = out) : wpcI Tryz.prog (spJ0 O Y) Tryz.f79.ntmps [] (bodyOf Tryz.f79) 0 0 (argEnv [.int .u64 p] 0) [] (retK Tryz.prog Tryz.f79.results.toList out) :=
 Eq.mpr (by kernel_rfl) (vc_zown O Y p out F hy h0 ho)
theorem ok_zown (I : Sx.Interp) (O : OO) (hO : O = oo) (Y : OY) (hY : Y = yO O) : Sx.SpecOK I Tryz.prog 79 (Sx.vspec (g_zown O Y)) := by
 refine spec_walk (n := 1) (spJ0_ok I O hO Y hY) (by kernel_rfl) [] Tryz.func79 (by kernel_rfl) (by kernel_rfl) rfl Tryz.ntmps79 (by decide) ?_ ?_
 ·intro l p v hg; unfold g_zown at hg; split at hg <;> first | rfl | cases hg
 ·intro l v hg
  unfold g_zown at hg
  split at hg
  ·rename_i p
   simp only [Option.some.injEq, Prod.mk.injEq, Bool.and_eq_true] at hg
   obtain ⟨q0, rfl⟩ := hg
   exact wpc_zown O Y p  _ (fo_oo O hO) hY q0  rfl
  ·cases hg
def g_zwgt (O : OO) (Y : OY) (l : List Value) : Option (Bool × Value) := match l with
 | [.int .i64 n] => some (true, .int .i64 (wgt n))
 | _ => none
set_option maxHeartbeats 4000000 in
theorem vc_zwgt (O : OO) (Y : OY) (n : Int) (out : Value) (F : FO O) (hy : Y = yO O)  (ho : .int .i64 (wgt n) = out) :
 If (!inB n 0 16) (Value.int .i64 0 = out) (Value.int .i64 (IntKind.i64.wrap (iAdd 36 (IntKind.i64.wrap (iMul (IntKind.i64.wrap (iAdd 4 n)) 8)))) = out) := by
 subst ho
 refine Sx.if_both (fun h => ?_) (fun h => ?_)
 ·have h : inB n 0 16 = false := by simpa using h
  unfold wgt
  rw [inB_not, h]; rfl
 ·have h : inB n 0 16 = true := by simpa using h
  have hn := inB_iff.1 h
  unfold wgt
  rw [inB_not, h]
  show Value.int .i64 _ = Value.int .i64 (IntKind.i64.wrap (68 + IntKind.i64.wrap (8 * n)))
  simp only [Sx.app, Sx.nAdd, Sx.nSub, Sx.nMul, Sx.nPow, Sx.nDiv, Sx.nMod, Sx.iAdd, Sx.iSub, Sx.iMul, Sx.iNeg, Sx.iPow, Sx.iOf]
  rw [IntKind.wrap_i64 (8 * n), IntKind.wrap_i64 (4 + n), show (4 + n + 9223372036854775808) % 18446744073709551616 - 9223372036854775808 = 4 + n by omega, IntKind.wrap_i64 ((4 + n) * 8)]
  congr 2
  omega
theorem wpc_zwgt (O : OO) (Y : OY) (n : Int) (out : Value) (F : FO O) (hy : Y = yO O)  (ho : .int .i64 (wgt n) = out) : wpcI Tryz.prog (spJ0 O Y) Tryz.f99.ntmps [] (bodyOf Tryz.f99) 0 0 (argEnv [.int .i64 n] 0) [] (retK Tryz.prog Tryz.f99.results.toList out) :=
 Eq.mpr (by kernel_rfl) (vc_zwgt O Y n out F hy  ho)
theorem ok_zwgt (I : Sx.Interp) (O : OO) (hO : O = oo) (Y : OY) (hY : Y = yO O) : Sx.SpecOK I Tryz.prog 99 (Sx.vspec (g_zwgt O Y)) := by
 refine spec_walk (n := 1) (spJ0_ok I O hO Y hY) (by kernel_rfl) [] Tryz.func99 (by kernel_rfl) (by kernel_rfl) rfl Tryz.ntmps99 (by decide) ?_ ?_
 ·intro l p v hg; unfold g_zwgt at hg; split at hg <;> first | rfl | cases hg
 ·intro l v hg
  unfold g_zwgt at hg
  split at hg
  ·rename_i n
   simp only [Option.some.injEq, Prod.mk.injEq, Bool.and_eq_true] at hg
   obtain ⟨_, rfl⟩ := hg
   exact wpc_zwgt O Y n  _ (fo_oo O hO) hY   rfl
  ·cases hg
def spJ1 (O : OO) (Y : OY) (f : FuncId) : Option Sx.Spec := match f with
 | 78 => some (Sx.vspec (g_zrt O Y))
 | 79 => some (Sx.vspec (g_zown O Y))
 | 99 => some (Sx.vspec (g_zwgt O Y))
 | f => spJ0 O Y f
theorem spJ1_ok (I : Sx.Interp) (O : OO) (hO : O = oo) (Y : OY) (hY : Y = yO O) : ∀ f s, spJ1 O Y f = some s → Sx.SpecOK I Tryz.prog f s := by
 intro f s h
 unfold spJ1 at h
 split at h
 · cases h; exact ok_zrt I O hO Y hY
 · cases h; exact ok_zown I O hO Y hY
 · cases h; exact ok_zwgt I O hO Y hY
 ·exact spJ0_ok I O hO Y hY _ s h
def g_zfee (O : OO) (Y : OY) (l : List Value) : Option (Bool × Value) := match l with
 | [.int .i64 r, .int .i64 n] => some (true, .int .i64 (feeT r n))
 | _ => none
set_option maxHeartbeats 4000000 in
theorem vc_zfee (O : OO) (Y : OY) (r n : Int) (out : Value) (F : FO O) (hy : Y = yO O)  (ho : .int .i64 (feeT r n) = out) :
 If (!inB r 0 1000) (Value.int .i64 0 = out) (Value.int .i64 (IntKind.i64.wrap (iMul r (wgt n))) = out) := by
 subst ho
 unfold feeT
 rw [inB_not]
 cases inB r 0 1000 <;> exact rfl
theorem wpc_zfee (O : OO) (Y : OY) (r n : Int) (out : Value) (F : FO O) (hy : Y = yO O)  (ho : .int .i64 (feeT r n) = out) : wpcI Tryz.prog (spJ1 O Y) Tryz.f81.ntmps [] (bodyOf Tryz.f81) 0 0 (argEnv [.int .i64 r, .int .i64 n] 0) [] (retK Tryz.prog Tryz.f81.results.toList out) :=
 Eq.mpr (by kernel_rfl) (vc_zfee O Y r n out F hy  ho)
theorem ok_zfee (I : Sx.Interp) (O : OO) (hO : O = oo) (Y : OY) (hY : Y = yO O) : Sx.SpecOK I Tryz.prog 81 (Sx.vspec (g_zfee O Y)) := by
 refine spec_walk (n := 2) (spJ1_ok I O hO Y hY) (by kernel_rfl) [] Tryz.func81 (by kernel_rfl) (by kernel_rfl) rfl Tryz.ntmps81 (by decide) ?_ ?_
 ·intro l p v hg; unfold g_zfee at hg; split at hg <;> first | rfl | cases hg
 ·intro l v hg
  unfold g_zfee at hg
  split at hg
  ·rename_i r n
   simp only [Option.some.injEq, Prod.mk.injEq, Bool.and_eq_true] at hg
   obtain ⟨_, rfl⟩ := hg
   exact wpc_zfee O Y r n  _ (fo_oo O hO) hY   rfl
  ·cases hg
def g_zfit (O : OO) (Y : OY) (ds : List Dt) : Option (Bool × List Bool × (List Bool → Post)) := match ds with
 | [.v (.agg ch)] => some ((chB ch), [], fun _ => ⟨[.v (.int .i64 (fitO O (cz ch)))], []⟩)
 | _ => none
set_option maxHeartbeats 4000000 in
theorem vc_zfit (O : OO) (Y : OY) (c : Nat → Int) (F : FO O) (hy : Y = yO O) (hc : chB (chA c) = true) :
 If (!inB (c 33) 1 1125899906842624) (Value.int .i64 1 = Value.int .i64 (fitO O c) ∧ True ∧ True) (If (!inB (c 32) 0 63) (Value.int .i64 1 = Value.int .i64 (fitO O c) ∧ True ∧ True)
  (If (!inB (c 56) 0 1) (Value.int .i64 1 = Value.int .i64 (fitO O c) ∧ True ∧ True) (If (!tRightO (c 44) (c 45) (c 46) (c 47) (c 48) (c 49)) (Value.int .i64 1 = Value.int .i64 (fitO
  O c) ∧ True ∧ True) (If (inU (c 34) 18446744073709551616) (If (!!wrongP O (c 34)) (Value.int .i64 1 = Value.int .i64 (fitO O c) ∧ True ∧ True) (If (inU (c 35) 18446744073709551616)
  (If (!!wrongP O (c 35)) (Value.int .i64 1 = Value.int .i64 (fitO O c) ∧ True ∧ True) (If (inU (c 36) 18446744073709551616) (If (!!wrongP O (c 36)) (Value.int .i64 1 = Value.int .i64
  (fitO O c) ∧ True ∧ True) (If (inU (c 37) 18446744073709551616) (If (!!wrongP O (c 37)) (Value.int .i64 1 = Value.int .i64 (fitO O c) ∧ True ∧ True) (If (inU (c 38)
  18446744073709551616) (If (!!wrongP O (c 38)) (Value.int .i64 1 = Value.int .i64 (fitO O c) ∧ True ∧ True) (If (!tRightO (c 50) (c 51) (c 52) (c 53) (c 54) (c 55)) (Value.int .i64 1
  = Value.int .i64 (fitO O c) ∧ True ∧ True) (If (inU (c 39) 18446744073709551616) (If (!!wrongP O (c 39)) (Value.int .i64 1 = Value.int .i64 (fitO O c) ∧ True ∧ True) (If (inU (c 40)
  18446744073709551616) (If (!!wrongP O (c 40)) (Value.int .i64 1 = Value.int .i64 (fitO O c) ∧ True ∧ True) (If (inU (c 41) 18446744073709551616) (If (!!wrongP O (c 41)) (Value.int
  .i64 1 = Value.int .i64 (fitO O c) ∧ True ∧ True) (If (inU (c 42) 18446744073709551616) (If (!!wrongP O (c 42)) (Value.int .i64 1 = Value.int .i64 (fitO O c) ∧ True ∧ True) (If (inU
  (c 43) 18446744073709551616) (If (!!wrongP O (c 43)) (Value.int .i64 1 = Value.int .i64 (fitO O c) ∧ True ∧ True) (If (iLt (c 33) (IntKind.i64.wrap (iAdd (c 45) (c 51)))) (Value.int
  .i64 10 = Value.int .i64 (fitO O c) ∧ True ∧ True) (Value.int .i64 0 = Value.int .i64 (fitO O c) ∧ True ∧ True))) False)) False)) False)) False)) False))) False)) False)) False))
  False)) False)))) := by
 obtain ⟨p0, p1, p2, p3, p4, p5, p6, p7, p8, p9⟩ := chA_in hc
 rw [fit_eq hc]
 unfold fitZ
 simp only [Bool.not_not]
 refine Sx.if_both (fun a => ⟨by rw [a]; rfl, trivial, trivial⟩) (fun a1 => Sx.if_both (fun a => ⟨by rw [a1, a]; rfl, trivial, trivial⟩) (fun a2 => Sx.if_both (fun a => ⟨by rw [a1, a2, a]; rfl, trivial, trivial⟩) (fun a3 => Sx.if_both (fun a => ⟨by rw [a1, a2, a3, a]; rfl, trivial, trivial⟩) (fun a4 => ?_))))
 refine Sx.if_true p0 (Sx.if_both (fun a => ⟨by rw [a1, a2, a3, a4, a]; rfl, trivial, trivial⟩) (fun a5 => Sx.if_true p1 (Sx.if_both (fun a => ⟨by rw [a1, a2, a3, a4, a5, a]; rfl, trivial, trivial⟩) (fun a6 => Sx.if_true p2 (Sx.if_both (fun a => ⟨by rw [a1, a2, a3, a4, a5, a6, a]; rfl, trivial, trivial⟩) (fun a7 => Sx.if_true p3 (Sx.if_both (fun a => ⟨by rw [a1, a2, a3, a4, a5, a6, a7, a]; rfl, trivial, trivial⟩) (fun a8 => Sx.if_true p4 (Sx.if_both (fun a => ⟨by rw [a1, a2, a3, a4, a5, a6, a7, a8, a]; rfl, trivial, trivial⟩) (fun a9 => ?_))))))))))
 rw [a1, a2, a3, a4, a5, a6, a7, a8, a9]
 simp only [cond_false]
 refine Sx.if_both (fun a => ⟨by rw [a]; rfl, trivial, trivial⟩) (fun a4 => ?_)
 refine Sx.if_true p5 (Sx.if_both (fun a => ⟨by rw [a4, a]; rfl, trivial, trivial⟩) (fun a5 => Sx.if_true p6 (Sx.if_both (fun a => ⟨by rw [a4, a5, a]; rfl, trivial, trivial⟩) (fun a6 => Sx.if_true p7 (Sx.if_both (fun a => ⟨by rw [a4, a5, a6, a]; rfl, trivial, trivial⟩) (fun a7 => Sx.if_true p8 (Sx.if_both (fun a => ⟨by rw [a4, a5, a6, a7, a]; rfl, trivial, trivial⟩) (fun a8 => Sx.if_true p9 (Sx.if_both (fun a => ⟨by rw [a4, a5, a6, a7, a8, a]; rfl, trivial, trivial⟩) (fun a9 => ?_))))))))))
 rw [a4, a5, a6, a7, a8, a9]
 simp only [cond_false]
 exact Sx.if_both (fun a => ⟨by rw [show iLt (c 33) (IntKind.i64.wrap (c 45 + c 51)) = true from a]; rfl, trivial, trivial⟩) (fun a => ⟨by rw [show iLt (c 33) (IntKind.i64.wrap (c 45 + c 51)) = false from a]; rfl, trivial, trivial⟩)
theorem wpc_zfit (O : OO) (Y : OY) (c : Nat → Int) (F : FO O) (hy : Y = yO O) (hc : chB (chA c) = true) : wpcI Tryz.prog (spJ1 O Y) Tryz.f44.ntmps [Ann.walk 3, Ann.walk 6] (bodyOf Tryz.f44) 0 64 (envP (mks [.v] [.v (.agg (chA c))] 0).1 0) (mks [.v] [.v (.agg (chA c))] 0).2 (retP Tryz.prog Tryz.f44.results.toList 0 (⟨[.v (.int .i64 (fitO O c))], []⟩ : Post)) :=
 Eq.mpr (by kernel_rfl) (vc_zfit O Y c F hy hc)
theorem ok_zfit (I : Sx.Interp) (O : OO) (hO : O = oo) (Y : OY) (hY : Y = yO O) : Sx.SpecOK I Tryz.prog 44 (pspec [.v] false (g_zfit O Y)) := by
 refine spec_patI (spJ1_ok I O hO Y hY) (by kernel_rfl) (fun ds => match ds with | [.v (.agg ch)] => [Ann.walk 3, Ann.walk 6] | _ => []) Tryz.func44 (by kernel_rfl) (by kernel_rfl) rfl Tryz.ntmps44 (by decide) ?_ ?_
 ·intro ds p bs F h
  unfold g_zfit at h
  split at h
  ·simp only [Option.some.injEq, Prod.mk.injEq] at h
   obtain ⟨_, _, rfl⟩ := h
   kernel_rfl
  ·cases h
 ·intro ds bs F hl h
  unfold g_zfit at h
  split at h
  ·rename_i ch
   simp only [Option.some.injEq, Prod.mk.injEq, Bool.and_eq_true] at h
   obtain ⟨hc, _, rfl⟩ := h
   obtain ⟨c, ec, rfl⟩ : ∃ c, cz ch = c ∧ ch = chA c := ⟨_, rfl, chB_eq hc⟩
   simp only [ec]
   exact wpc_zfit O Y c (fo_oo O hO) hY hc
  ·cases h
def g_zfine (O : OO) (Y : OY) (l : List Value) : Option (Bool × Value) := match l with
 | [.agg ⟨[.int .i64 xf, .int .i64 xi, .int .i64 xa, .int .u64 xq, .int .i64 xe]⟩] => some ((inU xq 18446744073709551616), .bool (fineO O xf xi xa xq xe))
 | _ => none
set_option maxHeartbeats 4000000 in
theorem vc_zfine (O : OO) (Y : OY) (xf xi xa xq xe : Int) (out : Value) (F : FO O) (hy : Y = yO O) (h0 : inU xq 18446744073709551616 = true) (ho : .bool (fineO O xf xi xa xq xe) = out) :
 If (inU xq 18446744073709551616) (If (O.pright xq) (If (iBne xq 1) (If (inB xf 0 1) (If (inB xi 1 1048576) (If (inB xa 1 1125899906842624) (Value.bool (inB xe 1 1048576) = out)
  (Value.bool false = out)) (Value.bool false = out)) (Value.bool false = out)) (Value.bool false = out)) (Value.bool false = out)) False := by
 subst ho
 refine Sx.if_true h0 ?_
 unfold fineO
 rw [allW_inB, allW_inB, allW_inB, allW_inB]
 cases O.pright xq <;> cases iBne xq 1 <;> cases inB xf 0 1 <;> cases inB xi 1 1048576 <;> cases inB xa 1 1125899906842624 <;> cases inB xe 1 1048576 <;> exact rfl
theorem wpc_zfine (O : OO) (Y : OY) (xf xi xa xq xe : Int) (out : Value) (F : FO O) (hy : Y = yO O) (h0 : inU xq 18446744073709551616 = true) (ho : .bool (fineO O xf xi xa xq xe) = out) : wpcI Tryz.prog (spJ1 O Y) Tryz.f46.ntmps [] (bodyOf Tryz.f46) 0 0 (argEnv [.agg ⟨[.int .i64 xf, .int .i64 xi, .int .i64 xa, .int .u64 xq, .int .i64 xe]⟩] 0) [] (retK Tryz.prog Tryz.f46.results.toList out) :=
 Eq.mpr (by kernel_rfl) (vc_zfine O Y xf xi xa xq xe out F hy h0 ho)
theorem ok_zfine (I : Sx.Interp) (O : OO) (hO : O = oo) (Y : OY) (hY : Y = yO O) : Sx.SpecOK I Tryz.prog 46 (Sx.vspec (g_zfine O Y)) := by
 refine spec_walk (n := 1) (spJ1_ok I O hO Y hY) (by kernel_rfl) [] Tryz.func46 (by kernel_rfl) (by kernel_rfl) rfl Tryz.ntmps46 (by decide) ?_ ?_
 ·intro l p v hg; unfold g_zfine at hg; split at hg <;> first | rfl | cases hg
 ·intro l v hg
  unfold g_zfine at hg
  split at hg
  ·rename_i xf xi xa xq xe
   simp only [Option.some.injEq, Prod.mk.injEq, Bool.and_eq_true] at hg
   obtain ⟨q0, rfl⟩ := hg
   exact wpc_zfine O Y xf xi xa xq xe  _ (fo_oo O hO) hY q0  rfl
  ·cases hg
def g_zahead (O : OO) (Y : OY) (l : List Value) : Option (Bool × Value) := match l with
 | [.agg ⟨[.int .i64 xf, .int .i64 xi, .int .i64 xa, .int .u64 xq, .int .i64 xe]⟩, .agg ⟨[.int .i64 yf, .int .i64 yi, .int .i64 ya, .int .u64 yq, .int .i64 ye]⟩] => some ((inU xq 18446744073709551616) && (inU yq 18446744073709551616), .bool (iLt (orZ (cmpI xf yf) (cmpI xi yi)) 0))
 | _ => none
set_option maxHeartbeats 4000000 in
theorem vc_zahead (O : OO) (Y : OY) (xf xi xa xq xe yf yi ya yq ye : Int) (out : Value) (F : FO O) (hy : Y = yO O) (h0 : inU xq 18446744073709551616 = true) (h1 : inU yq 18446744073709551616 = true) (ho : .bool (iLt (orZ (cmpI xf yf) (cmpI xi yi)) 0) = out) :
 If (iLt xf yf) (Value.bool true = out) (If (iBeq xf yf) (Value.bool (iLt xi yi) = out) (Value.bool false = out)) := by
 subst ho
 refine Sx.if_both (fun h => ?_) (fun h => Sx.if_both (fun h' => ?_) (fun h' => ?_))
 ·unfold orZ cmpI
  rw [h]; rfl
 ·simp only [Sx.Bz, Sx.Cont.n] at h'
  subst h'
  unfold orZ cmpI
  rw [h]
  show Value.bool (iLt xi yi) = Value.bool (iLt (bif iLt xi yi then -1 else bif iLt yi xi then 1 else 0) 0)
  cases iLt xi yi
  ·cases iLt yi xi <;> rfl
  ·rfl
 ·simp only [Sx.Bz, Sx.Cont.n] at h h'
  have h2 : iLt yf xf = true := by simp only [Sx.Bz, Sx.Cont.n]; omega
  unfold orZ cmpI
  rw [show iLt xf yf = false by simp only [Sx.Bz, Sx.Cont.n]; omega, h2]; rfl
theorem wpc_zahead (O : OO) (Y : OY) (xf xi xa xq xe yf yi ya yq ye : Int) (out : Value) (F : FO O) (hy : Y = yO O) (h0 : inU xq 18446744073709551616 = true) (h1 : inU yq 18446744073709551616 = true) (ho : .bool (iLt (orZ (cmpI xf yf) (cmpI xi yi)) 0) = out) : wpcI Tryz.prog (spJ1 O Y) Tryz.f47.ntmps [] (bodyOf Tryz.f47) 0 0 (argEnv [.agg ⟨[.int .i64 xf, .int .i64 xi, .int .i64 xa, .int .u64 xq, .int .i64 xe]⟩, .agg ⟨[.int .i64 yf, .int .i64 yi, .int .i64 ya, .int .u64 yq, .int .i64 ye]⟩] 0) [] (retK Tryz.prog Tryz.f47.results.toList out) :=
 Eq.mpr (by kernel_rfl) (vc_zahead O Y xf xi xa xq xe yf yi ya yq ye out F hy h0 h1 ho)
theorem ok_zahead (I : Sx.Interp) (O : OO) (hO : O = oo) (Y : OY) (hY : Y = yO O) : Sx.SpecOK I Tryz.prog 47 (Sx.vspec (g_zahead O Y)) := by
 refine spec_walk (n := 2) (spJ1_ok I O hO Y hY) (by kernel_rfl) [] Tryz.func47 (by kernel_rfl) (by kernel_rfl) rfl Tryz.ntmps47 (by decide) ?_ ?_
 ·intro l p v hg; unfold g_zahead at hg; split at hg <;> first | rfl | cases hg
 ·intro l v hg
  unfold g_zahead at hg
  split at hg
  ·rename_i xf xi xa xq xe yf yi ya yq ye
   simp only [Option.some.injEq, Prod.mk.injEq, Bool.and_eq_true] at hg
   obtain ⟨⟨q0, q1⟩, rfl⟩ := hg
   exact wpc_zahead O Y xf xi xa xq xe yf yi ya yq ye  _ (fo_oo O hO) hY q0 q1  rfl
  ·cases hg
def spJ2 (O : OO) (Y : OY) (f : FuncId) : Option Sx.Spec := match f with
 | 81 => some (Sx.vspec (g_zfee O Y))
 | 44 => some (pspec [.v] false (g_zfit O Y))
 | 46 => some (Sx.vspec (g_zfine O Y))
 | 47 => some (Sx.vspec (g_zahead O Y))
 | f => spJ1 O Y f
theorem spJ2_ok (I : Sx.Interp) (O : OO) (hO : O = oo) (Y : OY) (hY : Y = yO O) : ∀ f s, spJ2 O Y f = some s → Sx.SpecOK I Tryz.prog f s := by
 intro f s h
 unfold spJ2 at h
 split at h
 · cases h; exact ok_zfee I O hO Y hY
 · cases h; exact ok_zfit I O hO Y hY
 · cases h; exact ok_zfine I O hO Y hY
 · cases h; exact ok_zahead I O hO Y hY
 ·exact spJ1_ok I O hO Y hY _ s h
def g_zoff (O : OO) (Y : OY) (ds : List Dt) : Option (Bool × List Bool × (List Bool → Post)) := match ds with
 | [.node [.v (.int .i64 no), .v (.int .i64 h0), .v (.int .i64 h1), .structs l, .v (.int .i64 rt)], .v (.int .i64 tw)] => some ((Nat.ble l.length 1000), [], fun _ => ⟨[.v (.int .i64 (offN tw l)), .v (.int .i64 (offM tw l))], []⟩)
 | _ => none
set_option maxHeartbeats 4000000 in
theorem vc_zoff (O : OO) (Y : OY) (no h0 h1 rt : Int) (l : List (List Int)) (tw : Int) (F : FO O) (hy : Y = yO O) (g0 : Nat.ble l.length 1000 = true) :
 (∃ (x : Nat), x ≤ l.length ∧ (Value.int .i64 0 = Value.int .i64 (offN tw (List.take x l)) ∧ Value.int .i64 0 = Value.int .i64 (offM tw (List.take x l)) ∧ Value.int .i64 0 =
  Value.int .i64 (iOf x) ∧ Value.int .i64 tw = Value.int .i64 tw ∧ True) ∧ (Value.int .i64 no = Value.int .i64 no ∧ Value.int .i64 h0 = Value.int .i64 h0 ∧ Value.int .i64 h1 =
  Value.int .i64 h1 ∧ Value.int .i64 rt = Value.int .i64 rt) ∧ Cont.structs [.i64, .i64, .i64, .u64, .i64] l = Cont.structs [.i64, .i64, .i64, .u64, .i64] l ∧ True) ∧ ∀ (x : Nat), x ≤
  l.length → If (iLt (iOf x) (iOf (Cont.structs [.i64, .i64, .i64, .u64, .i64] l).n)) (If (iLe 0 (iOf x) && (iOf x).toNat.blt l.length) (If ((iOf x).toNat.blt l.length) (If (true &&
  Nat.beq 5 5 && (iOf x).toNat.blt l.length) (If (iBeq ((l.getD (iOf x).toNat []).getD 0 0) (IntKind.i64.wrap (iSub 1 tw))) (If (iLe 0 (iOf x) && (iOf x).toNat.blt l.length) (If ((iOf
  x).toNat.blt l.length) (If (true && Nat.beq 5 5 && (iOf x).toNat.blt l.length) (∃ (x' : Nat), x' ≤ l.length ∧ (nSub l.length x').succ ≤ nSub l.length x ∧ (Value.int .i64
  (IntKind.i64.wrap (iAdd (offN tw (List.take x l)) 1)) = Value.int .i64 (offN tw (List.take x' l)) ∧ Value.int .i64 (IntKind.i64.wrap (iAdd (offM tw (List.take x l)) ((l.getD (iOf
  x).toNat []).getD 2 0))) = Value.int .i64 (offM tw (List.take x' l)) ∧ Value.int .i64 (IntKind.i64.wrap (iAdd (iOf x) 1)) = Value.int .i64 (iOf x') ∧ Value.int .i64 tw = Value.int
  .i64 tw ∧ True) ∧ (Value.int .i64 no = Value.int .i64 no ∧ Value.int .i64 h0 = Value.int .i64 h0 ∧ Value.int .i64 h1 = Value.int .i64 h1 ∧ Value.int .i64 rt = Value.int .i64 rt) ∧
  Cont.structs [.i64, .i64, .i64, .u64, .i64] l = Cont.structs [.i64, .i64, .i64, .u64, .i64] l ∧ True) False) False) False) (∃ (x' : Nat), x' ≤ l.length ∧ (nSub l.length x').succ ≤
  nSub l.length x ∧ (Value.int .i64 (offN tw (List.take x l)) = Value.int .i64 (offN tw (List.take x' l)) ∧ Value.int .i64 (offM tw (List.take x l)) = Value.int .i64 (offM tw
  (List.take x' l)) ∧ Value.int .i64 (IntKind.i64.wrap (iAdd (iOf x) 1)) = Value.int .i64 (iOf x') ∧ Value.int .i64 tw = Value.int .i64 tw ∧ True) ∧ (Value.int .i64 no = Value.int
  .i64 no ∧ Value.int .i64 h0 = Value.int .i64 h0 ∧ Value.int .i64 h1 = Value.int .i64 h1 ∧ Value.int .i64 rt = Value.int .i64 rt) ∧ Cont.structs [.i64, .i64, .i64, .u64, .i64] l =
  Cont.structs [.i64, .i64, .i64, .u64, .i64] l ∧ True)) False) False) False) ((Value.int .i64 (offN tw (List.take x l)) = Value.int .i64 (offN tw l) ∧ Value.int .i64 (offM tw
  (List.take x l)) = Value.int .i64 (offM tw l)) ∧ True ∧ True) := by
 simp only [Sx.app, Sx.nAdd, Sx.nSub, Sx.nMul, Sx.nPow, Sx.nDiv, Sx.nMod, Sx.iAdd, Sx.iSub, Sx.iMul, Sx.iNeg, Sx.iPow, Sx.iOf]
 have hm := Nat.le_of_ble_eq_true g0
 have nN : ∀ x, x < l.length → offN tw (l.take (x + 1)) = bif offA tw (l.getD x []) then IntKind.i64.wrap (offN tw (l.take x) + 1) else offN tw (l.take x) := fun x hx => foldl_snoc _ 0 l [] hx
 have nM : ∀ x, x < l.length → offM tw (l.take (x + 1)) = bif offA tw (l.getD x []) then IntKind.i64.wrap (offM tw (l.take x) + (l.getD x []).getD 2 0) else offM tw (l.take x) := fun x hx => foldl_snoc _ 0 l [] hx
 refine ⟨⟨0, Nat.zero_le _, (by repeat' (first | exact True.intro | exact rfl | refine ⟨?_, ?_⟩)), (by repeat' (first | exact True.intro | exact rfl | refine ⟨?_, ?_⟩))⟩, fun x hx => Sx.if_both (fun h => ?_) (fun h => ?_)⟩
 ·simp only [Sx.Bz, Sx.Cont.n] at h
  have hlt : x < l.length := by omega
  have hbl : x.blt l.length = true := by rw [Nat.blt_eq]; exact hlt
  have b1 : (iLe 0 (x : Int) && x.blt l.length) = true := by simp only [Sx.Bz, Sx.Cont.n, hbl, and_true]; omega
  have b2 : (true && Nat.beq 5 5 && x.blt l.length) = true := by rw [hbl]; rfl
  simp only [Int.toNat_natCast]
  refine Sx.if_true b1 (Sx.if_true hbl (Sx.if_true b2 ?_))
  have n1 := nN x hlt
  have n2 := nM x hlt
  refine Sx.if_both (fun hc => ?_) (fun hc => ?_)
  ·have e : offA tw (l.getD x []) = true := hc
   rw [e] at n1 n2
   exact Sx.if_true b1 (Sx.if_true hbl (Sx.if_true b2 ⟨x + 1, hlt, by omega, ⟨by rw [n1]; rfl, by rw [n2]; rfl, by rw [wrap_succ (by omega)], (by first | rfl | trivial)⟩, (by repeat' (first | exact True.intro | exact rfl | refine ⟨?_, ?_⟩))⟩))
  ·have e : offA tw (l.getD x []) = false := hc
   rw [e] at n1 n2
   exact ⟨x + 1, hlt, by omega, ⟨by rw [n1]; rfl, by rw [n2]; rfl, by rw [wrap_succ (by omega)], (by first | rfl | trivial)⟩, (by repeat' (first | exact True.intro | exact rfl | refine ⟨?_, ?_⟩))⟩
 ·simp only [Sx.Bz, Sx.Cont.n] at h
  have hx2 : x = l.length := by omega
  subst hx2
  rw [List.take_of_length_le (Nat.le_refl _)]
  exact (by repeat' (first | exact True.intro | exact rfl | refine ⟨?_, ?_⟩))
theorem wpc_zoff (O : OO) (Y : OY) (no h0 h1 rt : Int) (l : List (List Int)) (tw : Int) (F : FO O) (hy : Y = yO O) (g0 : Nat.ble l.length 1000 = true) : wpcI Tryz.prog (spJ2 O Y) Tryz.f48.ntmps [⟨Nat, [1, 2, 3], [], fun B j => [(6, .v (.int .i64 (offN tw (l.take j)))), (7, .v (.int .i64 (offM tw (l.take j)))), (8, .v (.int .i64 (j : Int)))], fun B j => [], fun j => j ≤ l.length, fun j => l.length - j, 0⟩] (bodyOf Tryz.f48) 0 64 (envP (mks [.agg [.v, .v, .v, .roS [.i64, .i64, .i64, .u64, .i64], .v], .v] [.node [.v (.int .i64 no), .v (.int .i64 h0), .v (.int .i64 h1), .structs l, .v (.int .i64 rt)], .v (.int .i64 tw)] 0).1 0) (mks [.agg [.v, .v, .v, .roS [.i64, .i64, .i64, .u64, .i64], .v], .v] [.node [.v (.int .i64 no), .v (.int .i64 h0), .v (.int .i64 h1), .structs l, .v (.int .i64 rt)], .v (.int .i64 tw)] 0).2 (retP Tryz.prog Tryz.f48.results.toList 1 (⟨[.v (.int .i64 (offN tw l)), .v (.int .i64 (offM tw l))], []⟩ : Post)) :=
 Eq.mpr (by kernel_rfl) (vc_zoff O Y no h0 h1 rt l tw F hy g0)
theorem ok_zoff (I : Sx.Interp) (O : OO) (hO : O = oo) (Y : OY) (hY : Y = yO O) : Sx.SpecOK I Tryz.prog 48 (pspec [.agg [.v, .v, .v, .roS [.i64, .i64, .i64, .u64, .i64], .v], .v] false (g_zoff O Y)) := by
 refine spec_patI (spJ2_ok I O hO Y hY) (by kernel_rfl) (fun ds => match ds with | [.node [.v (.int .i64 no), .v (.int .i64 h0), .v (.int .i64 h1), .structs l, .v (.int .i64 rt)], .v (.int .i64 tw)] => [⟨Nat, [1, 2, 3], [], fun B j => [(6, .v (.int .i64 (offN tw (l.take j)))), (7, .v (.int .i64 (offM tw (l.take j)))), (8, .v (.int .i64 (j : Int)))], fun B j => [], fun j => j ≤ l.length, fun j => l.length - j, 0⟩] | _ => []) Tryz.func48 (by kernel_rfl) (by kernel_rfl) rfl Tryz.ntmps48 (by decide) ?_ ?_
 ·intro ds p bs F h
  unfold g_zoff at h
  split at h
  ·simp only [Option.some.injEq, Prod.mk.injEq] at h
   obtain ⟨_, _, rfl⟩ := h
   kernel_rfl
  ·cases h
 ·intro ds bs F hl h
  unfold g_zoff at h
  split at h
  ·rename_i no h0 h1 l rt tw
   simp only [Option.some.injEq, Prod.mk.injEq, Bool.and_eq_true] at h
   obtain ⟨g0, _, rfl⟩ := h
   exact wpc_zoff O Y no h0 h1 rt l tw (fo_oo O hO) hY g0
  ·cases h
def g_zcost (O : OO) (Y : OY) (ds : List Dt) : Option (Bool × List Bool × (List Bool → Post)) := match ds with
 | [.v (.agg ch), .node [.v (.int .i64 no), .v (.int .i64 h0), .v (.int .i64 h1), .structs l, .v (.int .i64 rt)]] => some ((chB ch) && (Nat.ble l.length 1000), [], fun _ => ⟨[.v (.int .i64 (costO rt l.length))], []⟩)
 | _ => none
set_option maxHeartbeats 4000000 in
theorem vc_zcost (O : OO) (Y : OY) (c : Nat → Int) (no h0 h1 rt : Int) (l : List (List Int)) (F : FO O) (hy : Y = yO O) (hc : chB (chA c) = true) (g0 : Nat.ble l.length 1000 = true) :
 Value.int .i64 (IntKind.i64.wrap (iAdd (feeT rt (iOf l.length)) 660)) = Value.int .i64 (costO rt (iOf l.length)) ∧ True ∧ True := by
 exact ⟨rfl, trivial, trivial⟩
theorem wpc_zcost (O : OO) (Y : OY) (c : Nat → Int) (no h0 h1 rt : Int) (l : List (List Int)) (F : FO O) (hy : Y = yO O) (hc : chB (chA c) = true) (g0 : Nat.ble l.length 1000 = true) : wpcI Tryz.prog (spJ2 O Y) Tryz.f50.ntmps [] (bodyOf Tryz.f50) 0 64 (envP (mks [.v, .agg [.v, .v, .v, .roS [.i64, .i64, .i64, .u64, .i64], .v]] [.v (.agg (chA c)), .node [.v (.int .i64 no), .v (.int .i64 h0), .v (.int .i64 h1), .structs l, .v (.int .i64 rt)]] 0).1 0) (mks [.v, .agg [.v, .v, .v, .roS [.i64, .i64, .i64, .u64, .i64], .v]] [.v (.agg (chA c)), .node [.v (.int .i64 no), .v (.int .i64 h0), .v (.int .i64 h1), .structs l, .v (.int .i64 rt)]] 0).2 (retP Tryz.prog Tryz.f50.results.toList 1 (⟨[.v (.int .i64 (costO rt l.length))], []⟩ : Post)) :=
 Eq.mpr (by kernel_rfl) (vc_zcost O Y c no h0 h1 rt l F hy hc g0)
theorem ok_zcost (I : Sx.Interp) (O : OO) (hO : O = oo) (Y : OY) (hY : Y = yO O) : Sx.SpecOK I Tryz.prog 50 (pspec [.v, .agg [.v, .v, .v, .roS [.i64, .i64, .i64, .u64, .i64], .v]] false (g_zcost O Y)) := by
 refine spec_patI (spJ2_ok I O hO Y hY) (by kernel_rfl) (fun ds => match ds with | [.v (.agg ch), .node [.v (.int .i64 no), .v (.int .i64 h0), .v (.int .i64 h1), .structs l, .v (.int .i64 rt)]] => [] | _ => []) Tryz.func50 (by kernel_rfl) (by kernel_rfl) rfl Tryz.ntmps50 (by decide) ?_ ?_
 ·intro ds p bs F h
  unfold g_zcost at h
  split at h
  ·simp only [Option.some.injEq, Prod.mk.injEq] at h
   obtain ⟨_, _, rfl⟩ := h
   kernel_rfl
  ·cases h
 ·intro ds bs F hl h
  unfold g_zcost at h
  split at h
  ·rename_i ch no h0 h1 l rt
   simp only [Option.some.injEq, Prod.mk.injEq, Bool.and_eq_true] at h
   obtain ⟨⟨hc, g0⟩, _, rfl⟩ := h
   obtain ⟨c, ec, rfl⟩ : ∃ c, cz ch = c ∧ ch = chA c := ⟨_, rfl, chB_eq hc⟩
   simp only [ec]
   exact wpc_zcost O Y c no h0 h1 rt l (fo_oo O hO) hY hc g0
  ·cases h
def g_ztot (O : OO) (Y : OY) (ds : List Dt) : Option (Bool × List Bool × (List Bool → Post)) := match ds with
 | [.node [.v (.int .i64 no), .v (.int .i64 h0), .v (.int .i64 h1), .structs l, .v (.int .i64 rt)]] => some ((Nat.ble l.length 1000), [], fun _ => ⟨[.v (.int .i64 (totP h0 h1 l))], []⟩)
 | _ => none
set_option maxHeartbeats 4000000 in
theorem vc_ztot (O : OO) (Y : OY) (no h0 h1 rt : Int) (l : List (List Int)) (F : FO O) (hy : Y = yO O) (g0 : Nat.ble l.length 1000 = true) :
 (∃ (x : Nat), x ≤ l.length ∧ (Value.int .i64 (IntKind.i64.wrap (iAdd h0 h1)) = Value.int .i64 (totP h0 h1 (List.take x l)) ∧ Value.int .i64 0 = Value.int .i64 (iOf x) ∧ True) ∧
  (Value.int .i64 no = Value.int .i64 no ∧ Value.int .i64 h0 = Value.int .i64 h0 ∧ Value.int .i64 h1 = Value.int .i64 h1 ∧ Value.int .i64 rt = Value.int .i64 rt) ∧ Cont.structs [.i64,
  .i64, .i64, .u64, .i64] l = Cont.structs [.i64, .i64, .i64, .u64, .i64] l ∧ True) ∧ ∀ (x : Nat), x ≤ l.length → If (iLt (iOf x) (iOf (Cont.structs [.i64, .i64, .i64, .u64, .i64]
  l).n)) (If (iLe 0 (iOf x) && (iOf x).toNat.blt l.length) (If ((iOf x).toNat.blt l.length) (If (true && Nat.beq 5 5 && (iOf x).toNat.blt l.length) (∃ (x' : Nat), x' ≤ l.length ∧
  (nSub l.length x').succ ≤ nSub l.length x ∧ (Value.int .i64 (IntKind.i64.wrap (iAdd (totP h0 h1 (List.take x l)) ((l.getD (iOf x).toNat []).getD 2 0))) = Value.int .i64 (totP h0 h1
  (List.take x' l)) ∧ Value.int .i64 (IntKind.i64.wrap (iAdd (iOf x) 1)) = Value.int .i64 (iOf x') ∧ True) ∧ (Value.int .i64 no = Value.int .i64 no ∧ Value.int .i64 h0 = Value.int
  .i64 h0 ∧ Value.int .i64 h1 = Value.int .i64 h1 ∧ Value.int .i64 rt = Value.int .i64 rt) ∧ Cont.structs [.i64, .i64, .i64, .u64, .i64] l = Cont.structs [.i64, .i64, .i64, .u64,
  .i64] l ∧ True) False) False) False) (Value.int .i64 (totP h0 h1 (List.take x l)) = Value.int .i64 (totP h0 h1 l) ∧ True ∧ True) := by
 simp only [Sx.app, Sx.nAdd, Sx.nSub, Sx.nMul, Sx.nPow, Sx.nDiv, Sx.nMod, Sx.iAdd, Sx.iSub, Sx.iMul, Sx.iNeg, Sx.iPow, Sx.iOf]
 have hm := Nat.le_of_ble_eq_true g0
 have nT : ∀ x, x < l.length → totP h0 h1 (l.take (x + 1)) = IntKind.i64.wrap (totP h0 h1 (l.take x) + (l.getD x []).getD 2 0) := fun x hx => foldl_snoc totS _ l [] hx
 refine ⟨⟨0, Nat.zero_le _, (by repeat' (first | exact True.intro | exact rfl | refine ⟨?_, ?_⟩)), (by repeat' (first | exact True.intro | exact rfl | refine ⟨?_, ?_⟩))⟩, fun x hx => Sx.if_both (fun h => ?_) (fun h => ?_)⟩
 ·simp only [Sx.Bz, Sx.Cont.n] at h
  have hlt : x < l.length := by omega
  have hbl : x.blt l.length = true := by rw [Nat.blt_eq]; exact hlt
  have b1 : (iLe 0 (x : Int) && x.blt l.length) = true := by simp only [Sx.Bz, Sx.Cont.n, hbl, and_true]; omega
  have b2 : (true && Nat.beq 5 5 && x.blt l.length) = true := by rw [hbl]; rfl
  simp only [Int.toNat_natCast]
  refine Sx.if_true b1 (Sx.if_true hbl (Sx.if_true b2 ?_))
  exact ⟨x + 1, hlt, by omega, ⟨by rw [nT x hlt], by rw [wrap_succ (by omega)], (by first | rfl | trivial)⟩, (by repeat' (first | exact True.intro | exact rfl | refine ⟨?_, ?_⟩))⟩
 ·simp only [Sx.Bz, Sx.Cont.n] at h
  have hx2 : x = l.length := by omega
  subst hx2
  rw [List.take_of_length_le (Nat.le_refl _)]
  exact (by repeat' (first | exact True.intro | exact rfl | refine ⟨?_, ?_⟩))
theorem wpc_ztot (O : OO) (Y : OY) (no h0 h1 rt : Int) (l : List (List Int)) (F : FO O) (hy : Y = yO O) (g0 : Nat.ble l.length 1000 = true) : wpcI Tryz.prog (spJ2 O Y) Tryz.f49.ntmps [⟨Nat, [1], [], fun B j => [(3, .v (.int .i64 (totP h0 h1 (l.take j)))), (4, .v (.int .i64 (j : Int)))], fun B j => [], fun j => j ≤ l.length, fun j => l.length - j, 0⟩] (bodyOf Tryz.f49) 0 64 (envP (mks [.agg [.v, .v, .v, .roS [.i64, .i64, .i64, .u64, .i64], .v]] [.node [.v (.int .i64 no), .v (.int .i64 h0), .v (.int .i64 h1), .structs l, .v (.int .i64 rt)]] 0).1 0) (mks [.agg [.v, .v, .v, .roS [.i64, .i64, .i64, .u64, .i64], .v]] [.node [.v (.int .i64 no), .v (.int .i64 h0), .v (.int .i64 h1), .structs l, .v (.int .i64 rt)]] 0).2 (retP Tryz.prog Tryz.f49.results.toList 1 (⟨[.v (.int .i64 (totP h0 h1 l))], []⟩ : Post)) :=
 Eq.mpr (by kernel_rfl) (vc_ztot O Y no h0 h1 rt l F hy g0)
theorem ok_ztot (I : Sx.Interp) (O : OO) (hO : O = oo) (Y : OY) (hY : Y = yO O) : Sx.SpecOK I Tryz.prog 49 (pspec [.agg [.v, .v, .v, .roS [.i64, .i64, .i64, .u64, .i64], .v]] false (g_ztot O Y)) := by
 refine spec_patI (spJ2_ok I O hO Y hY) (by kernel_rfl) (fun ds => match ds with | [.node [.v (.int .i64 no), .v (.int .i64 h0), .v (.int .i64 h1), .structs l, .v (.int .i64 rt)]] => [⟨Nat, [1], [], fun B j => [(3, .v (.int .i64 (totP h0 h1 (l.take j)))), (4, .v (.int .i64 (j : Int)))], fun B j => [], fun j => j ≤ l.length, fun j => l.length - j, 0⟩] | _ => []) Tryz.func49 (by kernel_rfl) (by kernel_rfl) rfl Tryz.ntmps49 (by decide) ?_ ?_
 ·intro ds p bs F h
  unfold g_ztot at h
  split at h
  ·simp only [Option.some.injEq, Prod.mk.injEq] at h
   obtain ⟨_, _, rfl⟩ := h
   kernel_rfl
  ·cases h
 ·intro ds bs F hl h
  unfold g_ztot at h
  split at h
  ·rename_i no h0 h1 l rt
   simp only [Option.some.injEq, Prod.mk.injEq, Bool.and_eq_true] at h
   obtain ⟨g0, _, rfl⟩ := h
   exact wpc_ztot O Y no h0 h1 rt l (fo_oo O hO) hY g0
  ·cases h
def spJ3 (O : OO) (Y : OY) (f : FuncId) : Option Sx.Spec := match f with
 | 48 => some (pspec [.agg [.v, .v, .v, .roS [.i64, .i64, .i64, .u64, .i64], .v], .v] false (g_zoff O Y))
 | 50 => some (pspec [.v, .agg [.v, .v, .v, .roS [.i64, .i64, .i64, .u64, .i64], .v]] false (g_zcost O Y))
 | 49 => some (pspec [.agg [.v, .v, .v, .roS [.i64, .i64, .i64, .u64, .i64], .v]] false (g_ztot O Y))
 | f => spJ2 O Y f
theorem spJ3_ok (I : Sx.Interp) (O : OO) (hO : O = oo) (Y : OY) (hY : Y = yO O) : ∀ f s, spJ3 O Y f = some s → Sx.SpecOK I Tryz.prog f s := by
 intro f s h
 unfold spJ3 at h
 split at h
 · cases h; exact ok_zoff I O hO Y hY
 · cases h; exact ok_zcost I O hO Y hY
 · cases h; exact ok_ztot I O hO Y hY
 ·exact spJ2_ok I O hO Y hY _ s h
def g_zright (O : OO) (Y : OY) (ds : List Dt) : Option (Bool × List Bool × (List Bool → Post)) := match ds with
 | [.v (.agg ch), .node [.v (.int .i64 no), .v (.int .i64 h0), .v (.int .i64 h1), .structs l, .v (.int .i64 rt)]] => some ((chB ch) && (Nat.ble l.length 1000) && (cnd l), [], fun _ => ⟨[.v (.bool (rightO O (cz ch) no h0 h1 rt l))], []⟩)
 | _ => none
set_option maxHeartbeats 4000000 in
theorem vc_zright (O : OO) (Y : OY) (c : Nat → Int) (no h0 h1 rt : Int) (l : List (List Int)) (F : FO O) (hy : Y = yO O) (hc : chB (chA c) = true) (g0 : Nat.ble l.length 1000 = true) (g1 : cnd l = true) (ec : cz (chA c) = c) :
 If (chB (chA c)) (If (iBne (fitO O (cz (chA c))) 0) (Value.bool false = Value.bool (rightO O c no h0 h1 rt l) ∧ True ∧ True) (If (!inB no 0 1048576) (Value.bool false = Value.bool
  (rightO O c no h0 h1 rt l) ∧ True ∧ True) (If (!inB h0 0 1125899906842624) (Value.bool false = Value.bool (rightO O c no h0 h1 rt l) ∧ True ∧ True) (If (!inB h1 0 1125899906842624)
  (Value.bool false = Value.bool (rightO O c no h0 h1 rt l) ∧ True ∧ True) (If (!inB rt 0 1000) (Value.bool false = Value.bool (rightO O c no h0 h1 rt l) ∧ True ∧ True) (If (iLt 16
  (iOf (Cont.structs [.i64, .i64, .i64, .u64, .i64] l).n)) (Value.bool false = Value.bool (rightO O c no h0 h1 rt l) ∧ True ∧ True) ((∃ (x : Nat), (x ≤ l.length ∧ allB O c l x = true)
  ∧ (Value.int .i64 0 = Value.int .i64 (iOf x) ∧ True) ∧ (Value.int .i64 no = Value.int .i64 no ∧ Value.int .i64 h0 = Value.int .i64 h0 ∧ Value.int .i64 h1 = Value.int .i64 h1 ∧
  Value.int .i64 rt = Value.int .i64 rt) ∧ chA c = chA c ∧ Cont.structs [.i64, .i64, .i64, .u64, .i64] l = Cont.structs [.i64, .i64, .i64, .u64, .i64] l ∧ True) ∧ ∀ (x : Nat), x ≤
  l.length ∧ allB O c l x = true → If (iLt (iOf x) (iOf (Cont.structs [.i64, .i64, .i64, .u64, .i64] l).n)) (If (iLe 0 (iOf x) && (iOf x).toNat.blt l.length) (If (true && Nat.beq 5 5
  && (iOf x).toNat.blt l.length) (If (inU ((l.getD (iOf x).toNat []).getD 3 0) 18446744073709551616) (If (!fineO O ((l.getD (iOf x).toNat []).getD 0 0) ((l.getD (iOf x).toNat []).getD
  1 0) ((l.getD (iOf x).toNat []).getD 2 0) ((l.getD (iOf x).toNat []).getD 3 0) ((l.getD (iOf x).toNat []).getD 4 0)) (Value.bool false = Value.bool (rightO O c no h0 h1 rt l) ∧ True
  ∧ True) (If (iLt 0 (iOf x)) (If (iLe 0 (IntKind.i64.wrap (iSub (iOf x) 1)) && (IntKind.i64.wrap (iSub (iOf x) 1)).toNat.blt l.length) (If (true && Nat.beq 5 5 && (IntKind.i64.wrap
  (iSub (iOf x) 1)).toNat.blt l.length) (If (iLe 0 (iOf x) && (iOf x).toNat.blt l.length) (If (true && Nat.beq 5 5 && (iOf x).toNat.blt l.length) (If (inU ((l.getD (IntKind.i64.wrap
  (iSub (iOf x) 1)).toNat []).getD 3 0) 18446744073709551616 && inU ((l.getD (iOf x).toNat []).getD 3 0) 18446744073709551616) (If (!iLt (orZ (cmpI ((l.getD (IntKind.i64.wrap (iSub
  (iOf x) 1)).toNat []).getD 0 0) ((l.getD (iOf x).toNat []).getD 0 0)) (cmpI ((l.getD (IntKind.i64.wrap (iSub (iOf x) 1)).toNat []).getD (nAdd 0 1) 0) ((l.getD (iOf x).toNat []).getD
  (nAdd 0 1) 0))) 0) (Value.bool false = Value.bool (rightO O c no h0 h1 rt l) ∧ True ∧ True) (If (iLe 0 (iOf x) && (iOf x).toNat.blt l.length) (If ((iOf x).toNat.blt l.length) (If
  (true && Nat.beq 5 5 && (iOf x).toNat.blt l.length) (If (iLe 0 (iOf x) && (iOf x).toNat.blt l.length) (If ((iOf x).toNat.blt l.length) (If (true && Nat.beq 5 5 && (iOf x).toNat.blt
  l.length) (If (iEq (IntKind.i64.wrap (iSub 1 ((l.getD (iOf x).toNat []).getD 0 0))) (iOf 0)) (If (iLt ((l.getD (iOf x).toNat []).getD (nAdd (nAdd 0 1) 1) 0) (c 48)) (Value.bool
  false = Value.bool (rightO O c no h0 h1 rt l) ∧ True ∧ True) (∃ (x' : Nat), (x' ≤ l.length ∧ allB O c l x' = true) ∧ (nSub l.length x').succ ≤ nSub l.length x ∧ (Value.int .i64
  (IntKind.i64.wrap (iAdd (iOf x) 1)) = Value.int .i64 (iOf x') ∧ True) ∧ (Value.int .i64 no = Value.int .i64 no ∧ Value.int .i64 h0 = Value.int .i64 h0 ∧ Value.int .i64 h1 =
  Value.int .i64 h1 ∧ Value.int .i64 rt = Value.int .i64 rt) ∧ chA c = chA c ∧ Cont.structs [.i64, .i64, .i64, .u64, .i64] l = Cont.structs [.i64, .i64, .i64, .u64, .i64] l ∧ True))
  (If (iEq (IntKind.i64.wrap (iSub 1 ((l.getD (iOf x).toNat []).getD 0 0))) (iOf (nAdd 0 1))) (If (iLt ((l.getD (iOf x).toNat []).getD (nAdd (nAdd 0 1) 1) 0) (c 54)) (Value.bool false
  = Value.bool (rightO O c no h0 h1 rt l) ∧ True ∧ True) (∃ (x' : Nat), (x' ≤ l.length ∧ allB O c l x' = true) ∧ (nSub l.length x').succ ≤ nSub l.length x ∧ (Value.int .i64
  (IntKind.i64.wrap (iAdd (iOf x) 1)) = Value.int .i64 (iOf x') ∧ True) ∧ (Value.int .i64 no = Value.int .i64 no ∧ Value.int .i64 h0 = Value.int .i64 h0 ∧ Value.int .i64 h1 =
  Value.int .i64 h1 ∧ Value.int .i64 rt = Value.int .i64 rt) ∧ chA c = chA c ∧ Cont.structs [.i64, .i64, .i64, .u64, .i64] l = Cont.structs [.i64, .i64, .i64, .u64, .i64] l ∧ True))
  False)) False) False) False) False) False) False)) False) False) False) False) False) (If (iLe 0 (iOf x) && (iOf x).toNat.blt l.length) (If ((iOf x).toNat.blt l.length) (If (true &&
  Nat.beq 5 5 && (iOf x).toNat.blt l.length) (If (iLe 0 (iOf x) && (iOf x).toNat.blt l.length) (If ((iOf x).toNat.blt l.length) (If (true && Nat.beq 5 5 && (iOf x).toNat.blt l.length)
  (If (iEq (IntKind.i64.wrap (iSub 1 ((l.getD (iOf x).toNat []).getD 0 0))) (iOf 0)) (If (iLt ((l.getD (iOf x).toNat []).getD (nAdd (nAdd 0 1) 1) 0) (c 48)) (Value.bool false =
  Value.bool (rightO O c no h0 h1 rt l) ∧ True ∧ True) (∃ (x' : Nat), (x' ≤ l.length ∧ allB O c l x' = true) ∧ (nSub l.length x').succ ≤ nSub l.length x ∧ (Value.int .i64
  (IntKind.i64.wrap (iAdd (iOf x) 1)) = Value.int .i64 (iOf x') ∧ True) ∧ (Value.int .i64 no = Value.int .i64 no ∧ Value.int .i64 h0 = Value.int .i64 h0 ∧ Value.int .i64 h1 =
  Value.int .i64 h1 ∧ Value.int .i64 rt = Value.int .i64 rt) ∧ chA c = chA c ∧ Cont.structs [.i64, .i64, .i64, .u64, .i64] l = Cont.structs [.i64, .i64, .i64, .u64, .i64] l ∧ True))
  (If (iEq (IntKind.i64.wrap (iSub 1 ((l.getD (iOf x).toNat []).getD 0 0))) (iOf (nAdd 0 1))) (If (iLt ((l.getD (iOf x).toNat []).getD (nAdd (nAdd 0 1) 1) 0) (c 54)) (Value.bool false
  = Value.bool (rightO O c no h0 h1 rt l) ∧ True ∧ True) (∃ (x' : Nat), (x' ≤ l.length ∧ allB O c l x' = true) ∧ (nSub l.length x').succ ≤ nSub l.length x ∧ (Value.int .i64
  (IntKind.i64.wrap (iAdd (iOf x) 1)) = Value.int .i64 (iOf x') ∧ True) ∧ (Value.int .i64 no = Value.int .i64 no ∧ Value.int .i64 h0 = Value.int .i64 h0 ∧ Value.int .i64 h1 =
  Value.int .i64 h1 ∧ Value.int .i64 rt = Value.int .i64 rt) ∧ chA c = chA c ∧ Cont.structs [.i64, .i64, .i64, .u64, .i64] l = Cont.structs [.i64, .i64, .i64, .u64, .i64] l ∧ True))
  False)) False) False) False) False) False) False))) False) False) False) (If (l.length.ble 1000) (If (iLt (c 47) (offN 0 l)) (Value.bool false = Value.bool (rightO O c no h0 h1 rt
  l) ∧ True ∧ True) (If (iLt (c 49) (offM 0 l)) (Value.bool false = Value.bool (rightO O c no h0 h1 rt l) ∧ True ∧ True) (If (l.length.ble 1000) (If (iLt (c 53) (offN
  (IntKind.i64.wrap (iAdd 0 1)) l)) (Value.bool false = Value.bool (rightO O c no h0 h1 rt l) ∧ True ∧ True) (If (iLt (c 55) (offM (IntKind.i64.wrap (iAdd 0 1)) l)) (Value.bool false
  = Value.bool (rightO O c no h0 h1 rt l) ∧ True ∧ True) (If (l.length.ble 1000) (If (iBeq (totP h0 h1 l) (c 33)) (If (iEq (c 56) (iOf 0)) (If (chB (chA c) && l.length.ble 1000)
  (Value.bool (iLe (costO rt (iOf l.length)) h0) = Value.bool (rightO O c no h0 h1 rt l) ∧ True ∧ True) False) (If (iEq (c 56) (iOf (nAdd 0 1))) (If (chB (chA c) && l.length.ble 1000)
  (Value.bool (iLe (costO rt (iOf l.length)) h1) = Value.bool (rightO O c no h0 h1 rt l) ∧ True ∧ True) False) False)) (Value.bool false = Value.bool (rightO O c no h0 h1 rt l) ∧ True
  ∧ True)) False))) False))) False)))))))) False := by
 simp only [ec, iOf, Sx.Cont.n]
 have hm := Nat.le_of_ble_eq_true g0
 have eH : allW 0 1125899906842624 [h0, h1] = (inB h0 0 1125899906842624 && inB h1 0 1125899906842624) := by
  have e : allW 0 1125899906842624 [h0, h1] = (!(bif iLt h0 0 then true else iLt 1125899906842624 h0) && (!(bif iLt h1 0 then true else iLt 1125899906842624 h1) && true)) := rfl
  rw [e, inB_not, inB_not, Bool.not_not, Bool.not_not, Bool.and_true]
 have r0 : rightO O c no h0 h1 rt l = bif iBne (fitO O c) 0 then false else bif !(inB no 0 1048576) then false else bif !(inB h0 0 1125899906842624) then false else bif !(inB h1 0 1125899906842624) then false else bif !(inB rt 0 1000) then false else bif iLt 16 (l.length : Int) then false else (bif !(allB O c l l.length) then false else bif offBad c l 0 (c 47) (c 49) then false else bif offBad c l 1 (c 53) (c 55) then false else bif iBeq (totP h0 h1 l) (c 33) then iLe (costO rt l.length) (haveO h0 h1 (c 56)) else false) := by
  unfold rightO
  rw [allW_inB, allW_inB, eH]
  cases iBne (fitO O c) 0 <;> cases inB no 0 1048576 <;> cases inB h0 0 1125899906842624 <;> cases inB h1 0 1125899906842624 <;> cases inB rt 0 1000 <;> cases iLt 16 (l.length : Int) <;> rfl
 refine Sx.if_true hc (Sx.if_both (fun a => ⟨by rw [r0, a]; rfl, (by first | rfl | trivial)⟩) (fun a1 => Sx.if_both (fun a => ⟨by rw [r0, a1, a]; rfl, (by first | rfl | trivial)⟩) (fun a2 => Sx.if_both (fun a => ⟨by rw [r0, a1, a2, a]; rfl, (by first | rfl | trivial)⟩) (fun a3 => Sx.if_both (fun a => ⟨by rw [r0, a1, a2, a3, a]; rfl, (by first | rfl | trivial)⟩) (fun a4 => Sx.if_both (fun a => ⟨by rw [r0, a1, a2, a3, a4, a]; rfl, (by first | rfl | trivial)⟩) (fun a5 => Sx.if_both (fun a => ⟨by rw [r0, a1, a2, a3, a4, a5, a]; rfl, (by first | rfl | trivial)⟩) (fun a6 => ?_)))))))
 have hR : rightO O c no h0 h1 rt l = (bif !(allB O c l l.length) then false else bif offBad c l 0 (c 47) (c 49) then false else bif offBad c l 1 (c 53) (c 55) then false else bif iBeq (totP h0 h1 l) (c 33) then iLe (costO rt l.length) (haveO h0 h1 (c 56)) else false) := by
  rw [r0, a1, a2, a3, a4, a5, a6]; rfl
 refine ⟨⟨0, ⟨Nat.zero_le _, rfl⟩, (by repeat' (first | exact True.intro | exact rfl | refine ⟨?_, ?_⟩)), (by repeat' (first | exact True.intro | exact rfl | refine ⟨?_, ?_⟩))⟩, fun x hx => Sx.if_both (fun h => ?_) (fun h => ?_)⟩
 ·simp only [Sx.Bz, Sx.Cont.n] at h
  have hlt : x < l.length := by omega
  have hbl : x.blt l.length = true := by rw [Nat.blt_eq]; exact hlt
  have b1 : (iLe 0 (x : Int) && x.blt l.length) = true := by simp only [Sx.Bz, Sx.Cont.n, hbl, and_true]; omega
  have b2 : (true && Nat.beq 5 5 && x.blt l.length) = true := by rw [hbl]; rfl
  simp only [Int.toNat_natCast]
  have hbad : badK O c l x = true → Value.bool false = Value.bool (rightO O c no h0 h1 rt l) ∧ True ∧ True := fun hb => ⟨by rw [hR, allB_bad hlt hb]; rfl, trivial, trivial⟩
  have hnext : badK O c l x = false → allB O c l (x + 1) = true := fun hb => by rw [allB_snoc, hx.2, hb]; rfl
  refine Sx.if_true b1 (Sx.if_true b2 (Sx.if_true (cnd_at g1 hlt) (Sx.if_both (fun f => hbad ?_) (fun f => ?_))))
  ·unfold badK
   rw [show (!fineO O (xAt l x 0) (xAt l x 1) (xAt l x 2) (xAt l x 3) (xAt l x 4)) = true from f]; rfl
  have fn : (!fineO O (xAt l x 0) (xAt l x 1) (xAt l x 2) (xAt l x 3) (xAt l x 4)) = false := f
  have kB : ∀ lc, leastC c (IntKind.i64.wrap (1 - xAt l x 0)) = lc → badK O c l x = bif iLt (xAt l x 2) lc then true else bif iLt 0 (x : Int) then iLe 0 (orZ (cmpI (xAt l (x - 1) 0) (xAt l x 0)) (cmpI (xAt l (x - 1) 1) (xAt l x 1))) else false := fun lc e => by
   unfold badK
   rw [fn, e]
   cases iLt (xAt l x 2) lc <;> rfl
  have nxt : ∀ Z : Prop, Z → badK O c l x = false → ∃ (x' : Nat), (x' ≤ l.length ∧ allB O c l x' = true) ∧ (nSub l.length x').succ ≤ nSub l.length x ∧ (Value.int IntKind.i64 (IntKind.i64.wrap (iAdd (x : Int) 1)) = Value.int IntKind.i64 (x' : Int) ∧ True) ∧ Z := fun Z z hb =>
   ⟨x + 1, ⟨hlt, hnext hb⟩, by simp only [nSub]; omega, ⟨by simp only [iAdd]; rw [wrap_succ (by omega)], trivial⟩, z⟩
  have tail : ∀ ah : Bool, (bif iLt 0 (x : Int) then iLe 0 (orZ (cmpI (xAt l (x - 1) 0) (xAt l x 0)) (cmpI (xAt l (x - 1) 1) (xAt l x 1))) else false) = false → ∀ G0 G1 : Prop, ((iLt (xAt l x 2) (c 48) = true → badK O c l x = true) → (iLt (xAt l x 2) (c 48) = false → badK O c l x = false) → G0) → ((iLt (xAt l x 2) (c 54) = true → badK O c l x = true) → (iLt (xAt l x 2) (c 54) = false → badK O c l x = false) → G1) →
    Sx.If (iEq (IntKind.i64.wrap (1 - xAt l x 0)) (iOf 0)) G0 (Sx.If (iEq (IntKind.i64.wrap (1 - xAt l x 0)) (iOf (nAdd 0 1))) G1 False) := fun _ ht G0 G1 g0' g1' => by
   refine Sx.if_both (fun e => ?_) (fun e => Sx.if_both (fun e2 => ?_) (fun e2 => ?_))
   ·have k := kB _ (least0 e)
    exact g0' (fun q => by rw [k, q]; rfl) (fun q => by rw [k, q, ht]; rfl)
   ·have k := kB _ (least1 e2)
    exact g1' (fun q => by rw [k, q]; rfl) (fun q => by rw [k, q, ht]; rfl)
   ·have ff : fineO O (xAt l x 0) (xAt l x 1) (xAt l x 2) (xAt l x 3) (xAt l x 4) = true := by simpa using fn
    obtain ⟨⟨f1, f2⟩, _⟩ := fine_all.1 ff
    have g1' : ¬ IntKind.i64.wrap (1 - xAt l x 0) = 0 := of_decide_eq_false e
    have g2' : ¬ IntKind.i64.wrap (1 - xAt l x 0) = 1 := of_decide_eq_false e2
    rw [IntWalk.i64_in _ (by omega)] at g1' g2'
    omega
  refine Sx.if_both (fun p => ?_) (fun p => ?_)
  ·have hp : 0 < x := by simp only [Sx.Bz, Sx.Cont.n] at p; omega
   have ew : IntKind.i64.wrap ((x : Int) - 1) = ((x - 1 : Nat) : Int) := by rw [IntWalk.i64_in _ (by omega)]; omega
   have hb2 : (x - 1).blt l.length = true := by rw [Nat.blt_eq]; omega
   simp only [iSub, ew, Int.toNat_natCast]
   refine Sx.if_true (by simp only [hb2, Sx.Bz, Sx.Cont.n, and_true]; omega) (Sx.if_true (by rw [hb2]; rfl) (Sx.if_true b1 (Sx.if_true b2 (Sx.if_true (by rw [cnd_at g1 (show x - 1 < l.length by omega), cnd_at g1 hlt]; rfl) (Sx.if_both (fun q => hbad ?_) (fun q => ?_))))))
   ·have q : (!iLt (orZ (cmpI (xAt l (x - 1) 0) (xAt l x 0)) (cmpI (xAt l (x - 1) 1) (xAt l x 1))) 0) = true := q
    have q' : iLe 0 (orZ (cmpI (xAt l (x - 1) 0) (xAt l x 0)) (cmpI (xAt l (x - 1) 1) (xAt l x 1))) = true := by
     have : iLt (orZ (cmpI (xAt l (x - 1) 0) (xAt l x 0)) (cmpI (xAt l (x - 1) 1) (xAt l x 1))) 0 = false := by simpa using q
     simp only [Sx.Bz, Sx.Cont.n] at this ⊢; omega
    rw [kB _ rfl, p, q']
    cases iLt (xAt l x 2) (leastC c (IntKind.i64.wrap (1 - xAt l x 0))) <;> rfl
   ·have q : (!iLt (orZ (cmpI (xAt l (x - 1) 0) (xAt l x 0)) (cmpI (xAt l (x - 1) 1) (xAt l x 1))) 0) = false := q
    have q' : iLe 0 (orZ (cmpI (xAt l (x - 1) 0) (xAt l x 0)) (cmpI (xAt l (x - 1) 1) (xAt l x 1))) = false := by
     have : iLt (orZ (cmpI (xAt l (x - 1) 0) (xAt l x 0)) (cmpI (xAt l (x - 1) 1) (xAt l x 1))) 0 = true := by simpa using q
     simp only [Sx.Bz, Sx.Cont.n] at this ⊢; omega
    refine Sx.if_true b1 (Sx.if_true hbl (Sx.if_true b2 (Sx.if_true b1 (Sx.if_true hbl (Sx.if_true b2 ?_)))))
    exact tail true (by rw [p, q']; rfl) _ _ (fun u v => Sx.if_both (fun e => hbad (u e)) (fun e => nxt _ (by repeat' (first | exact True.intro | exact rfl | refine ⟨?_, ?_⟩)) (v e))) (fun u v => Sx.if_both (fun e => hbad (u e)) (fun e => nxt _ (by repeat' (first | exact True.intro | exact rfl | refine ⟨?_, ?_⟩)) (v e)))
  ·refine Sx.if_true b1 (Sx.if_true hbl (Sx.if_true b2 (Sx.if_true b1 (Sx.if_true hbl (Sx.if_true b2 ?_)))))
   exact tail true (by rw [p]; rfl) _ _ (fun u v => Sx.if_both (fun e => hbad (u e)) (fun e => nxt _ (by repeat' (first | exact True.intro | exact rfl | refine ⟨?_, ?_⟩)) (v e))) (fun u v => Sx.if_both (fun e => hbad (u e)) (fun e => nxt _ (by repeat' (first | exact True.intro | exact rfl | refine ⟨?_, ?_⟩)) (v e)))
 ·simp only [Sx.Bz, Sx.Cont.n] at h
  have hx2 : x = l.length := by omega
  subst hx2
  rw [hx.2] at hR
  refine Sx.if_true g0 (Sx.if_both (fun b => ⟨by rw [hR]; unfold offBad; rw [b]; rfl, (by first | rfl | trivial)⟩) (fun b1 => Sx.if_both (fun b => ⟨by rw [hR]; unfold offBad; rw [b1, b]; rfl, (by first | rfl | trivial)⟩) (fun b2 => Sx.if_true g0 (Sx.if_both (fun b => ⟨?_, (by first | rfl | trivial)⟩) (fun b3 => Sx.if_both (fun b => ⟨?_, (by first | rfl | trivial)⟩) (fun b4 => Sx.if_true g0 ?_))))))
  ·rw [hR]
   unfold offBad
   rw [b1, b2, show iLt (c 53) (offN 1 l) = true from b]; rfl
  ·rw [hR]
   unfold offBad
   rw [b1, b2, show iLt (c 53) (offN 1 l) = false from b3, show iLt (c 55) (offM 1 l) = true from b]; rfl
  ·have hR2 : rightO O c no h0 h1 rt l = (bif iBeq (totP h0 h1 l) (c 33) then iLe (costO rt l.length) (haveO h0 h1 (c 56)) else false) := by
    rw [hR]
    unfold offBad
    rw [b1, b2, show iLt (c 53) (offN 1 l) = false from b3, show iLt (c 55) (offM 1 l) = false from b4]; rfl
   refine Sx.if_both (fun t => Sx.if_both (fun e => Sx.if_true (by rw [hc, g0]; rfl) ⟨by rw [hR2, t, have0 e]; rfl, (by first | rfl | trivial)⟩) (fun e => ?_)) (fun t => ⟨by rw [hR2, t]; rfl, (by first | rfl | trivial)⟩)
   have e1 : iEq (c 56) (iOf (nAdd 0 1)) = true := by
    rcases fit_op hc a1 with h | h
    ·have : ¬ c 56 = 0 := of_decide_eq_false e
     exact absurd h this
    ·rw [h]; rfl
   exact Sx.if_true e1 (Sx.if_true (by rw [hc, g0]; rfl) ⟨by rw [hR2, t, have1 e1]; rfl, (by first | rfl | trivial)⟩)
theorem wpc_zright (O : OO) (Y : OY) (c : Nat → Int) (no h0 h1 rt : Int) (l : List (List Int)) (F : FO O) (hy : Y = yO O) (hc : chB (chA c) = true) (g0 : Nat.ble l.length 1000 = true) (g1 : cnd l = true) (ec : cz (chA c) = c) : wpcI Tryz.prog (spJ3 O Y) Tryz.f20.ntmps [⟨Nat, [2, 3], [], fun B j => [(5, .v (.int .i64 (j : Int)))], fun B j => [], fun j => j ≤ l.length ∧ allB O c l j = true, fun j => l.length - j, 0⟩, Ann.walk 3] (bodyOf Tryz.f20) 0 64 (envP (mks [.v, .agg [.v, .v, .v, .roS [.i64, .i64, .i64, .u64, .i64], .v]] [.v (.agg (chA c)), .node [.v (.int .i64 no), .v (.int .i64 h0), .v (.int .i64 h1), .structs l, .v (.int .i64 rt)]] 0).1 0) (mks [.v, .agg [.v, .v, .v, .roS [.i64, .i64, .i64, .u64, .i64], .v]] [.v (.agg (chA c)), .node [.v (.int .i64 no), .v (.int .i64 h0), .v (.int .i64 h1), .structs l, .v (.int .i64 rt)]] 0).2 (retP Tryz.prog Tryz.f20.results.toList 1 (⟨[.v (.bool (rightO O c no h0 h1 rt l))], []⟩ : Post)) :=
 Eq.mpr (by kernel_rfl) (vc_zright O Y c no h0 h1 rt l F hy hc g0 g1 ec)
theorem ok_zright (I : Sx.Interp) (O : OO) (hO : O = oo) (Y : OY) (hY : Y = yO O) : Sx.SpecOK I Tryz.prog 20 (pspec [.v, .agg [.v, .v, .v, .roS [.i64, .i64, .i64, .u64, .i64], .v]] false (g_zright O Y)) := by
 refine spec_patI (spJ3_ok I O hO Y hY) (by kernel_rfl) (fun ds => match ds with | [.v (.agg ch), .node [.v (.int .i64 no), .v (.int .i64 h0), .v (.int .i64 h1), .structs l, .v (.int .i64 rt)]] => [⟨Nat, [2, 3], [], fun B j => [(5, .v (.int .i64 (j : Int)))], fun B j => [], fun j => j ≤ l.length ∧ allB O (cz ch) l j = true, fun j => l.length - j, 0⟩, Ann.walk 3] | _ => []) Tryz.func20 (by kernel_rfl) (by kernel_rfl) rfl Tryz.ntmps20 (by decide) ?_ ?_
 ·intro ds p bs F h
  unfold g_zright at h
  split at h
  ·simp only [Option.some.injEq, Prod.mk.injEq] at h
   obtain ⟨_, _, rfl⟩ := h
   kernel_rfl
  ·cases h
 ·intro ds bs F hl h
  unfold g_zright at h
  split at h
  ·rename_i ch no h0 h1 l rt
   simp only [Option.some.injEq, Prod.mk.injEq, Bool.and_eq_true] at h
   obtain ⟨⟨⟨hc, g0⟩, g1⟩, _, rfl⟩ := h
   obtain ⟨c, ec, rfl⟩ : ∃ c, cz ch = c ∧ ch = chA c := ⟨_, rfl, chB_eq hc⟩
   simp only [ec]
   exact wpc_zright O Y c no h0 h1 rt l (fo_oo O hO) hY hc g0 g1 (ec)
  ·cases h
def g_zplace (O : OO) (Y : OY) (ds : List Dt) : Option (Bool × List Bool × (List Bool → Post)) := match ds with
 | [.node [.v (.int .i64 no), .v (.int .i64 h0), .v (.int .i64 h1), .structs l, .v (.int .i64 rt)], .v (.int .i64 fr), .v (.int .i64 id)] => some ((Nat.ble l.length 1000), [], fun _ => ⟨[.v (.int .i64 (idxS (matchF fr id) l))], []⟩)
 | _ => none
def spJ4 (O : OO) (Y : OY) (f : FuncId) : Option Sx.Spec := match f with
 | 20 => some (pspec [.v, .agg [.v, .v, .v, .roS [.i64, .i64, .i64, .u64, .i64], .v]] false (g_zright O Y))
 | f => spJ3 O Y f
theorem spJ4_ok (I : Sx.Interp) (O : OO) (hO : O = oo) (Y : OY) (hY : Y = yO O) : ∀ f s, spJ4 O Y f = some s → Sx.SpecOK I Tryz.prog f s := by
 intro f s h
 unfold spJ4 at h
 split at h
 · cases h; exact ok_zright I O hO Y hY
 ·exact spJ3_ok I O hO Y hY _ s h
def g_zfind (O : OO) (Y : OY) (ds : List Dt) : Option (Bool × List Bool × (List Bool → Post)) := match ds with
 | [.node [.v (.int .i64 no), .v (.int .i64 h0), .v (.int .i64 h1), .structs l, .v (.int .i64 rt)], .v (.int .i64 fr), .v (.int .i64 id)] => some ((Nat.ble l.length 1000), [], fun _ => ⟨[.v (.agg ⟨[.int .i64 (findC fr id l 0), .int .i64 (findC fr id l 1), .int .i64 (findC fr id l 2), .int .u64 (findC fr id l 3), .int .i64 (findC fr id l 4)]⟩), .v (.bool (!(iLt (idxS (matchF fr id) l) 0)))], []⟩)
 | _ => none
def g_zworth (O : OO) (Y : OY) (ds : List Dt) : Option (Bool × List Bool × (List Bool → Post)) := match ds with
 | [.node [.v (.int .i64 no), .v (.int .i64 h0), .v (.int .i64 h1), .structs l, .v (.int .i64 rt)], .v (.int .i64 side)] => some ((Nat.ble l.length 1000), [], fun _ => ⟨[.v (.int .i64 (bif !(allW 0 1 [side]) then 0 else IntKind.i64.wrap (haveO h0 h1 side + offM (IntKind.i64.wrap (1 - side)) l)))], []⟩)
 | _ => none
def spJ5 (O : OO) (Y : OY) (f : FuncId) : Option Sx.Spec := match f with
 | f => spJ4 O Y f
theorem spJ5_ok (I : Sx.Interp) (O : OO) (hO : O = oo) (Y : OY) (hY : Y = yO O) : ∀ f s, spJ5 O Y f = some s → Sx.SpecOK I Tryz.prog f s := by
 intro f s h
 unfold spJ5 at h
 exact spJ4_ok I O hO Y hY _ s h
end Go.Proofs.YtcdmmfelagbpdaaGreat
