/- Hop, by the symbolic machine: policies, fees, what may be passed on, small (printed by genHm.py; VCs by VcTool). -/
import Derived.Test.YtcdmmfelagbpdaaGreatSt1
import Derived.Test.YtcdmmfelagbpdaaGreatHn
namespace Go.Proofs.YtcdmmfelagbpdaaGreat
open Go.RowKit Go.Lib Ckp Cfd Cpd Sx
set_option linter.unusedVariables false
set_option linter.unusedSimpArgs false
set_option maxRecDepth 1000000
def hpV (a n : Int) : Int := (hpart a n).1
def hpB (a n : Int) : Bool := (hpart a n).2
def hrB (b p d l m : Int) : Bool := bif (bif (bif (bif inB b 0 1125899906842624 then inB l 0 m else false) then inB m 0 1125899906842624 else false) then inB p 0 1000000 else false) then inB d 0 1048576 else false
def hfB (b p d l m a : Int) : Bool := bif (bif !(hpB a p) then true else !(hrB b p d l m)) then false else naddB b (hpV a p)
def hfV (b p d l m a : Int) : Int := bif (bif !(hpB a p) then true else !(hrB b p d l m)) then 0 else naddV b (hpV a p)
def hpsO (O : OO) (a q e : Int) : Bool := bif (bif (bif inB a 1 1125899906842624 then inB e 1 1048576 else false) then iBne q 1 else false) then O.pright q else false
def hwB (h j r nap : Int) : Bool := bif (bif (bif inB h 0 1048576 then inB j 0 1000 else false) then inB r 0 1000 else false) then inB nap 0 1000 else false
def mayO (O : OO) (xa xq xe ya yq ye b p d l m h j r nap : Int) : Int :=
 bif (bif (bif (bif !(hrB b p d l m) then true else !(hpsO O xa xq xe)) then true else !(hpsO O ya yq ye)) then true else !(hwB h j r nap)) then 1 else
 bif !(inB ya l m) then 6 else
 bif (bif !(hfB b p d l m ya) then true else iLt (IntKind.i64.wrap (xa - ya)) (hfV b p d l m ya)) then 13 else
 bif iLt (IntKind.i64.wrap (xe - ye)) d then 16 else bif iLe (IntKind.i64.wrap (ye - h)) nap then 16 else 0
def lastO (O : OO) (n a e q bl xa xq xe h j r nap : Int) : Int :=
 bif (bif (bif (bif iBne n (-1) then true else !(hpsO O a q e)) then true else !(hpsO O xa xq xe)) then true else !(hwB h j r nap)) then 1 else
 bif iBne xq (O.padd q (O.pbase bl)) then 23 else
 bif iLt xa a then 13 else bif (bif iLt xe e then true else iLe (IntKind.i64.wrap (xe - h)) nap) then 16 else 0
def nextE (O : OO) (n c q bl xq M : Int) : Int :=
 bif (bif (bif !(inB n 0 11) then true else !(inB c 0 39)) then true else iBeq M 1) then 1 else
 bif iBne xq (O.padd q (O.pbase bl)) then 23 else M
def g_nPart (O : OO) (Y : OY) (l : List Value) : Option (Bool × Value) := match l with
 | [.int .i64 a, .int .i64 n, .int .i64 1000000] => some (iLe n 9223372036854775807, .tuple #[.int .i64 (hpV a n), .bool (hpB a n)])
 | _ => none
theorem ok_nPart (I : Sx.Interp) (O : OO) (hO : O = oo) (Y : OY) (hY : Y = yO O) : Sx.SpecOK I Tryz.prog 24 (Sx.vspec (g_nPart O Y)) := by
 refine Sx.spec_of_calls Tryz.func24 (by kernel_rfl) (by kernel_rfl) ?_
 intro l v hg w
 unfold g_nPart at hg
 split at hg
 ·rename_i a n
  simp only [Option.some.injEq, Prod.mk.injEq] at hg
  obtain ⟨hc, rfl⟩ := hg
  exact Sx.fr_dn (nPart_any a n (by simpa only [Sx.Bz, Sx.Cont.n] using hc) w)
 ·cases hg
theorem hps_pr {O : OO} {a q e : Int} (h : (!hpsO O a q e) = false) : O.pright q = true := by
 have h : hpsO O a q e = true := by simpa using h
 unfold hpsO at h
 revert h
 generalize inB a 1 1125899906842624 = A
 generalize inB e 1 1048576 = B
 generalize iBne q 1 = C
 cases A <;> cases B <;> cases C <;> intro h <;> first | exact h | cases h
theorem may_pr {O : OO} {xa xq xe a q e b p d l m h j r nap : Int} (k : iBeq (mayO O xa xq xe a q e b p d l m h j r nap) 1 = false) : O.pright q = true := by
 refine hps_pr (a := a) (e := e) ?_
 unfold mayO at k
 revert k
 generalize (!(hpsO O a q e)) = A
 generalize (!(hpsO O xa xq xe)) = B
 generalize (!(hrB b p d l m)) = C
 cases A
 ·intro _; rfl
 ·cases B <;> cases C <;> intro k <;> cases k
theorem nx_no {M a q e : Int} (h : iBne M 0 = true) : Value.tuple #[.agg #[.int .i64 0, .int .i64 0, .int .i64 0, .int .u64 0, .int .i64 0], .int .i64 M] = .tuple #[.agg #[.int .i64 0, .int .i64 0, .int .i64 (bif iBeq M 0 then a else 0), .int .u64 (bif iBeq M 0 then q else 0), .int .i64 (bif iBeq M 0 then e else 0)], .int .i64 M] := by
 have e0 : iBeq M 0 = false := by simp only [Sx.Bz, Sx.Cont.n] at h ⊢; exact h
 rw [e0]; rfl
def spHa0 (O : OO) (Y : OY) (f : FuncId) : Option Sx.Spec := match f with
 | 24 => some (Sx.vspec (g_nPart O Y))
 | f => spJ4 O Y f
theorem spHa0_ok (I : Sx.Interp) (O : OO) (hO : O = oo) (Y : OY) (hY : Y = yO O) : ∀ f s, spHa0 O Y f = some s → Sx.SpecOK I Tryz.prog f s := by
 intro f s h
 unfold spHa0 at h
 split at h
 · cases h; exact ok_nPart I O hO Y hY
 ·exact spJ4_ok I O hO Y hY _ s h
def g_hin (O : OO) (Y : OY) (l : List Value) : Option (Bool × Value) := match l with
 | [.int .i64 n, .int .i64 lo, .int .i64 hi] => some (true, .bool (inB n lo hi))
 | _ => none
set_option maxHeartbeats 4000000 in
theorem vc_hin (O : OO) (Y : OY) (n lo hi : Int) (out : Value) (F : FO O) (hy : Y = yO O)  (ho : .bool (inB n lo hi) = out) :
 If (iLe lo n) (Value.bool (iLe n hi) = out) (Value.bool false = out) := by
 subst ho
 unfold inB
 exact Sx.if_both (fun h => by rw [h]; rfl) (fun h => by rw [h]; rfl)
theorem wpc_hin (O : OO) (Y : OY) (n lo hi : Int) (out : Value) (F : FO O) (hy : Y = yO O)  (ho : .bool (inB n lo hi) = out) : wpcI Tryz.prog (spHa0 O Y) Tryz.f28.ntmps [] (bodyOf Tryz.f28) 0 0 (argEnv [.int .i64 n, .int .i64 lo, .int .i64 hi] 0) [] (retK Tryz.prog Tryz.f28.results.toList out) :=
 Eq.mpr (by kernel_rfl) (vc_hin O Y n lo hi out F hy  ho)
theorem ok_hin (I : Sx.Interp) (O : OO) (hO : O = oo) (Y : OY) (hY : Y = yO O) : Sx.SpecOK I Tryz.prog 28 (Sx.vspec (g_hin O Y)) := by
 refine spec_walk (n := 3) (spHa0_ok I O hO Y hY) (by kernel_rfl) [] Tryz.func28 (by kernel_rfl) (by kernel_rfl) rfl Tryz.ntmps28 (by decide) ?_ ?_
 ·intro l p v hg; unfold g_hin at hg; split at hg <;> first | rfl | cases hg
 ·intro l v hg
  unfold g_hin at hg
  split at hg
  ·rename_i n lo hi
   simp only [Option.some.injEq, Prod.mk.injEq, Bool.and_eq_true] at hg
   obtain ⟨_, rfl⟩ := hg
   exact wpc_hin O Y n lo hi  _ (fo_oo O hO) hY   rfl
  ·cases hg
def g_psum2 (O : OO) (Y : OY) (xs : List Arg) : Option (Bool × List Ret) := match xs with
 | [.ints [a, b]] => some ((inU a 18446744073709551616) && (inU b 18446744073709551616), [.v (.int .u64 (O.fadd (O.fadd 0 a) b))])
 | _ => none
set_option maxHeartbeats 4000000 in
theorem vc_psum2 (O : OO) (Y : OY) (a b : Int) (F : FO O) (hy : Y = yO O) (h0 : inU a 18446744073709551616 = true) (h1 : inU b 18446744073709551616 = true) :
 If (inU 0 18446744073709551616 && inU a 18446744073709551616) (If (inU (O.fadd 0 a) 18446744073709551616 && inU b 18446744073709551616) (Value.int .u64 (O.fadd (O.fadd 0 a) b) =
  Value.int .u64 (O.fadd (O.fadd 0 a) b) ∧ True) False) False := by
 exact Sx.if_true (by rw [h0]; rfl) (Sx.if_true (by rw [F.fadd, h1]; rfl) ⟨rfl, trivial⟩)
theorem wpc_psum2 (O : OO) (Y : OY) (a b : Int) (F : FO O) (hy : Y = yO O) (h0 : inU a 18446744073709551616 = true) (h1 : inU b 18446744073709551616 = true) : wpcI Tryz.prog (spHa0 O Y) Tryz.f38.ntmps [Ann.walk 3] (bodyOf Tryz.f38) 0 64 (envA [.ro .u64] [.ints [a, b]] 0) (memA [.ro .u64] [.ints [a, b]] 0) (retG Tryz.prog Tryz.f38.results.toList [.v (.int .u64 (O.fadd (O.fadd 0 a) b))]) :=
 Eq.mpr (by kernel_rfl) (vc_psum2 O Y a b F hy h0 h1)
theorem ok_psum2 (I : Sx.Interp) (O : OO) (hO : O = oo) (Y : OY) (hY : Y = yO O) : Sx.SpecOK I Tryz.prog 38 (gspec [.ro .u64] (g_psum2 O Y)) := by
 refine spec_gen (spHa0_ok I O hO Y hY) (by kernel_rfl) [Ann.walk 3] Tryz.func38 (by kernel_rfl) (by kernel_rfl) rfl Tryz.ntmps38 (by decide) ?_ ?_
 ·intro xs p rs h; unfold g_psum2 at h; split at h <;> first | (simp only [Option.some.injEq, Prod.mk.injEq] at h; rw [← h.2]; simp) | cases h
 ·intro xs rs hl h
  unfold g_psum2 at h
  split at h
  ·simp only [Option.some.injEq, Prod.mk.injEq, Bool.and_eq_true] at h
   obtain ⟨⟨h0, h1⟩, rfl⟩ := h
   exact wpcI_of (wpc_psum2 O Y _ _ (fo_oo O hO) hY h0 h1)
  ·cases h
def g_pfrom1 (O : OO) (Y : OY) (ds : List Dt) : Option (Bool × List Bool × (List Bool → Post)) := match ds with
 | [.v (.int .u64 q), .ints [b]] => some ((inU q 18446744073709551616) && (inU b 18446744073709551616) && (O.pright q), [], fun _ => ⟨[.row 1], [(1, .own 31 (.ints .u64 [O.padd q (O.pbase b), q]))]⟩)
 | _ => none
set_option maxHeartbeats 4000000 in
theorem vc_pfrom1 (O : OO) (Y : OY) (q b : Int) (F : FO O) (hy : Y = yO O) (h0 : inU q 18446744073709551616 = true) (h1 : inU b 18446744073709551616 = true) (h2 : O.pright q = true) :
 If (inU q 18446744073709551616) (If (!O.pright q) (SV.v (Value.slice none 0 0) = SV.row 1 ∧ True ∧ False) (If (inU b 18446744073709551616) (If (inU q 18446744073709551616 && inU
  (O.pbase b) 18446744073709551616) (True ∧ EqI (((List.replicate (α := Int) (IntKind.i64.wrap (iAdd (iOf 1) 1)).toNat 0).set (iOf 1).toNat q).set (IntKind.i64.wrap (iSub
  (IntKind.i64.wrap (iSub (iOf 1) 1)) 0)).toNat (O.padd q (O.pbase b))) [O.padd q (O.pbase b), q] ∧ True) False) False)) False := by
 exact Sx.if_true h0 (Sx.if_false (by rw [h2]; rfl) (Sx.if_true h1 (Sx.if_true (by rw [h0, F.pbase]; rfl) ⟨trivial, (show _ = _ by kernel_rfl), trivial⟩)))
theorem wpc_pfrom1 (O : OO) (Y : OY) (q b : Int) (F : FO O) (hy : Y = yO O) (h0 : inU q 18446744073709551616 = true) (h1 : inU b 18446744073709551616 = true) (h2 : O.pright q = true) : wpcI Tryz.prog (spHa0 O Y) Tryz.f58.ntmps [Ann.walk 2] (bodyOf Tryz.f58) 0 64 (envP (mks [.v, .ro .u64] [.v (.int .u64 q), .ints [b]] 0).1 0) (mks [.v, .ro .u64] [.v (.int .u64 q), .ints [b]] 0).2 (retP Tryz.prog Tryz.f58.results.toList 1 (⟨[.row 1], [(1, .own 31 (.ints .u64 [O.padd q (O.pbase b), q]))]⟩ : Post)) :=
 Eq.mpr (by kernel_rfl) (vc_pfrom1 O Y q b F hy h0 h1 h2)
theorem ok_pfrom1 (I : Sx.Interp) (O : OO) (hO : O = oo) (Y : OY) (hY : Y = yO O) : Sx.SpecOK I Tryz.prog 58 (pspec [.v, .ro .u64] false (g_pfrom1 O Y)) := by
 refine spec_patI (spHa0_ok I O hO Y hY) (by kernel_rfl) (fun ds => match ds with | [.v (.int .u64 q), .ints [b]] => [Ann.walk 2] | _ => []) Tryz.func58 (by kernel_rfl) (by kernel_rfl) rfl Tryz.ntmps58 (by decide) ?_ ?_
 ·intro ds p bs F h
  unfold g_pfrom1 at h
  split at h
  ·simp only [Option.some.injEq, Prod.mk.injEq] at h
   obtain ⟨_, _, rfl⟩ := h
   kernel_rfl
  ·cases h
 ·intro ds bs F hl h
  unfold g_pfrom1 at h
  split at h
  ·rename_i q b
   simp only [Option.some.injEq, Prod.mk.injEq, Bool.and_eq_true] at h
   obtain ⟨⟨⟨h0, h1⟩, h2⟩, _, rfl⟩ := h
   exact wpc_pfrom1 O Y q b (fo_oo O hO) hY h0 h1 h2
  ·cases h
def spHa1 (O : OO) (Y : OY) (f : FuncId) : Option Sx.Spec := match f with
 | 28 => some (Sx.vspec (g_hin O Y))
 | 38 => some (gspec [.ro .u64] (g_psum2 O Y))
 | 58 => some (pspec [.v, .ro .u64] false (g_pfrom1 O Y))
 | f => spHa0 O Y f
theorem spHa1_ok (I : Sx.Interp) (O : OO) (hO : O = oo) (Y : OY) (hY : Y = yO O) : ∀ f s, spHa1 O Y f = some s → Sx.SpecOK I Tryz.prog f s := by
 intro f s h
 unfold spHa1 at h
 split at h
 · cases h; exact ok_hin I O hO Y hY
 · cases h; exact ok_psum2 I O hO Y hY
 · cases h; exact ok_pfrom1 I O hO Y hY
 ·exact spHa0_ok I O hO Y hY _ s h
def g_hright (O : OO) (Y : OY) (l : List Value) : Option (Bool × Value) := match l with
 | [.agg ⟨[.int .i64 b, .int .i64 p, .int .i64 d, .int .i64 l, .int .i64 m]⟩] => some (true, .bool (hrB b p d l m))
 | _ => none
set_option maxHeartbeats 4000000 in
theorem vc_hright (O : OO) (Y : OY) (b p d l m : Int) (out : Value) (F : FO O) (hy : Y = yO O)  (ho : .bool (hrB b p d l m) = out) :
 If (inB b 0 1125899906842624) (If (inB l 0 m) (If (inB m 0 1125899906842624) (If (inB p 0 1000000) (Value.bool (inB d 0 1048576) = out) (Value.bool false = out)) (Value.bool false =
  out)) (Value.bool false = out)) (Value.bool false = out) := by
 subst ho
 unfold hrB
 generalize inB b 0 1125899906842624 = T0
 generalize inB l 0 m = T1
 generalize inB m 0 1125899906842624 = T2
 generalize inB p 0 1000000 = T3
 cases T0 <;> cases T1 <;> cases T2 <;> cases T3 <;> exact rfl
theorem wpc_hright (O : OO) (Y : OY) (b p d l m : Int) (out : Value) (F : FO O) (hy : Y = yO O)  (ho : .bool (hrB b p d l m) = out) : wpcI Tryz.prog (spHa1 O Y) Tryz.f17.ntmps [] (bodyOf Tryz.f17) 0 0 (argEnv [.agg ⟨[.int .i64 b, .int .i64 p, .int .i64 d, .int .i64 l, .int .i64 m]⟩] 0) [] (retK Tryz.prog Tryz.f17.results.toList out) :=
 Eq.mpr (by kernel_rfl) (vc_hright O Y b p d l m out F hy  ho)
theorem ok_hright (I : Sx.Interp) (O : OO) (hO : O = oo) (Y : OY) (hY : Y = yO O) : Sx.SpecOK I Tryz.prog 17 (Sx.vspec (g_hright O Y)) := by
 refine spec_walk (n := 1) (spHa1_ok I O hO Y hY) (by kernel_rfl) [] Tryz.func17 (by kernel_rfl) (by kernel_rfl) rfl Tryz.ntmps17 (by decide) ?_ ?_
 ·intro l p v hg; unfold g_hright at hg; split at hg <;> first | rfl | cases hg
 ·intro l v hg
  unfold g_hright at hg
  split at hg
  ·rename_i b p d l m
   simp only [Option.some.injEq, Prod.mk.injEq, Bool.and_eq_true] at hg
   obtain ⟨_, rfl⟩ := hg
   exact wpc_hright O Y b p d l m  _ (fo_oo O hO) hY   rfl
  ·cases hg
def g_hpassed (O : OO) (Y : OY) (l : List Value) : Option (Bool × Value) := match l with
 | [.agg ⟨[.int .i64 xf, .int .i64 xi, .int .i64 xa, .int .u64 xq, .int .i64 xe]⟩] => some ((inU xq 18446744073709551616), .bool (hpsO O xa xq xe))
 | _ => none
set_option maxHeartbeats 4000000 in
theorem vc_hpassed (O : OO) (Y : OY) (xf xi xa xq xe : Int) (out : Value) (F : FO O) (hy : Y = yO O) (h0 : inU xq 18446744073709551616 = true) (ho : .bool (hpsO O xa xq xe) = out) :
 If (inB xa 1 1125899906842624) (If (inB xe 1 1048576) (If (iBne xq 1) (If (inU xq 18446744073709551616) (Value.bool (O.pright xq) = out) False) (Value.bool false = out)) (Value.bool
  false = out)) (Value.bool false = out) := by
 subst ho
 unfold hpsO
 generalize inB xa 1 1125899906842624 = T0
 generalize inB xe 1 1048576 = T1
 generalize iBne xq 1 = T2
 cases T0 <;> cases T1 <;> cases T2 <;> first | exact rfl | exact Sx.if_true rfl (Sx.if_true rfl (Sx.if_true rfl (Sx.if_true h0 rfl)))
theorem wpc_hpassed (O : OO) (Y : OY) (xf xi xa xq xe : Int) (out : Value) (F : FO O) (hy : Y = yO O) (h0 : inU xq 18446744073709551616 = true) (ho : .bool (hpsO O xa xq xe) = out) : wpcI Tryz.prog (spHa1 O Y) Tryz.f39.ntmps [] (bodyOf Tryz.f39) 0 0 (argEnv [.agg ⟨[.int .i64 xf, .int .i64 xi, .int .i64 xa, .int .u64 xq, .int .i64 xe]⟩] 0) [] (retK Tryz.prog Tryz.f39.results.toList out) :=
 Eq.mpr (by kernel_rfl) (vc_hpassed O Y xf xi xa xq xe out F hy h0 ho)
theorem ok_hpassed (I : Sx.Interp) (O : OO) (hO : O = oo) (Y : OY) (hY : Y = yO O) : Sx.SpecOK I Tryz.prog 39 (Sx.vspec (g_hpassed O Y)) := by
 refine spec_walk (n := 1) (spHa1_ok I O hO Y hY) (by kernel_rfl) [] Tryz.func39 (by kernel_rfl) (by kernel_rfl) rfl Tryz.ntmps39 (by decide) ?_ ?_
 ·intro l p v hg; unfold g_hpassed at hg; split at hg <;> first | rfl | cases hg
 ·intro l v hg
  unfold g_hpassed at hg
  split at hg
  ·rename_i xf xi xa xq xe
   simp only [Option.some.injEq, Prod.mk.injEq, Bool.and_eq_true] at hg
   obtain ⟨q0, rfl⟩ := hg
   exact wpc_hpassed O Y xf xi xa xq xe  _ (fo_oo O hO) hY q0  rfl
  ·cases hg
def g_hworld (O : OO) (Y : OY) (l : List Value) : Option (Bool × Value) := match l with
 | [.int .i64 h, .agg ⟨[.int .i64 j, .int .i64 r, .int .i64 nap]⟩] => some (true, .bool (hwB h j r nap))
 | _ => none
set_option maxHeartbeats 4000000 in
theorem vc_hworld (O : OO) (Y : OY) (h j r nap : Int) (out : Value) (F : FO O) (hy : Y = yO O)  (ho : .bool (hwB h j r nap) = out) :
 If (inB h 0 1048576) (If (inB j 0 1000) (If (inB r 0 1000) (Value.bool (inB nap 0 1000) = out) (Value.bool false = out)) (Value.bool false = out)) (Value.bool false = out) := by
 subst ho
 unfold hwB
 generalize inB h 0 1048576 = T0
 generalize inB j 0 1000 = T1
 generalize inB r 0 1000 = T2
 cases T0 <;> cases T1 <;> cases T2 <;> exact rfl
theorem wpc_hworld (O : OO) (Y : OY) (h j r nap : Int) (out : Value) (F : FO O) (hy : Y = yO O)  (ho : .bool (hwB h j r nap) = out) : wpcI Tryz.prog (spHa1 O Y) Tryz.f40.ntmps [] (bodyOf Tryz.f40) 0 0 (argEnv [.int .i64 h, .agg ⟨[.int .i64 j, .int .i64 r, .int .i64 nap]⟩] 0) [] (retK Tryz.prog Tryz.f40.results.toList out) :=
 Eq.mpr (by kernel_rfl) (vc_hworld O Y h j r nap out F hy  ho)
theorem ok_hworld (I : Sx.Interp) (O : OO) (hO : O = oo) (Y : OY) (hY : Y = yO O) : Sx.SpecOK I Tryz.prog 40 (Sx.vspec (g_hworld O Y)) := by
 refine spec_walk (n := 2) (spHa1_ok I O hO Y hY) (by kernel_rfl) [] Tryz.func40 (by kernel_rfl) (by kernel_rfl) rfl Tryz.ntmps40 (by decide) ?_ ?_
 ·intro l p v hg; unfold g_hworld at hg; split at hg <;> first | rfl | cases hg
 ·intro l v hg
  unfold g_hworld at hg
  split at hg
  ·rename_i h j r nap
   simp only [Option.some.injEq, Prod.mk.injEq, Bool.and_eq_true] at hg
   obtain ⟨_, rfl⟩ := hg
   exact wpc_hworld O Y h j r nap  _ (fo_oo O hO) hY   rfl
  ·cases hg
def g_hown (O : OO) (Y : OY) (l : List Value) : Option (Bool × Value) := match l with
 | [.agg ⟨[.int .i64 n, .int .i64 c, .int .i64 a, .int .i64 e, .int .u64 q, .int .u64 bl]⟩] => some ((inU q 18446744073709551616) && (inU bl 18446744073709551616) && (O.pright q), .int .u64 (O.padd q (O.pbase bl)))
 | _ => none
set_option maxHeartbeats 4000000 in
theorem vc_hown (O : OO) (Y : OY) (n c a e q bl : Int) (out : Value) (F : FO O) (hy : Y = yO O) (h0 : inU q 18446744073709551616 = true) (h1 : inU bl 18446744073709551616 = true) (h2 : O.pright q = true) (ho : .int .u64 (O.padd q (O.pbase bl)) = out) :
 If (inU q 18446744073709551616 && inU bl 18446744073709551616 && O.pright q) (Value.int .u64 (O.padd q (O.pbase bl)) = out) False := by
 exact Sx.if_true (by rw [h0, h1, h2]; rfl) ho
theorem wpc_hown (O : OO) (Y : OY) (n c a e q bl : Int) (out : Value) (F : FO O) (hy : Y = yO O) (h0 : inU q 18446744073709551616 = true) (h1 : inU bl 18446744073709551616 = true) (h2 : O.pright q = true) (ho : .int .u64 (O.padd q (O.pbase bl)) = out) : wpcI Tryz.prog (spHa1 O Y) Tryz.f29.ntmps [] (bodyOf Tryz.f29) 0 0 (argEnv [.agg ⟨[.int .i64 n, .int .i64 c, .int .i64 a, .int .i64 e, .int .u64 q, .int .u64 bl]⟩] 0) [] (retK Tryz.prog Tryz.f29.results.toList out) :=
 Eq.mpr (by kernel_rfl) (vc_hown O Y n c a e q bl out F hy h0 h1 h2 ho)
theorem ok_hown (I : Sx.Interp) (O : OO) (hO : O = oo) (Y : OY) (hY : Y = yO O) : Sx.SpecOK I Tryz.prog 29 (Sx.vspec (g_hown O Y)) := by
 refine spec_walk (n := 1) (spHa1_ok I O hO Y hY) (by kernel_rfl) [] Tryz.func29 (by kernel_rfl) (by kernel_rfl) rfl Tryz.ntmps29 (by decide) ?_ ?_
 ·intro l p v hg; unfold g_hown at hg; split at hg <;> first | rfl | cases hg
 ·intro l v hg
  unfold g_hown at hg
  split at hg
  ·rename_i n c a e q bl
   simp only [Option.some.injEq, Prod.mk.injEq, Bool.and_eq_true] at hg
   obtain ⟨⟨⟨q0, q1⟩, q2⟩, rfl⟩ := hg
   exact wpc_hown O Y n c a e q bl  _ (fo_oo O hO) hY q0 q1 q2  rfl
  ·cases hg
def g_htold (O : OO) (Y : OY) (l : List Value) : Option (Bool × Value) := match l with
 | [.agg ⟨[.int .i64 n, .int .i64 c, .int .i64 a, .int .i64 e, .int .u64 q, .int .u64 bl]⟩] => some ((inU q 18446744073709551616) && (inU bl 18446744073709551616), .agg #[.int .i64 0, .int .i64 0, .int .i64 a, .int .u64 q, .int .i64 e])
 | _ => none
set_option maxHeartbeats 4000000 in
theorem vc_htold (O : OO) (Y : OY) (n c a e q bl : Int) (out : Value) (F : FO O) (hy : Y = yO O) (h0 : inU q 18446744073709551616 = true) (h1 : inU bl 18446744073709551616 = true) (ho : .agg #[.int .i64 0, .int .i64 0, .int .i64 a, .int .u64 q, .int .i64 e] = out) :
 Value.agg (Array.mk ([Value.int .i64 0, Value.int .i64 0, Value.int .i64 a, Value.int .u64 q, Value.int .i64 0].set 4 (Value.int .i64 e))) = out := by
 exact ho
theorem wpc_htold (O : OO) (Y : OY) (n c a e q bl : Int) (out : Value) (F : FO O) (hy : Y = yO O) (h0 : inU q 18446744073709551616 = true) (h1 : inU bl 18446744073709551616 = true) (ho : .agg #[.int .i64 0, .int .i64 0, .int .i64 a, .int .u64 q, .int .i64 e] = out) : wpcI Tryz.prog (spHa1 O Y) Tryz.f27.ntmps [] (bodyOf Tryz.f27) 0 0 (argEnv [.agg ⟨[.int .i64 n, .int .i64 c, .int .i64 a, .int .i64 e, .int .u64 q, .int .u64 bl]⟩] 0) [] (retK Tryz.prog Tryz.f27.results.toList out) :=
 Eq.mpr (by kernel_rfl) (vc_htold O Y n c a e q bl out F hy h0 h1 ho)
theorem ok_htold (I : Sx.Interp) (O : OO) (hO : O = oo) (Y : OY) (hY : Y = yO O) : Sx.SpecOK I Tryz.prog 27 (Sx.vspec (g_htold O Y)) := by
 refine spec_walk (n := 1) (spHa1_ok I O hO Y hY) (by kernel_rfl) [] Tryz.func27 (by kernel_rfl) (by kernel_rfl) rfl Tryz.ntmps27 (by decide) ?_ ?_
 ·intro l p v hg; unfold g_htold at hg; split at hg <;> first | rfl | cases hg
 ·intro l v hg
  unfold g_htold at hg
  split at hg
  ·rename_i n c a e q bl
   simp only [Option.some.injEq, Prod.mk.injEq, Bool.and_eq_true] at hg
   obtain ⟨⟨q0, q1⟩, rfl⟩ := hg
   exact wpc_htold O Y n c a e q bl  _ (fo_oo O hO) hY q0 q1  rfl
  ·cases hg
def g_pback2 (O : OO) (Y : OY) (l : List Value) : Option (Bool × Value) := match l with
 | [.int .u64 a, .int .u64 b] => some ((inU a 18446744073709551616) && (inU b 18446744073709551616), .int .u64 (O.fadd (O.fadd 0 a) b))
 | _ => none
set_option maxHeartbeats 4000000 in
theorem vc_pback2 (O : OO) (Y : OY) (a b : Int) (out : Value) (F : FO O) (hy : Y = yO O) (h0 : inU a 18446744073709551616 = true) (h1 : inU b 18446744073709551616 = true) (ho : .int .u64 (O.fadd (O.fadd 0 a) b) = out) :
 If (inU a 18446744073709551616 && inU b 18446744073709551616) (Value.int .u64 (O.fadd (O.fadd 0 a) b) = out) False := by
 exact Sx.if_true (by rw [h0, h1]; rfl) ho
theorem wpc_pback2 (O : OO) (Y : OY) (a b : Int) (out : Value) (F : FO O) (hy : Y = yO O) (h0 : inU a 18446744073709551616 = true) (h1 : inU b 18446744073709551616 = true) (ho : .int .u64 (O.fadd (O.fadd 0 a) b) = out) : wpcI Tryz.prog (spHa1 O Y) Tryz.f13.ntmps [] (bodyOf Tryz.f13) 0 0 (argEnv [.int .u64 a, .int .u64 b] 0) [] (retK Tryz.prog Tryz.f13.results.toList out) :=
 Eq.mpr (by kernel_rfl) (vc_pback2 O Y a b out F hy h0 h1 ho)
theorem ok_pback2 (I : Sx.Interp) (O : OO) (hO : O = oo) (Y : OY) (hY : Y = yO O) : Sx.SpecOK I Tryz.prog 13 (Sx.vspec (g_pback2 O Y)) := by
 refine spec_walk (n := 2) (spHa1_ok I O hO Y hY) (by kernel_rfl) [] Tryz.func13 (by kernel_rfl) (by kernel_rfl) rfl Tryz.ntmps13 (by decide) ?_ ?_
 ·intro l p v hg; unfold g_pback2 at hg; split at hg <;> first | rfl | cases hg
 ·intro l v hg
  unfold g_pback2 at hg
  split at hg
  ·rename_i a b
   simp only [Option.some.injEq, Prod.mk.injEq, Bool.and_eq_true] at hg
   obtain ⟨⟨q0, q1⟩, rfl⟩ := hg
   exact wpc_pback2 O Y a b  _ (fo_oo O hO) hY q0 q1  rfl
  ·cases hg
def spHa2 (O : OO) (Y : OY) (f : FuncId) : Option Sx.Spec := match f with
 | 17 => some (Sx.vspec (g_hright O Y))
 | 39 => some (Sx.vspec (g_hpassed O Y))
 | 40 => some (Sx.vspec (g_hworld O Y))
 | 29 => some (Sx.vspec (g_hown O Y))
 | 27 => some (Sx.vspec (g_htold O Y))
 | 13 => some (Sx.vspec (g_pback2 O Y))
 | f => spHa1 O Y f
theorem spHa2_ok (I : Sx.Interp) (O : OO) (hO : O = oo) (Y : OY) (hY : Y = yO O) : ∀ f s, spHa2 O Y f = some s → Sx.SpecOK I Tryz.prog f s := by
 intro f s h
 unfold spHa2 at h
 split at h
 · cases h; exact ok_hright I O hO Y hY
 · cases h; exact ok_hpassed I O hO Y hY
 · cases h; exact ok_hworld I O hO Y hY
 · cases h; exact ok_hown I O hO Y hY
 · cases h; exact ok_htold I O hO Y hY
 · cases h; exact ok_pback2 I O hO Y hY
 ·exact spHa1_ok I O hO Y hY _ s h
def g_hfee (O : OO) (Y : OY) (l : List Value) : Option (Bool × Value) := match l with
 | [.agg ⟨[.int .i64 b, .int .i64 p, .int .i64 d, .int .i64 l, .int .i64 m]⟩, .int .i64 a] => some ((iLe p 9223372036854775807), .tuple #[.int .i64 (hfV b p d l m a), .bool (hfB b p d l m a)])
 | _ => none
set_option maxHeartbeats 4000000 in
theorem vc_hfee (O : OO) (Y : OY) (b p d l m a : Int) (out : Value) (F : FO O) (hy : Y = yO O) (h0 : iLe p 9223372036854775807 = true) (ho : .tuple #[.int .i64 (hfV b p d l m a), .bool (hfB b p d l m a)] = out) :
 If (iLe p 9223372036854775807) (If (!hpB a p) (Value.tuple (Array.mk [Value.int .i64 0, Value.bool false]) = out) (If (!hrB b p d l m) (Value.tuple (Array.mk [Value.int .i64 0,
  Value.bool false]) = out) (Value.tuple (Array.mk [Value.int .i64 (naddV b (hpV a p)), Value.bool (naddB b (hpV a p))]) = out))) False := by
 subst ho
 unfold hfV hfB
 exact Sx.if_true h0 (Sx.if_both (fun h => by rw [h]; rfl) (fun h => Sx.if_both (fun h' => by rw [h, h']; rfl) (fun h' => by rw [h, h']; rfl)))
theorem wpc_hfee (O : OO) (Y : OY) (b p d l m a : Int) (out : Value) (F : FO O) (hy : Y = yO O) (h0 : iLe p 9223372036854775807 = true) (ho : .tuple #[.int .i64 (hfV b p d l m a), .bool (hfB b p d l m a)] = out) : wpcI Tryz.prog (spHa2 O Y) Tryz.f7.ntmps [] (bodyOf Tryz.f7) 0 0 (argEnv [.agg ⟨[.int .i64 b, .int .i64 p, .int .i64 d, .int .i64 l, .int .i64 m]⟩, .int .i64 a] 0) [] (retK Tryz.prog Tryz.f7.results.toList out) :=
 Eq.mpr (by kernel_rfl) (vc_hfee O Y b p d l m a out F hy h0 ho)
theorem ok_hfee (I : Sx.Interp) (O : OO) (hO : O = oo) (Y : OY) (hY : Y = yO O) : Sx.SpecOK I Tryz.prog 7 (Sx.vspec (g_hfee O Y)) := by
 refine spec_walk (n := 2) (spHa2_ok I O hO Y hY) (by kernel_rfl) [] Tryz.func7 (by kernel_rfl) (by kernel_rfl) rfl Tryz.ntmps7 (by decide) ?_ ?_
 ·intro l p v hg; unfold g_hfee at hg; split at hg <;> first | rfl | cases hg
 ·intro l v hg
  unfold g_hfee at hg
  split at hg
  ·rename_i b p d l m a
   simp only [Option.some.injEq, Prod.mk.injEq, Bool.and_eq_true] at hg
   obtain ⟨q0, rfl⟩ := hg
   exact wpc_hfee O Y b p d l m a  _ (fo_oo O hO) hY q0  rfl
  ·cases hg
def spHa3 (O : OO) (Y : OY) (f : FuncId) : Option Sx.Spec := match f with
 | 7 => some (Sx.vspec (g_hfee O Y))
 | f => spHa2 O Y f
theorem spHa3_ok (I : Sx.Interp) (O : OO) (hO : O = oo) (Y : OY) (hY : Y = yO O) : ∀ f s, spHa3 O Y f = some s → Sx.SpecOK I Tryz.prog f s := by
 intro f s h
 unfold spHa3 at h
 split at h
 · cases h; exact ok_hfee I O hO Y hY
 ·exact spHa2_ok I O hO Y hY _ s h
def g_hmay (O : OO) (Y : OY) (l : List Value) : Option (Bool × Value) := match l with
 | [.agg ⟨[.int .i64 xf, .int .i64 xi, .int .i64 xa, .int .u64 xq, .int .i64 xe]⟩, .agg ⟨[.int .i64 yf, .int .i64 yi, .int .i64 ya, .int .u64 yq, .int .i64 ye]⟩, .agg ⟨[.int .i64 b, .int .i64 p, .int .i64 d, .int .i64 l, .int .i64 m]⟩, .int .i64 h, .agg ⟨[.int .i64 j, .int .i64 r, .int .i64 nap]⟩] => some ((inU xq 18446744073709551616) && (inU yq 18446744073709551616) && (iLe p 9223372036854775807), .int .i64 (mayO O xa xq xe ya yq ye b p d l m h j r nap))
 | _ => none
set_option maxHeartbeats 4000000 in
theorem vc_hmay (O : OO) (Y : OY) (xf xi xa xq xe yf yi ya yq ye b p d l m h j r nap : Int) (out : Value) (F : FO O) (hy : Y = yO O) (h0 : inU xq 18446744073709551616 = true) (h1 : inU yq 18446744073709551616 = true) (h2 : iLe p 9223372036854775807 = true) (ho : .int .i64 (mayO O xa xq xe ya yq ye b p d l m h j r nap) = out) :
 If (!hrB b p d l m) (Value.int .i64 1 = out) (If (inU xq 18446744073709551616) (If (!hpsO O xa xq xe) (Value.int .i64 1 = out) (If (inU yq 18446744073709551616) (If (!hpsO O ya yq
  ye) (Value.int .i64 1 = out) (If (!hwB h j r nap) (Value.int .i64 1 = out) (If (iLe p 9223372036854775807) (If (!inB ya l m) (Value.int .i64 6 = out) (If (!hfB b p d l m ya)
  (Value.int .i64 13 = out) (If (iLt (IntKind.i64.wrap (iSub xa ya)) (hfV b p d l m ya)) (Value.int .i64 13 = out) (If (iLt (IntKind.i64.wrap (iSub xe ye)) d) (Value.int .i64 16 =
  out) (If (iLe (IntKind.i64.wrap (iSub ye h)) nap) (Value.int .i64 16 = out) (Value.int .i64 0 = out)))))) False))) False)) False) := by
 subst ho
 unfold mayO
 simp only [Sx.app, Sx.nAdd, Sx.nSub, Sx.nMul, Sx.nPow, Sx.nDiv, Sx.nMod, Sx.iAdd, Sx.iSub, Sx.iMul, Sx.iNeg, Sx.iPow, Sx.iOf]
 exact Sx.if_both (fun a => by rw [a]; rfl) (fun a1 => Sx.if_true h0 (Sx.if_both (fun a => by rw [a1, a]; rfl) (fun a2 => Sx.if_true h1 (Sx.if_both (fun a => by rw [a1, a2, a]; rfl) (fun a3 => Sx.if_both (fun a => by rw [a1, a2, a3, a]; rfl) (fun a4 => Sx.if_true h2 (Sx.if_both (fun a => by rw [a1, a2, a3, a4, a]; rfl) (fun a5 => Sx.if_both (fun a => by rw [a1, a2, a3, a4, a5, a]; rfl) (fun a6 => Sx.if_both (fun a => by rw [a1, a2, a3, a4, a5, a6, a]; rfl) (fun a7 => Sx.if_both (fun a => by rw [a1, a2, a3, a4, a5, a6, a7, a]; rfl) (fun a8 => Sx.if_both (fun a => by rw [a1, a2, a3, a4, a5, a6, a7, a8, a]; rfl) (fun a9 => by rw [a1, a2, a3, a4, a5, a6, a7, a8, a9]; rfl))))))))))))
theorem wpc_hmay (O : OO) (Y : OY) (xf xi xa xq xe yf yi ya yq ye b p d l m h j r nap : Int) (out : Value) (F : FO O) (hy : Y = yO O) (h0 : inU xq 18446744073709551616 = true) (h1 : inU yq 18446744073709551616 = true) (h2 : iLe p 9223372036854775807 = true) (ho : .int .i64 (mayO O xa xq xe ya yq ye b p d l m h j r nap) = out) : wpcI Tryz.prog (spHa3 O Y) Tryz.f15.ntmps [] (bodyOf Tryz.f15) 0 0 (argEnv [.agg ⟨[.int .i64 xf, .int .i64 xi, .int .i64 xa, .int .u64 xq, .int .i64 xe]⟩, .agg ⟨[.int .i64 yf, .int .i64 yi, .int .i64 ya, .int .u64 yq, .int .i64 ye]⟩, .agg ⟨[.int .i64 b, .int .i64 p, .int .i64 d, .int .i64 l, .int .i64 m]⟩, .int .i64 h, .agg ⟨[.int .i64 j, .int .i64 r, .int .i64 nap]⟩] 0) [] (retK Tryz.prog Tryz.f15.results.toList out) :=
 Eq.mpr (by kernel_rfl) (vc_hmay O Y xf xi xa xq xe yf yi ya yq ye b p d l m h j r nap out F hy h0 h1 h2 ho)
theorem ok_hmay (I : Sx.Interp) (O : OO) (hO : O = oo) (Y : OY) (hY : Y = yO O) : Sx.SpecOK I Tryz.prog 15 (Sx.vspec (g_hmay O Y)) := by
 refine spec_walk (n := 5) (spHa3_ok I O hO Y hY) (by kernel_rfl) [] Tryz.func15 (by kernel_rfl) (by kernel_rfl) rfl Tryz.ntmps15 (by decide) ?_ ?_
 ·intro l p v hg; unfold g_hmay at hg; split at hg <;> first | rfl | cases hg
 ·intro l v hg
  unfold g_hmay at hg
  split at hg
  ·rename_i xf xi xa xq xe yf yi ya yq ye b p d l m h j r nap
   simp only [Option.some.injEq, Prod.mk.injEq, Bool.and_eq_true] at hg
   obtain ⟨⟨⟨q0, q1⟩, q2⟩, rfl⟩ := hg
   exact wpc_hmay O Y xf xi xa xq xe yf yi ya yq ye b p d l m h j r nap  _ (fo_oo O hO) hY q0 q1 q2  rfl
  ·cases hg
def spHa4 (O : OO) (Y : OY) (f : FuncId) : Option Sx.Spec := match f with
 | 15 => some (Sx.vspec (g_hmay O Y))
 | f => spHa3 O Y f
theorem spHa4_ok (I : Sx.Interp) (O : OO) (hO : O = oo) (Y : OY) (hY : Y = yO O) : ∀ f s, spHa4 O Y f = some s → Sx.SpecOK I Tryz.prog f s := by
 intro f s h
 unfold spHa4 at h
 split at h
 · cases h; exact ok_hmay I O hO Y hY
 ·exact spHa3_ok I O hO Y hY _ s h
def g_hlast (O : OO) (Y : OY) (l : List Value) : Option (Bool × Value) := match l with
 | [.agg ⟨[.int .i64 n, .int .i64 c, .int .i64 a, .int .i64 e, .int .u64 q, .int .u64 bl]⟩, .agg ⟨[.int .i64 xf, .int .i64 xi, .int .i64 xa, .int .u64 xq, .int .i64 xe]⟩, .int .i64 h, .agg ⟨[.int .i64 j, .int .i64 r, .int .i64 nap]⟩] => some ((inU q 18446744073709551616) && (inU bl 18446744073709551616) && (inU xq 18446744073709551616), .int .i64 (lastO O n a e q bl xa xq xe h j r nap))
 | _ => none
set_option maxHeartbeats 4000000 in
theorem vc_hlast (O : OO) (Y : OY) (n c a e q bl xf xi xa xq xe h j r nap : Int) (out : Value) (F : FO O) (hy : Y = yO O) (h0 : inU q 18446744073709551616 = true) (h1 : inU bl 18446744073709551616 = true) (h2 : inU xq 18446744073709551616 = true) (ho : .int .i64 (lastO O n a e q bl xa xq xe h j r nap) = out) :
 If (iBne n (iNeg 1)) (Value.int .i64 1 = out) (If (inU q 18446744073709551616 && inU bl 18446744073709551616) (If (inU q 18446744073709551616) (If (!hpsO O a q e) (Value.int .i64 1
  = out) (If (inU xq 18446744073709551616) (If (!hpsO O xa xq xe) (Value.int .i64 1 = out) (If (!hwB h j r nap) (Value.int .i64 1 = out) (If (inU q 18446744073709551616 && inU bl
  18446744073709551616 && O.pright q) (If (iBne xq (O.padd q (O.pbase bl))) (Value.int .i64 23 = out) (If (iLt xa a) (Value.int .i64 13 = out) (If (iLt xe e) (Value.int .i64 16 = out)
  (If (iLe (IntKind.i64.wrap (iSub xe h)) nap) (Value.int .i64 16 = out) (Value.int .i64 0 = out))))) False))) False)) False) False) := by
 subst ho
 unfold lastO
 simp only [Sx.app, Sx.nAdd, Sx.nSub, Sx.nMul, Sx.nPow, Sx.nDiv, Sx.nMod, Sx.iAdd, Sx.iSub, Sx.iMul, Sx.iNeg, Sx.iPow, Sx.iOf]
 have hb : (inU q 18446744073709551616 && inU bl 18446744073709551616) = true := by rw [h0, h1]; rfl
 exact Sx.if_both (fun a => by rw [a]; rfl) (fun a1 => Sx.if_true hb (Sx.if_true h0 (Sx.if_both (fun a => by rw [a1, a]; rfl) (fun a2 => Sx.if_true h2 (Sx.if_both (fun a => by rw [a1, a2, a]; rfl) (fun a3 => Sx.if_both (fun a => by rw [a1, a2, a3, a]; rfl) (fun a4 => Sx.if_true (by rw [h0, h1, hps_pr a2]; rfl) (Sx.if_both (fun a => by rw [a1, a2, a3, a4, a]; rfl) (fun a5 => Sx.if_both (fun a => by rw [a1, a2, a3, a4, a5, a]; rfl) (fun a6 => Sx.if_both (fun a => by rw [a1, a2, a3, a4, a5, a6, a]; rfl) (fun a7 => Sx.if_both (fun a => by rw [a1, a2, a3, a4, a5, a6, a7, a]; rfl) (fun a8 => by rw [a1, a2, a3, a4, a5, a6, a7, a8]; rfl))))))))))))
theorem wpc_hlast (O : OO) (Y : OY) (n c a e q bl xf xi xa xq xe h j r nap : Int) (out : Value) (F : FO O) (hy : Y = yO O) (h0 : inU q 18446744073709551616 = true) (h1 : inU bl 18446744073709551616 = true) (h2 : inU xq 18446744073709551616 = true) (ho : .int .i64 (lastO O n a e q bl xa xq xe h j r nap) = out) : wpcI Tryz.prog (spHa4 O Y) Tryz.f16.ntmps [] (bodyOf Tryz.f16) 0 0 (argEnv [.agg ⟨[.int .i64 n, .int .i64 c, .int .i64 a, .int .i64 e, .int .u64 q, .int .u64 bl]⟩, .agg ⟨[.int .i64 xf, .int .i64 xi, .int .i64 xa, .int .u64 xq, .int .i64 xe]⟩, .int .i64 h, .agg ⟨[.int .i64 j, .int .i64 r, .int .i64 nap]⟩] 0) [] (retK Tryz.prog Tryz.f16.results.toList out) :=
 Eq.mpr (by kernel_rfl) (vc_hlast O Y n c a e q bl xf xi xa xq xe h j r nap out F hy h0 h1 h2 ho)
theorem ok_hlast (I : Sx.Interp) (O : OO) (hO : O = oo) (Y : OY) (hY : Y = yO O) : Sx.SpecOK I Tryz.prog 16 (Sx.vspec (g_hlast O Y)) := by
 refine spec_walk (n := 4) (spHa4_ok I O hO Y hY) (by kernel_rfl) [] Tryz.func16 (by kernel_rfl) (by kernel_rfl) rfl Tryz.ntmps16 (by decide) ?_ ?_
 ·intro l p v hg; unfold g_hlast at hg; split at hg <;> first | rfl | cases hg
 ·intro l v hg
  unfold g_hlast at hg
  split at hg
  ·rename_i n c a e q bl xf xi xa xq xe h j r nap
   simp only [Option.some.injEq, Prod.mk.injEq, Bool.and_eq_true] at hg
   obtain ⟨⟨⟨q0, q1⟩, q2⟩, rfl⟩ := hg
   exact wpc_hlast O Y n c a e q bl xf xi xa xq xe h j r nap  _ (fo_oo O hO) hY q0 q1 q2  rfl
  ·cases hg
def g_hnext (O : OO) (Y : OY) (l : List Value) : Option (Bool × Value) := match l with
 | [.agg ⟨[.int .i64 n, .int .i64 c, .int .i64 a, .int .i64 e, .int .u64 q, .int .u64 bl]⟩, .agg ⟨[.int .i64 xf, .int .i64 xi, .int .i64 xa, .int .u64 xq, .int .i64 xe]⟩, .agg ⟨[.int .i64 b, .int .i64 p, .int .i64 d, .int .i64 l, .int .i64 m]⟩, .int .i64 h, .agg ⟨[.int .i64 j, .int .i64 r, .int .i64 nap]⟩] => some ((inU q 18446744073709551616) && (inU bl 18446744073709551616) && (inU xq 18446744073709551616) && (iLe p 9223372036854775807), .tuple #[.agg #[.int .i64 0, .int .i64 0, .int .i64 (bif iBeq (nextE O n c q bl xq (mayO O xa xq xe a q e b p d l m h j r nap)) 0 then a else 0), .int .u64 (bif iBeq (nextE O n c q bl xq (mayO O xa xq xe a q e b p d l m h j r nap)) 0 then q else 0), .int .i64 (bif iBeq (nextE O n c q bl xq (mayO O xa xq xe a q e b p d l m h j r nap)) 0 then e else 0)], .int .i64 (nextE O n c q bl xq (mayO O xa xq xe a q e b p d l m h j r nap))])
 | _ => none
set_option maxHeartbeats 4000000 in
theorem vc_hnext (O : OO) (Y : OY) (n c a e q bl xf xi xa xq xe b p d l m h j r nap : Int) (out : Value) (F : FO O) (hy : Y = yO O) (h0 : inU q 18446744073709551616 = true) (h1 : inU bl 18446744073709551616 = true) (h2 : inU xq 18446744073709551616 = true) (h3 : iLe p 9223372036854775807 = true) (ho : .tuple #[.agg #[.int .i64 0, .int .i64 0, .int .i64 (bif iBeq (nextE O n c q bl xq (mayO O xa xq xe a q e b p d l m h j r nap)) 0 then a else 0), .int .u64 (bif iBeq (nextE O n c q bl xq (mayO O xa xq xe a q e b p d l m h j r nap)) 0 then q else 0), .int .i64 (bif iBeq (nextE O n c q bl xq (mayO O xa xq xe a q e b p d l m h j r nap)) 0 then e else 0)], .int .i64 (nextE O n c q bl xq (mayO O xa xq xe a q e b p d l m h j r nap))] = out) :
 If (inU q 18446744073709551616 && inU bl 18446744073709551616) (If (inU xq 18446744073709551616 && inU q 18446744073709551616 && iLe p 9223372036854775807) (If (!inB n 0 11)
  (Value.tuple (Array.mk [Value.agg (Array.mk [Value.int .i64 0, Value.int .i64 0, Value.int .i64 0, Value.int .u64 0, Value.int .i64 0]), Value.int .i64 1]) = out) (If (!inB c 0 39)
  (Value.tuple (Array.mk [Value.agg (Array.mk [Value.int .i64 0, Value.int .i64 0, Value.int .i64 0, Value.int .u64 0, Value.int .i64 0]), Value.int .i64 1]) = out) (If (iBeq (mayO O
  xa xq xe a q e b p d l m h j r nap) 1) (Value.tuple (Array.mk [Value.agg (Array.mk [Value.int .i64 0, Value.int .i64 0, Value.int .i64 0, Value.int .u64 0, Value.int .i64 0]),
  Value.int .i64 1]) = out) (If (inU q 18446744073709551616 && inU bl 18446744073709551616 && O.pright q) (If (iBne xq (O.padd q (O.pbase bl))) (Value.tuple (Array.mk [Value.agg
  (Array.mk [Value.int .i64 0, Value.int .i64 0, Value.int .i64 0, Value.int .u64 0, Value.int .i64 0]), Value.int .i64 23]) = out) (If (iBne (mayO O xa xq xe a q e b p d l m h j r
  nap) 0) (Value.tuple (Array.mk [Value.agg (Array.mk [Value.int .i64 0, Value.int .i64 0, Value.int .i64 0, Value.int .u64 0, Value.int .i64 0]), Value.int .i64 (mayO O xa xq xe a q
  e b p d l m h j r nap)]) = out) (Value.tuple (Array.mk [Value.agg (Array.mk [Value.int .i64 0, Value.int .i64 0, Value.int .i64 a, Value.int .u64 q, Value.int .i64 e]), Value.int
  .i64 0]) = out))) False)))) False) False := by
 subst ho
 have hb : (inU q 18446744073709551616 && inU bl 18446744073709551616) = true := by rw [h0, h1]; rfl
 have hm : iBeq (mayO O xa xq xe a q e b p d l m h j r nap) 1 = false → O.pright q = true := may_pr
 generalize mayO O xa xq xe a q e b p d l m h j r nap = M at *
 unfold nextE
 exact Sx.if_true hb (Sx.if_true (by rw [h0, h2, h3]; rfl) (Sx.if_both (fun a => by rw [a]; rfl) (fun a1 => Sx.if_both (fun a => by rw [a1, a]; rfl) (fun a2 => Sx.if_both (fun a => by rw [a1, a2, a]; rfl) (fun a3 => Sx.if_true (by rw [hb, hm a3]; rfl) (Sx.if_both (fun a => by rw [a1, a2, a3, a]; rfl) (fun a4 => Sx.if_both (fun a => by rw [a1, a2, a3, a4]; exact nx_no a) (fun a => by have : M = 0 := by { simp only [Sx.Bz, Sx.Cont.n] at a; omega }; subst this; rw [a1, a2, a4]; rfl))))))))
theorem wpc_hnext (O : OO) (Y : OY) (n c a e q bl xf xi xa xq xe b p d l m h j r nap : Int) (out : Value) (F : FO O) (hy : Y = yO O) (h0 : inU q 18446744073709551616 = true) (h1 : inU bl 18446744073709551616 = true) (h2 : inU xq 18446744073709551616 = true) (h3 : iLe p 9223372036854775807 = true) (ho : .tuple #[.agg #[.int .i64 0, .int .i64 0, .int .i64 (bif iBeq (nextE O n c q bl xq (mayO O xa xq xe a q e b p d l m h j r nap)) 0 then a else 0), .int .u64 (bif iBeq (nextE O n c q bl xq (mayO O xa xq xe a q e b p d l m h j r nap)) 0 then q else 0), .int .i64 (bif iBeq (nextE O n c q bl xq (mayO O xa xq xe a q e b p d l m h j r nap)) 0 then e else 0)], .int .i64 (nextE O n c q bl xq (mayO O xa xq xe a q e b p d l m h j r nap))] = out) : wpcI Tryz.prog (spHa4 O Y) Tryz.f9.ntmps [] (bodyOf Tryz.f9) 0 0 (argEnv [.agg ⟨[.int .i64 n, .int .i64 c, .int .i64 a, .int .i64 e, .int .u64 q, .int .u64 bl]⟩, .agg ⟨[.int .i64 xf, .int .i64 xi, .int .i64 xa, .int .u64 xq, .int .i64 xe]⟩, .agg ⟨[.int .i64 b, .int .i64 p, .int .i64 d, .int .i64 l, .int .i64 m]⟩, .int .i64 h, .agg ⟨[.int .i64 j, .int .i64 r, .int .i64 nap]⟩] 0) [] (retK Tryz.prog Tryz.f9.results.toList out) :=
 Eq.mpr (by kernel_rfl) (vc_hnext O Y n c a e q bl xf xi xa xq xe b p d l m h j r nap out F hy h0 h1 h2 h3 ho)
theorem ok_hnext (I : Sx.Interp) (O : OO) (hO : O = oo) (Y : OY) (hY : Y = yO O) : Sx.SpecOK I Tryz.prog 9 (Sx.vspec (g_hnext O Y)) := by
 refine spec_walk (n := 5) (spHa4_ok I O hO Y hY) (by kernel_rfl) [] Tryz.func9 (by kernel_rfl) (by kernel_rfl) rfl Tryz.ntmps9 (by decide) ?_ ?_
 ·intro l p v hg; unfold g_hnext at hg; split at hg <;> first | rfl | cases hg
 ·intro l v hg
  unfold g_hnext at hg
  split at hg
  ·rename_i n c a e q bl xf xi xa xq xe b p d l m h j r nap
   simp only [Option.some.injEq, Prod.mk.injEq, Bool.and_eq_true] at hg
   obtain ⟨⟨⟨⟨q0, q1⟩, q2⟩, q3⟩, rfl⟩ := hg
   exact wpc_hnext O Y n c a e q bl xf xi xa xq xe b p d l m h j r nap  _ (fo_oo O hO) hY q0 q1 q2 q3  rfl
  ·cases hg
def spHa5 (O : OO) (Y : OY) (f : FuncId) : Option Sx.Spec := match f with
 | 16 => some (Sx.vspec (g_hlast O Y))
 | 9 => some (Sx.vspec (g_hnext O Y))
 | f => spHa4 O Y f
theorem spHa5_ok (I : Sx.Interp) (O : OO) (hO : O = oo) (Y : OY) (hY : Y = yO O) : ∀ f s, spHa5 O Y f = some s → Sx.SpecOK I Tryz.prog f s := by
 intro f s h
 unfold spHa5 at h
 split at h
 · cases h; exact ok_hlast I O hO Y hY
 · cases h; exact ok_hnext I O hO Y hY
 ·exact spHa4_ok I O hO Y hY _ s h
def g_small33m (l : List Value) : Option (Bool × Value) := match l with
 | [] => some (true, .bool true)
 | _ => none
theorem small33m_calls (w : World) : Calls Tryz.prog 4 (List.toArray []) w fun e w' => e = .returned (.bool true) ∧ Fr (fun _ => False) w w' :=
 calls_real (I := I0) (spHa5_ok I0 oo rfl (yO oo) rfl) (by kernel_rfl) [] Tryz.func4 (by kernel_rfl) rfl Tryz.ntmps4 (by decide) (Eq.mpr (by kernel_rfl : _ = (Value.bool true = Value.bool true)) rfl) w
theorem ok_small33m (I : Sx.Interp) : Sx.SpecOK I Tryz.prog 4 (Sx.vspec g_small33m) := by
 refine Sx.spec_of_calls Tryz.func4 (by kernel_rfl) (by kernel_rfl) ?_
 intro l v hg w
 unfold g_small33m at hg
 split at hg
 ·simp only [Option.some.injEq, Prod.mk.injEq, true_and] at hg
  subst hg
  exact small33m_calls w
 ·cases hg
def spHa6 (O : OO) (Y : OY) (f : FuncId) : Option Sx.Spec := match f with
 | 4 => some (Sx.vspec g_small33m)
 | 18 => some (Sx.vspec (g_rkit O Y))
 | 19 => some (Sx.vspec (g_rbas O Y))
 | f => spHa5 O Y f
theorem spHa6_ok (I : Sx.Interp) (O : OO) (hO : O = oo) (Y : OY) (hY : Y = yO O) : ∀ f s, spHa6 O Y f = some s → Sx.SpecOK I Tryz.prog f s := by
 intro f s h
 unfold spHa6 at h
 split at h
 · cases h; exact ok_small33m I
 · cases h; exact ok_rkit I O hO Y hY
 · cases h; exact ok_rbas I O hO Y hY
 ·exact spHa5_ok I O hO Y hY _ s h
end Go.Proofs.YtcdmmfelagbpdaaGreat
