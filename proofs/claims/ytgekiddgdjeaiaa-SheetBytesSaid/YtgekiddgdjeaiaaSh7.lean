/- Sheet: the document's Same, and what the laws are made of: few, plain, done (printed by genSh.py; VCs by VcTool). -/
import Derived.Test.YtgekiddgdjeaiaaSh6
namespace Go.Proofs.Ytgekiddgdjeaiaa
open Go.RowKit Go.Lib Ckp Cfd Cpd Sx
set_option linter.unusedVariables false
set_option linter.unusedSimpArgs false
set_option maxRecDepth 1000000
def sameB (no h0 h1 rt : Int) (l : List (List Int)) (no' h0' h1' rt' : Int) (l' : List (List Int)) : Bool :=
 bif (bif (bif (bif iBne no no' then true else !(iBeq h0 h0' && iBeq h1 h1')) then true else iBne rt rt') then true else iBne (l.length : Int) (l'.length : Int)) then false else decide (l = l')
def farI (x : Int) : Bool := bif iLt 36028797018963968 x then true else iLt x (-36028797018963968)
def fewB (h0 h1 rt : Int) (l : List (List Int)) : Bool :=
 bif (bif (bif (bif (bif (bif (bif iLt 20 (l.length : Int) then true else iLt 36028797018963968 h0) then true else iLt 36028797018963968 h1) then true else iLt h0 (-36028797018963968)) then true else iLt h1 (-36028797018963968)) then true else iLt 1048576 rt) then true else iLt rt (-1048576)) then false else l.all fun x => !(farI (x.getD 2 0))
def actK (d : Int) : Int := IntKind.i64.wrap (((BitVec.ofInt 64 d &&& BitVec.ofNat 64 3).toNat : Nat) : Int)
def dE (O : OO) (c : Nat → Int) (no h0 h1 rt : Int) (l : List (List Int)) (d f i a q e k r : Int) : Int := bif iBeq (actK d) 0 then addE O c no h0 h1 rt l f i a q e else bif iBeq (actK d) 1 then setE O c no h0 h1 rt l f i k else bif iBeq (actK d) 2 then failE O c no h0 h1 rt l f i else rateE O c no h0 h1 rt l r
def dH0 (h0 : Int) (l : List (List Int)) (d f i a : Int) : Int := bif iBeq (actK d) 0 then hsub f h0 a 0 else bif iBeq (actK d) 1 then hadd f h0 (findC f i l 2) 1 else bif iBeq (actK d) 2 then hadd f h0 (findC f i l 2) 0 else h0
def dH1 (h1 : Int) (l : List (List Int)) (d f i a : Int) : Int := bif iBeq (actK d) 0 then hsub f h1 a 1 else bif iBeq (actK d) 1 then hadd f h1 (findC f i l 2) 0 else bif iBeq (actK d) 2 then hadd f h1 (findC f i l 2) 1 else h1
def dRt (rt d r : Int) : Int := bif iBeq (actK d) 0 then rt else bif iBeq (actK d) 1 then rt else bif iBeq (actK d) 2 then rt else r
def dL (l : List (List Int)) (d f i a q e : Int) : List (List Int) := bif iBeq (actK d) 0 then insC [f, i, a, q, e] l else bif iBeq (actK d) 1 then remC [findC f i l 0, findC f i l 1, findC f i l 2, findC f i l 3, findC f i l 4] l else bif iBeq (actK d) 2 then remC [findC f i l 0, findC f i l 1, findC f i l 2, findC f i l 3, findC f i l 4] l else l
def zTwo (O : OO) : Bool := O.isH (AV fun _ => 0) && O.isH (AV fun j => (1 :: List.replicate 31 (0 : Int)).getD j 0)
def kb (O : OO) (h n : Int) : Int := O.pbase (O.ffrom (AV (O.tag (ByteArray.mk (Array.mk [107, 105, 116])) [h :: List.replicate 31 0, [n]])))
def plL (O : OO) : List Int := 1 :: List.replicate 31 0 ++ [0, 5000, kb O 0 1, kb O 0 2, kb O 0 3, kb O 0 4, kb O 0 5, kb O 1 1, kb O 1 2, kb O 1 3, kb O 1 4, kb O 1 5, 100, 100, 10, 16, 1, 5000, 100, 100, 10, 16, 1, 5000, 0]
def plA (O : OO) (Y : OY) : Array Value := chA fun j => (plL O).getD j 0
theorem eqv_two (a b c d : Int) : eqv (Array.mk [Value.int .i64 a, Value.int .i64 b]) (Array.mk [Value.int .i64 c, Value.int .i64 d]) = (iBeq a c && iBeq b d) := by
 show ((a == c) && ((b == d) && true)) = _
 rw [Bool.and_true]; rfl
theorem take_step {l l' : List (List Int)} {x : Nat} (h1 : x < l.length) (h2 : x < l'.length) : l.take (x + 1) = l'.take (x + 1) ↔ l.take x = l'.take x ∧ l.getD x [] = l'.getD x [] := by
 rw [List.take_add_one, List.take_add_one, List.getElem?_eq_getElem h1, List.getElem?_eq_getElem h2, getD_at h1, getD_at h2]
 constructor
 ·intro h
  have := List.append_inj' h rfl
  exact ⟨this.1, by simpa using this.2⟩
 ·rintro ⟨a, b⟩
  rw [a, b]
theorem eqv_five {ks : List Int} {l l' : List (List Int)} {x : Nat} (g1 : cnd l = true) (g3 : cnd l' = true) (h1 : x < l.length) (h2 : x < l'.length) : eqv (Array.mk [Value.int .i64 ((l.getD x []).getD 0 0), Value.int .i64 ((l.getD x []).getD 1 0), Value.int .i64 ((l.getD x []).getD 2 0), Value.int .u64 ((l.getD x []).getD 3 0), Value.int .i64 ((l.getD x []).getD 4 0)]) (Array.mk [Value.int .i64 ((l'.getD x []).getD 0 0), Value.int .i64 ((l'.getD x []).getD 1 0), Value.int .i64 ((l'.getD x []).getD 2 0), Value.int .u64 ((l'.getD x []).getD 3 0), Value.int .i64 ((l'.getD x []).getD 4 0)]) = decide (l.getD x [] = l'.getD x []) := by
 have a := cnd_five g1 h1
 have b := cnd_five g3 h2
 revert a b
 generalize l.getD x [] = u
 generalize l'.getD x [] = v
 intro a b
 rw [← a, ← b]
 simp only [List.getD_cons_zero, List.getD_cons_succ]
 generalize u.getD 0 0 = u0
 generalize u.getD 1 0 = u1
 generalize u.getD 2 0 = u2
 generalize u.getD 3 0 = u3
 generalize u.getD 4 0 = u4
 show ((u0 == _) && ((u1 == _) && ((u2 == _) && ((u3 == _) && ((u4 == _) && true))))) = _
 rw [Bool.eq_iff_iff]
 simp only [Bool.and_eq_true, beq_iff_eq, decide_eq_true_eq, List.cons.injEq, and_true]
theorem iBne_ff {a b : Int} (h : iBne a b = false) : a = b := by simpa only [iBne_f] using h
def spS19 (O : OO) (Y : OY) (f : FuncId) : Option Sx.Spec := match f with
 | 12 => some (pspec [.v, .agg [.v, .v, .v, .roS [.i64, .i64, .i64, .u64, .i64], .v], .v] true (g_sadd O Y))
 | 15 => some (pspec [.v, .agg [.v, .v, .v, .roS [.i64, .i64, .i64, .u64, .i64], .v], .v, .v, .v] true (g_sset O Y))
 | 14 => some (pspec [.v, .agg [.v, .v, .v, .roS [.i64, .i64, .i64, .u64, .i64], .v], .v, .v] true (g_sfail O Y))
 | f => spS18 O Y f
theorem spS19_ok (I : Sx.Interp) (O : OO) (hO : O = oo) (Y : OY) (hY : Y = yO O) : ∀ f s, spS19 O Y f = some s → Sx.SpecOK I Try.prog f s := by
 intro f s h
 unfold spS19 at h
 split at h
 · cases h; exact ok_sadd I O hO Y hY
 · cases h; exact ok_sset I O hO Y hY
 · cases h; exact ok_sfail I O hO Y hY
 ·exact spS18_ok I O hO Y hY _ s h
def g_same (O : OO) (Y : OY) (ds : List Dt) : Option (Bool × List Bool × (List Bool → Post)) := match ds with
 | [.node [.v (.int .i64 no), .v (.int .i64 h0), .v (.int .i64 h1), .structs l, .v (.int .i64 rt)], .node [.v (.int .i64 no'), .v (.int .i64 h0'), .v (.int .i64 h1'), .structs l', .v (.int .i64 rt')]] => some ((Nat.ble l.length 1000) && (cnd l) && (Nat.ble l'.length 1000) && (cnd l'), [], fun _ => ⟨[.v (.bool (sameB no h0 h1 rt l no' h0' h1' rt' l'))], []⟩)
 | _ => none
set_option maxHeartbeats 4000000 in
theorem vc_same (O : OO) (Y : OY) (no h0 h1 rt : Int) (l : List (List Int)) (no' h0' h1' rt' : Int) (l' : List (List Int)) (F : FO O) (hy : Y = yO O) (g0 : Nat.ble l.length 1000 = true) (g1 : cnd l = true) (g2 : Nat.ble l'.length 1000 = true) (g3 : cnd l' = true) :
 If (iBne no no') (Value.bool false = Value.bool (sameB no h0 h1 rt l no' h0' h1' rt' l') ∧ True ∧ True) (If (!eqv (Array.mk [Value.int .i64 h0, Value.int .i64 h1]) (Array.mk
  [Value.int .i64 h0', Value.int .i64 h1'])) (Value.bool false = Value.bool (sameB no h0 h1 rt l no' h0' h1' rt' l') ∧ True ∧ True) (If (iBne rt rt') (Value.bool false = Value.bool
  (sameB no h0 h1 rt l no' h0' h1' rt' l') ∧ True ∧ True) (If (iBne (iOf l.length) (iOf l'.length)) (Value.bool false = Value.bool (sameB no h0 h1 rt l no' h0' h1' rt' l') ∧ True ∧
  True) ((∃ (x : Nat), (x ≤ l.length ∧ EqII (List.take x l) (List.take x l')) ∧ (Value.int .i64 0 = Value.int .i64 (iOf x) ∧ Value.bool false = Value.bool false ∧ True) ∧ (Value.int
  .i64 no' = Value.int .i64 no' ∧ Value.int .i64 h0' = Value.int .i64 h0' ∧ Value.int .i64 h1' = Value.int .i64 h1' ∧ Value.int .i64 rt' = Value.int .i64 rt') ∧ (Value.int .i64 no =
  Value.int .i64 no ∧ Value.int .i64 h0 = Value.int .i64 h0 ∧ Value.int .i64 h1 = Value.int .i64 h1 ∧ Value.int .i64 rt = Value.int .i64 rt) ∧ Cont.structs [.i64, .i64, .i64, .u64,
  .i64] l = Cont.structs [.i64, .i64, .i64, .u64, .i64] l ∧ Cont.structs [.i64, .i64, .i64, .u64, .i64] l' = Cont.structs [.i64, .i64, .i64, .u64, .i64] l' ∧ True) ∧ ∀ (x : Nat), x ≤
  l.length ∧ EqII (List.take x l) (List.take x l') → If (iLt (iOf x) (iOf (Cont.structs [.i64, .i64, .i64, .u64, .i64] l).n)) (If (iLe 0 (iOf x) && (iOf x).toNat.blt l.length) (If
  (true && Nat.beq 5 5 && (iOf x).toNat.blt l.length) (If (iLe 0 (iOf x) && (iOf x).toNat.blt l'.length) (If (true && Nat.beq 5 5 && (iOf x).toNat.blt l'.length) (If (!eqv (Array.mk
  [Value.int .i64 ((l.getD (iOf x).toNat []).getD 0 0), Value.int .i64 ((l.getD (iOf x).toNat []).getD 1 0), Value.int .i64 ((l.getD (iOf x).toNat []).getD 2 0), Value.int .u64
  ((l.getD (iOf x).toNat []).getD 3 0), Value.int .i64 ((l.getD (iOf x).toNat []).getD 4 0)]) (Array.mk [Value.int .i64 ((l'.getD (iOf x).toNat []).getD 0 0), Value.int .i64 ((l'.getD
  (iOf x).toNat []).getD 1 0), Value.int .i64 ((l'.getD (iOf x).toNat []).getD 2 0), Value.int .u64 ((l'.getD (iOf x).toNat []).getD 3 0), Value.int .i64 ((l'.getD (iOf x).toNat
  []).getD 4 0)])) (Value.bool false = Value.bool (sameB no h0 h1 rt l no' h0' h1' rt' l') ∧ True ∧ True) (∃ (x' : Nat), (x' ≤ l.length ∧ EqII (List.take x' l) (List.take x' l')) ∧
  (nSub l.length x').succ ≤ nSub l.length x ∧ (Value.int .i64 (IntKind.i64.wrap (iAdd (iOf x) 1)) = Value.int .i64 (iOf x') ∧ Value.bool false = Value.bool false ∧ True) ∧ (Value.int
  .i64 no' = Value.int .i64 no' ∧ Value.int .i64 h0' = Value.int .i64 h0' ∧ Value.int .i64 h1' = Value.int .i64 h1' ∧ Value.int .i64 rt' = Value.int .i64 rt') ∧ (Value.int .i64 no =
  Value.int .i64 no ∧ Value.int .i64 h0 = Value.int .i64 h0 ∧ Value.int .i64 h1 = Value.int .i64 h1 ∧ Value.int .i64 rt = Value.int .i64 rt) ∧ Cont.structs [.i64, .i64, .i64, .u64,
  .i64] l = Cont.structs [.i64, .i64, .i64, .u64, .i64] l ∧ Cont.structs [.i64, .i64, .i64, .u64, .i64] l' = Cont.structs [.i64, .i64, .i64, .u64, .i64] l' ∧ True)) False) False)
  False) False) (Value.bool true = Value.bool (sameB no h0 h1 rt l no' h0' h1' rt' l') ∧ True ∧ True))))) := by
 simp only [Sx.app, Sx.nAdd, Sx.nSub, Sx.nMul, Sx.nPow, Sx.nDiv, Sx.nMod, Sx.iAdd, Sx.iSub, Sx.iMul, Sx.iNeg, Sx.iPow, Sx.iOf]
 have hm := Nat.le_of_ble_eq_true g0
 have hm' := Nat.le_of_ble_eq_true g2
 refine Sx.if_both (fun a => ⟨by unfold sameB; rw [a]; rfl, (by first | rfl | trivial)⟩) (fun a1 => ?_)
 rw [eqv_two]
 refine Sx.if_both (fun a => ⟨by unfold sameB; rw [a1, a]; rfl, (by first | rfl | trivial)⟩) (fun a2 => Sx.if_both (fun a => ⟨by unfold sameB; rw [a1, a2, a]; rfl, (by first | rfl | trivial)⟩) (fun a3 => Sx.if_both (fun a => ⟨by unfold sameB; rw [a1, a2, a3, a]; rfl, (by first | rfl | trivial)⟩) (fun a4 => ?_)))
 have hS : sameB no h0 h1 rt l no' h0' h1' rt' l' = decide (l = l') := by unfold sameB; rw [a1, a2, a3, a4]; rfl
 have hl : l.length = l'.length := by have := iBne_ff a4; omega
 rw [hS]
 refine ⟨⟨0, ⟨Nat.zero_le _, rfl⟩, (by first | rfl | trivial)⟩, fun x hx => Sx.if_both (fun h => ?_) (fun h => ?_)⟩
 ·simp only [Sx.Bz, Sx.Cont.n] at h
  have hlt : x < l.length := by omega
  have hlt' : x < l'.length := by omega
  have hbl : x.blt l.length = true := by rw [Nat.blt_eq]; exact hlt
  have hbl' : x.blt l'.length = true := by rw [Nat.blt_eq]; exact hlt'
  simp only [Int.toNat_natCast]
  rw [eqv_five (ks := []) g1 g3 hlt hlt']
  have hx2 : l.take x = l'.take x := hx.2
  refine Sx.if_true (by simp only [Sx.Bz, Sx.Cont.n, hbl, and_true]; omega) (Sx.if_true (by rw [hbl]; rfl) (Sx.if_true (by simp only [Sx.Bz, Sx.Cont.n, hbl', and_true]; omega) (Sx.if_true (by rw [hbl']; rfl) (Sx.if_both (fun c => ?_) (fun c => ?_)))))
  ·refine ⟨?_, (by first | rfl | trivial)⟩
   have hn : ¬ l = l' := fun e => by rw [e] at c; simp at c
   rw [decide_eq_false hn]
  ·have he : l.getD x [] = l'.getD x [] := by simpa using c
   exact ⟨x + 1, ⟨hlt, (take_step hlt hlt').2 ⟨hx2, he⟩⟩, by omega, ⟨by rw [wrap_succ (by omega)], (by first | rfl | trivial)⟩, (by first | rfl | trivial)⟩
 ·simp only [Sx.Bz, Sx.Cont.n] at h
  have hx1 : x = l.length := by omega
  have hx2 : l.take x = l'.take x := hx.2
  refine ⟨?_, (by first | rfl | trivial)⟩
  rw [hx1, List.take_of_length_le (Nat.le_refl _), hl, List.take_of_length_le (Nat.le_refl _)] at hx2
  rw [hx2, decide_eq_true rfl]
theorem wpc_same (O : OO) (Y : OY) (no h0 h1 rt : Int) (l : List (List Int)) (no' h0' h1' rt' : Int) (l' : List (List Int)) (F : FO O) (hy : Y = yO O) (g0 : Nat.ble l.length 1000 = true) (g1 : cnd l = true) (g2 : Nat.ble l'.length 1000 = true) (g3 : cnd l' = true) : wpcI Try.prog (spS19 O Y) Try.f16.ntmps [⟨Nat, [2, 3, 4], [], fun B j => [(5, .v (.int .i64 (j : Int)))], fun B j => [], fun j => j ≤ l.length ∧ l.take j = l'.take j, fun j => l.length - j, 0⟩] (bodyOf Try.f16) 0 64 (envP (mks [.agg [.v, .v, .v, .roS [.i64, .i64, .i64, .u64, .i64], .v], .agg [.v, .v, .v, .roS [.i64, .i64, .i64, .u64, .i64], .v]] [.node [.v (.int .i64 no), .v (.int .i64 h0), .v (.int .i64 h1), .structs l, .v (.int .i64 rt)], .node [.v (.int .i64 no'), .v (.int .i64 h0'), .v (.int .i64 h1'), .structs l', .v (.int .i64 rt')]] 0).1 0) (mks [.agg [.v, .v, .v, .roS [.i64, .i64, .i64, .u64, .i64], .v], .agg [.v, .v, .v, .roS [.i64, .i64, .i64, .u64, .i64], .v]] [.node [.v (.int .i64 no), .v (.int .i64 h0), .v (.int .i64 h1), .structs l, .v (.int .i64 rt)], .node [.v (.int .i64 no'), .v (.int .i64 h0'), .v (.int .i64 h1'), .structs l', .v (.int .i64 rt')]] 0).2 (retP Try.prog Try.f16.results.toList 2 (⟨[.v (.bool (sameB no h0 h1 rt l no' h0' h1' rt' l'))], []⟩ : Post)) :=
 Eq.mpr (by kernel_rfl) (vc_same O Y no h0 h1 rt l no' h0' h1' rt' l' F hy g0 g1 g2 g3)
theorem ok_same (I : Sx.Interp) (O : OO) (hO : O = oo) (Y : OY) (hY : Y = yO O) : Sx.SpecOK I Try.prog 16 (pspec [.agg [.v, .v, .v, .roS [.i64, .i64, .i64, .u64, .i64], .v], .agg [.v, .v, .v, .roS [.i64, .i64, .i64, .u64, .i64], .v]] false (g_same O Y)) := by
 refine spec_patI (spS19_ok I O hO Y hY) (by kernel_rfl) (fun ds => match ds with | [.node [.v (.int .i64 no), .v (.int .i64 h0), .v (.int .i64 h1), .structs l, .v (.int .i64 rt)], .node [.v (.int .i64 no'), .v (.int .i64 h0'), .v (.int .i64 h1'), .structs l', .v (.int .i64 rt')]] => [⟨Nat, [2, 3, 4], [], fun B j => [(5, .v (.int .i64 (j : Int)))], fun B j => [], fun j => j ≤ l.length ∧ l.take j = l'.take j, fun j => l.length - j, 0⟩] | _ => []) Try.func16 (by kernel_rfl) (by kernel_rfl) rfl Try.ntmps16 (by decide) ?_ ?_
 ·intro ds p bs F h
  unfold g_same at h
  split at h
  ·simp only [Option.some.injEq, Prod.mk.injEq] at h
   obtain ⟨_, _, rfl⟩ := h
   kernel_rfl
  ·cases h
 ·intro ds bs F hl h
  unfold g_same at h
  split at h
  ·rename_i no h0 h1 l rt no' h0' h1' l' rt'
   simp only [Option.some.injEq, Prod.mk.injEq, Bool.and_eq_true] at h
   obtain ⟨⟨⟨⟨g0, g1⟩, g2⟩, g3⟩, _, rfl⟩ := h
   exact wpc_same O Y no h0 h1 rt l no' h0' h1' rt' l' (fo_oo O hO) hY g0 g1 g2 g3
  ·cases h
def g_few (O : OO) (Y : OY) (ds : List Dt) : Option (Bool × List Bool × (List Bool → Post)) := match ds with
 | [.node [.v (.int .i64 no), .v (.int .i64 h0), .v (.int .i64 h1), .structs l, .v (.int .i64 rt)]] => some (true, [], fun _ => ⟨[.v (.bool (fewB h0 h1 rt l))], []⟩)
 | _ => none
set_option maxHeartbeats 4000000 in
theorem vc_few (O : OO) (Y : OY) (no h0 h1 rt : Int) (l : List (List Int)) (F : FO O) (hy : Y = yO O) :
 If (iLt 20 (iOf (Cont.structs [.i64, .i64, .i64, .u64, .i64] l).n)) (Value.bool false = Value.bool (fewB h0 h1 rt l) ∧ True ∧ True) (If (iLt 36028797018963968 h0) (Value.bool false
  = Value.bool (fewB h0 h1 rt l) ∧ True ∧ True) (If (iLt 36028797018963968 h1) (Value.bool false = Value.bool (fewB h0 h1 rt l) ∧ True ∧ True) (If (iLt h0 (iNeg 36028797018963968))
  (Value.bool false = Value.bool (fewB h0 h1 rt l) ∧ True ∧ True) (If (iLt h1 (iNeg 36028797018963968)) (Value.bool false = Value.bool (fewB h0 h1 rt l) ∧ True ∧ True) (If (iLt
  1048576 rt) (Value.bool false = Value.bool (fewB h0 h1 rt l) ∧ True ∧ True) (If (iLt rt (iNeg 1048576)) (Value.bool false = Value.bool (fewB h0 h1 rt l) ∧ True ∧ True) ((∃ (x :
  Nat), (x ≤ l.length ∧ ((List.take x l).all fun (x : List Int) => !farI (x.getD 2 0)) = true) ∧ (Value.int .i64 0 = Value.int .i64 (iOf x) ∧ Value.bool false = Value.bool false ∧
  True) ∧ (Value.int .i64 no = Value.int .i64 no ∧ Value.int .i64 h0 = Value.int .i64 h0 ∧ Value.int .i64 h1 = Value.int .i64 h1 ∧ Value.int .i64 rt = Value.int .i64 rt) ∧
  Cont.structs [.i64, .i64, .i64, .u64, .i64] l = Cont.structs [.i64, .i64, .i64, .u64, .i64] l ∧ True) ∧ ∀ (x : Nat), x ≤ l.length ∧ ((List.take x l).all fun (x : List Int) => !farI
  (x.getD 2 0)) = true → If (iLt (iOf x) (iOf (Cont.structs [.i64, .i64, .i64, .u64, .i64] l).n)) (If (iLe 0 (iOf x) && (iOf x).toNat.blt l.length) (If ((iOf x).toNat.blt l.length)
  (If (true && Nat.beq 5 5 && (iOf x).toNat.blt l.length) (If (iLt 36028797018963968 ((l.getD (iOf x).toNat []).getD (nAdd (nAdd 0 1) 1) 0)) (Value.bool false = Value.bool (fewB h0 h1
  rt l) ∧ True ∧ True) (If (iLe 0 (iOf x) && (iOf x).toNat.blt l.length) (If ((iOf x).toNat.blt l.length) (If (true && Nat.beq 5 5 && (iOf x).toNat.blt l.length) (If (iLt ((l.getD
  (iOf x).toNat []).getD (nAdd (nAdd 0 1) 1) 0) (iNeg 36028797018963968)) (Value.bool false = Value.bool (fewB h0 h1 rt l) ∧ True ∧ True) (∃ (x' : Nat), (x' ≤ l.length ∧ ((List.take
  x' l).all fun (x : List Int) => !farI (x.getD 2 0)) = true) ∧ (nSub l.length x').succ ≤ nSub l.length x ∧ (Value.int .i64 (IntKind.i64.wrap (iAdd (iOf x) 1)) = Value.int .i64 (iOf
  x') ∧ Value.bool false = Value.bool false ∧ True) ∧ (Value.int .i64 no = Value.int .i64 no ∧ Value.int .i64 h0 = Value.int .i64 h0 ∧ Value.int .i64 h1 = Value.int .i64 h1 ∧
  Value.int .i64 rt = Value.int .i64 rt) ∧ Cont.structs [.i64, .i64, .i64, .u64, .i64] l = Cont.structs [.i64, .i64, .i64, .u64, .i64] l ∧ True)) False) False) False)) False) False)
  False) (Value.bool true = Value.bool (fewB h0 h1 rt l) ∧ True ∧ True)))))))) := by
 simp only [Sx.app, Sx.nAdd, Sx.nSub, Sx.nMul, Sx.nPow, Sx.nDiv, Sx.nMod, Sx.iAdd, Sx.iSub, Sx.iMul, Sx.iNeg, Sx.iPow, Sx.iOf]
 refine Sx.if_both (fun a => ⟨by unfold fewB; rw [show iLt 20 (l.length : Int) = true from a]; rfl, (by first | rfl | trivial)⟩) (fun a1 => Sx.if_both (fun a => ⟨by unfold fewB; rw [show iLt 20 (l.length : Int) = false from a1, a]; rfl, (by first | rfl | trivial)⟩) (fun a2 => Sx.if_both (fun a => ⟨by unfold fewB; rw [show iLt 20 (l.length : Int) = false from a1, a2, a]; rfl, (by first | rfl | trivial)⟩) (fun a3 => Sx.if_both (fun a => ⟨by unfold fewB; rw [show iLt 20 (l.length : Int) = false from a1, a2, a3, show iLt h0 (-36028797018963968) = true from a]; rfl, (by first | rfl | trivial)⟩) (fun a4 => Sx.if_both (fun a => ⟨by unfold fewB; rw [show iLt 20 (l.length : Int) = false from a1, a2, a3, show iLt h0 (-36028797018963968) = false from a4, show iLt h1 (-36028797018963968) = true from a]; rfl, (by first | rfl | trivial)⟩) (fun a5 => Sx.if_both (fun a => ⟨by unfold fewB; rw [show iLt 20 (l.length : Int) = false from a1, a2, a3, show iLt h0 (-36028797018963968) = false from a4, show iLt h1 (-36028797018963968) = false from a5, a]; rfl, (by first | rfl | trivial)⟩) (fun a6 => Sx.if_both (fun a => ⟨by unfold fewB; rw [show iLt 20 (l.length : Int) = false from a1, a2, a3, show iLt h0 (-36028797018963968) = false from a4, show iLt h1 (-36028797018963968) = false from a5, a6, show iLt rt (-1048576) = true from a]; rfl, (by first | rfl | trivial)⟩) (fun a7 => ?_)))))))
 have hS : fewB h0 h1 rt l = l.all fun x => !(farI (x.getD 2 0)) := by
  unfold fewB; rw [show iLt 20 (l.length : Int) = false from a1, a2, a3, show iLt h0 (-36028797018963968) = false from a4, show iLt h1 (-36028797018963968) = false from a5, a6, show iLt rt (-1048576) = false from a7]; rfl
 rw [hS]
 have hm : l.length ≤ 20 := by have : iLt 20 (l.length : Int) = false := a1; rw [iLt_f] at this; omega
 refine ⟨⟨0, ⟨Nat.zero_le _, rfl⟩, (by first | rfl | trivial)⟩, fun x hx => Sx.if_both (fun h => ?_) (fun h => ?_)⟩
 ·simp only [Sx.Bz, Sx.Cont.n] at h
  have hlt : x < l.length := by omega
  have hbl : x.blt l.length = true := by rw [Nat.blt_eq]; exact hlt
  simp only [Int.toNat_natCast]
  have hfar : farI ((l.getD x []).getD 2 0) = true → (l.all fun x => !(farI (x.getD 2 0))) = false := fun hf => by
   rw [getD_at hlt] at hf
   rw [Bool.eq_false_iff]
   intro h
   have := List.all_eq_true.1 h _ (List.getElem_mem hlt)
   rw [hf] at this; cases this
  refine Sx.if_true (by simp only [Sx.Bz, Sx.Cont.n, hbl, and_true]; omega) (Sx.if_true hbl (Sx.if_true (by rw [hbl]; rfl) (Sx.if_both (fun c => ⟨?_, (by first | rfl | trivial)⟩) (fun c => Sx.if_true (by simp only [Sx.Bz, Sx.Cont.n, hbl, and_true]; omega) (Sx.if_true hbl (Sx.if_true (by rw [hbl]; rfl) (Sx.if_both (fun d => ⟨?_, (by first | rfl | trivial)⟩) (fun d => ?_))))))))
  ·rw [hfar (by unfold farI; rw [show iLt 36028797018963968 ((l.getD x []).getD 2 0) = true from c]; rfl)]
  ·rw [hfar (by unfold farI; rw [show iLt 36028797018963968 ((l.getD x []).getD 2 0) = false from c, show iLt ((l.getD x []).getD 2 0) (-36028797018963968) = true from d]; rfl)]
  ·have hf : farI ((l.getD x []).getD 2 0) = false := by unfold farI; rw [show iLt 36028797018963968 ((l.getD x []).getD 2 0) = false from c, show iLt ((l.getD x []).getD 2 0) (-36028797018963968) = false from d]; rfl
   refine ⟨x + 1, ⟨hlt, ?_⟩, by omega, ⟨by rw [wrap_succ (by omega)], (by first | rfl | trivial)⟩, (by first | rfl | trivial)⟩
   rw [List.take_add_one, List.getElem?_eq_getElem hlt, List.all_append, hx.2, ← getD_at hlt]
   show (true && (!(farI ((l.getD x []).getD 2 0)) && true)) = true
   rw [hf]; rfl
 ·simp only [Sx.Bz, Sx.Cont.n] at h
  have hx1 : x = l.length := by omega
  have hx2 := hx.2
  rw [hx1, List.take_of_length_le (Nat.le_refl _)] at hx2
  exact ⟨by rw [hx2], (by first | rfl | trivial)⟩
theorem wpc_few (O : OO) (Y : OY) (no h0 h1 rt : Int) (l : List (List Int)) (F : FO O) (hy : Y = yO O) : wpcI Try.prog (spS19 O Y) Try.f10.ntmps [⟨Nat, [1, 2], [], fun B j => [(3, .v (.int .i64 (j : Int)))], fun B j => [], fun j => j ≤ l.length ∧ (l.take j).all (fun x => !(farI (x.getD 2 0))) = true, fun j => l.length - j, 0⟩] (bodyOf Try.f10) 0 64 (envP (mks [.agg [.v, .v, .v, .roS [.i64, .i64, .i64, .u64, .i64], .v]] [.node [.v (.int .i64 no), .v (.int .i64 h0), .v (.int .i64 h1), .structs l, .v (.int .i64 rt)]] 0).1 0) (mks [.agg [.v, .v, .v, .roS [.i64, .i64, .i64, .u64, .i64], .v]] [.node [.v (.int .i64 no), .v (.int .i64 h0), .v (.int .i64 h1), .structs l, .v (.int .i64 rt)]] 0).2 (retP Try.prog Try.f10.results.toList 1 (⟨[.v (.bool (fewB h0 h1 rt l))], []⟩ : Post)) :=
 Eq.mpr (by kernel_rfl) (vc_few O Y no h0 h1 rt l F hy)
theorem ok_few (I : Sx.Interp) (O : OO) (hO : O = oo) (Y : OY) (hY : Y = yO O) : Sx.SpecOK I Try.prog 10 (pspec [.agg [.v, .v, .v, .roS [.i64, .i64, .i64, .u64, .i64], .v]] false (g_few O Y)) := by
 refine spec_patI (spS19_ok I O hO Y hY) (by kernel_rfl) (fun ds => match ds with | [.node [.v (.int .i64 no), .v (.int .i64 h0), .v (.int .i64 h1), .structs l, .v (.int .i64 rt)]] => [⟨Nat, [1, 2], [], fun B j => [(3, .v (.int .i64 (j : Int)))], fun B j => [], fun j => j ≤ l.length ∧ (l.take j).all (fun x => !(farI (x.getD 2 0))) = true, fun j => l.length - j, 0⟩] | _ => []) Try.func10 (by kernel_rfl) (by kernel_rfl) rfl Try.ntmps10 (by decide) ?_ ?_
 ·intro ds p bs F h
  unfold g_few at h
  split at h
  ·simp only [Option.some.injEq, Prod.mk.injEq] at h
   obtain ⟨_, _, rfl⟩ := h
   kernel_rfl
  ·cases h
 ·intro ds bs F hl h
  unfold g_few at h
  split at h
  ·rename_i no h0 h1 l rt
   simp only [Option.some.injEq, Prod.mk.injEq, Bool.and_eq_true] at h
   obtain ⟨_, _, rfl⟩ := h
   exact wpc_few O Y no h0 h1 rt l (fo_oo O hO) hY 
  ·cases h
def g_plain (O : OO) (Y : OY) (l : List Value) : Option (Bool × Value) := match l with
 | [] => some ((zTwo O), .agg (plA O Y))
 | _ => none
set_option maxHeartbeats 4000000 in
theorem vc_plain (O : OO) (Y : OY) (out : Value) (F : FO O) (hy : Y = yO O) (h0 : zTwo O = true) (ho : .agg (plA O Y) = out) :
 If (O.isH (Array.mk [Value.int .u8 0, Value.int .u8 0, Value.int .u8 0, Value.int .u8 0, Value.int .u8 0, Value.int .u8 0, Value.int .u8 0, Value.int .u8 0, Value.int .u8 0,
  Value.int .u8 0, Value.int .u8 0, Value.int .u8 0, Value.int .u8 0, Value.int .u8 0, Value.int .u8 0, Value.int .u8 0, Value.int .u8 0, Value.int .u8 0, Value.int .u8 0, Value.int
  .u8 0, Value.int .u8 0, Value.int .u8 0, Value.int .u8 0, Value.int .u8 0, Value.int .u8 0, Value.int .u8 0, Value.int .u8 0, Value.int .u8 0, Value.int .u8 0, Value.int .u8 0,
  Value.int .u8 0, Value.int .u8 0])) (If (inU (O.ffrom (Array.mk (List.map (Value.int .u8) (tabI (O.tag (ByteArray.mk (Array.mk [107, 105, 116])) [[0, 0, 0, 0, 0, 0, 0, 0, 0, 0, 0,
  0, 0, 0, 0, 0, 0, 0, 0, 0, 0, 0, 0, 0, 0, 0, 0, 0, 0, 0, 0, 0], [1]]) 32)))) 18446744073709551616 && inU (O.ffrom (Array.mk (List.map (Value.int .u8) (tabI (O.tag (ByteArray.mk
  (Array.mk [107, 105, 116])) [[0, 0, 0, 0, 0, 0, 0, 0, 0, 0, 0, 0, 0, 0, 0, 0, 0, 0, 0, 0, 0, 0, 0, 0, 0, 0, 0, 0, 0, 0, 0, 0], [2]]) 32)))) 18446744073709551616 && inU (O.ffrom
  (Array.mk (List.map (Value.int .u8) (tabI (O.tag (ByteArray.mk (Array.mk [107, 105, 116])) [[0, 0, 0, 0, 0, 0, 0, 0, 0, 0, 0, 0, 0, 0, 0, 0, 0, 0, 0, 0, 0, 0, 0, 0, 0, 0, 0, 0, 0,
  0, 0, 0], [3]]) 32)))) 18446744073709551616 && inU (O.ffrom (Array.mk (List.map (Value.int .u8) (tabI (O.tag (ByteArray.mk (Array.mk [107, 105, 116])) [[0, 0, 0, 0, 0, 0, 0, 0, 0,
  0, 0, 0, 0, 0, 0, 0, 0, 0, 0, 0, 0, 0, 0, 0, 0, 0, 0, 0, 0, 0, 0, 0], [4]]) 32)))) 18446744073709551616 && inU (O.ffrom (Array.mk (List.map (Value.int .u8) (tabI (O.tag
  (ByteArray.mk (Array.mk [107, 105, 116])) [[0, 0, 0, 0, 0, 0, 0, 0, 0, 0, 0, 0, 0, 0, 0, 0, 0, 0, 0, 0, 0, 0, 0, 0, 0, 0, 0, 0, 0, 0, 0, 0], [5]]) 32)))) 18446744073709551616) (If
  (O.isH (Array.mk ([Value.int .u8 0, Value.int .u8 0, Value.int .u8 0, Value.int .u8 0, Value.int .u8 0, Value.int .u8 0, Value.int .u8 0, Value.int .u8 0, Value.int .u8 0, Value.int
  .u8 0, Value.int .u8 0, Value.int .u8 0, Value.int .u8 0, Value.int .u8 0, Value.int .u8 0, Value.int .u8 0, Value.int .u8 0, Value.int .u8 0, Value.int .u8 0, Value.int .u8 0,
  Value.int .u8 0, Value.int .u8 0, Value.int .u8 0, Value.int .u8 0, Value.int .u8 0, Value.int .u8 0, Value.int .u8 0, Value.int .u8 0, Value.int .u8 0, Value.int .u8 0, Value.int
  .u8 0, Value.int .u8 0].set 0 (Value.int .u8 1)))) (If (inU (O.ffrom (Array.mk (List.map (Value.int .u8) (tabI (O.tag (ByteArray.mk (Array.mk [107, 105, 116])) [[1, 0, 0, 0, 0, 0,
  0, 0, 0, 0, 0, 0, 0, 0, 0, 0, 0, 0, 0, 0, 0, 0, 0, 0, 0, 0, 0, 0, 0, 0, 0, 0], [1]]) 32)))) 18446744073709551616 && inU (O.ffrom (Array.mk (List.map (Value.int .u8) (tabI (O.tag
  (ByteArray.mk (Array.mk [107, 105, 116])) [[1, 0, 0, 0, 0, 0, 0, 0, 0, 0, 0, 0, 0, 0, 0, 0, 0, 0, 0, 0, 0, 0, 0, 0, 0, 0, 0, 0, 0, 0, 0, 0], [2]]) 32)))) 18446744073709551616 && inU
  (O.ffrom (Array.mk (List.map (Value.int .u8) (tabI (O.tag (ByteArray.mk (Array.mk [107, 105, 116])) [[1, 0, 0, 0, 0, 0, 0, 0, 0, 0, 0, 0, 0, 0, 0, 0, 0, 0, 0, 0, 0, 0, 0, 0, 0, 0,
  0, 0, 0, 0, 0, 0], [3]]) 32)))) 18446744073709551616 && inU (O.ffrom (Array.mk (List.map (Value.int .u8) (tabI (O.tag (ByteArray.mk (Array.mk [107, 105, 116])) [[1, 0, 0, 0, 0, 0,
  0, 0, 0, 0, 0, 0, 0, 0, 0, 0, 0, 0, 0, 0, 0, 0, 0, 0, 0, 0, 0, 0, 0, 0, 0, 0], [4]]) 32)))) 18446744073709551616 && inU (O.ffrom (Array.mk (List.map (Value.int .u8) (tabI (O.tag
  (ByteArray.mk (Array.mk [107, 105, 116])) [[1, 0, 0, 0, 0, 0, 0, 0, 0, 0, 0, 0, 0, 0, 0, 0, 0, 0, 0, 0, 0, 0, 0, 0, 0, 0, 0, 0, 0, 0, 0, 0], [5]]) 32)))) 18446744073709551616)
  (Value.agg (Array.mk ([Value.int .u8 1, Value.int .u8 0, Value.int .u8 0, Value.int .u8 0, Value.int .u8 0, Value.int .u8 0, Value.int .u8 0, Value.int .u8 0, Value.int .u8 0,
  Value.int .u8 0, Value.int .u8 0, Value.int .u8 0, Value.int .u8 0, Value.int .u8 0, Value.int .u8 0, Value.int .u8 0, Value.int .u8 0, Value.int .u8 0, Value.int .u8 0, Value.int
  .u8 0, Value.int .u8 0, Value.int .u8 0, Value.int .u8 0, Value.int .u8 0, Value.int .u8 0, Value.int .u8 0, Value.int .u8 0, Value.int .u8 0, Value.int .u8 0, Value.int .u8 0,
  Value.int .u8 0, Value.int .u8 0, Value.int .i64 0, Value.int .i64 5000, Value.int .u64 (O.pbase (O.ffrom (Array.mk (List.map (Value.int .u8) (tabI (O.tag (ByteArray.mk (Array.mk
  [107, 105, 116])) [[0, 0, 0, 0, 0, 0, 0, 0, 0, 0, 0, 0, 0, 0, 0, 0, 0, 0, 0, 0, 0, 0, 0, 0, 0, 0, 0, 0, 0, 0, 0, 0], [1]]) 32))))), Value.int .u64 (O.pbase (O.ffrom (Array.mk
  (List.map (Value.int .u8) (tabI (O.tag (ByteArray.mk (Array.mk [107, 105, 116])) [[0, 0, 0, 0, 0, 0, 0, 0, 0, 0, 0, 0, 0, 0, 0, 0, 0, 0, 0, 0, 0, 0, 0, 0, 0, 0, 0, 0, 0, 0, 0, 0],
  [2]]) 32))))), Value.int .u64 (O.pbase (O.ffrom (Array.mk (List.map (Value.int .u8) (tabI (O.tag (ByteArray.mk (Array.mk [107, 105, 116])) [[0, 0, 0, 0, 0, 0, 0, 0, 0, 0, 0, 0, 0,
  0, 0, 0, 0, 0, 0, 0, 0, 0, 0, 0, 0, 0, 0, 0, 0, 0, 0, 0], [3]]) 32))))), Value.int .u64 (O.pbase (O.ffrom (Array.mk (List.map (Value.int .u8) (tabI (O.tag (ByteArray.mk (Array.mk
  [107, 105, 116])) [[0, 0, 0, 0, 0, 0, 0, 0, 0, 0, 0, 0, 0, 0, 0, 0, 0, 0, 0, 0, 0, 0, 0, 0, 0, 0, 0, 0, 0, 0, 0, 0], [4]]) 32))))), Value.int .u64 (O.pbase (O.ffrom (Array.mk
  (List.map (Value.int .u8) (tabI (O.tag (ByteArray.mk (Array.mk [107, 105, 116])) [[0, 0, 0, 0, 0, 0, 0, 0, 0, 0, 0, 0, 0, 0, 0, 0, 0, 0, 0, 0, 0, 0, 0, 0, 0, 0, 0, 0, 0, 0, 0, 0],
  [5]]) 32))))), Value.int .u64 (O.pbase (O.ffrom (Array.mk (List.map (Value.int .u8) (tabI (O.tag (ByteArray.mk (Array.mk [107, 105, 116])) [[1, 0, 0, 0, 0, 0, 0, 0, 0, 0, 0, 0, 0,
  0, 0, 0, 0, 0, 0, 0, 0, 0, 0, 0, 0, 0, 0, 0, 0, 0, 0, 0], [1]]) 32))))), Value.int .u64 (O.pbase (O.ffrom (Array.mk (List.map (Value.int .u8) (tabI (O.tag (ByteArray.mk (Array.mk
  [107, 105, 116])) [[1, 0, 0, 0, 0, 0, 0, 0, 0, 0, 0, 0, 0, 0, 0, 0, 0, 0, 0, 0, 0, 0, 0, 0, 0, 0, 0, 0, 0, 0, 0, 0], [2]]) 32))))), Value.int .u64 (O.pbase (O.ffrom (Array.mk
  (List.map (Value.int .u8) (tabI (O.tag (ByteArray.mk (Array.mk [107, 105, 116])) [[1, 0, 0, 0, 0, 0, 0, 0, 0, 0, 0, 0, 0, 0, 0, 0, 0, 0, 0, 0, 0, 0, 0, 0, 0, 0, 0, 0, 0, 0, 0, 0],
  [3]]) 32))))), Value.int .u64 (O.pbase (O.ffrom (Array.mk (List.map (Value.int .u8) (tabI (O.tag (ByteArray.mk (Array.mk [107, 105, 116])) [[1, 0, 0, 0, 0, 0, 0, 0, 0, 0, 0, 0, 0,
  0, 0, 0, 0, 0, 0, 0, 0, 0, 0, 0, 0, 0, 0, 0, 0, 0, 0, 0], [4]]) 32))))), Value.int .u64 (O.pbase (O.ffrom (Array.mk (List.map (Value.int .u8) (tabI (O.tag (ByteArray.mk (Array.mk
  [107, 105, 116])) [[1, 0, 0, 0, 0, 0, 0, 0, 0, 0, 0, 0, 0, 0, 0, 0, 0, 0, 0, 0, 0, 0, 0, 0, 0, 0, 0, 0, 0, 0, 0, 0], [5]]) 32))))), Value.int .i64 100, Value.int .i64 100, Value.int
  .i64 10, Value.int .i64 16, Value.int .i64 1, Value.int .i64 5000, Value.int .i64 100, Value.int .i64 100, Value.int .i64 10, Value.int .i64 16, Value.int .i64 1, Value.int .i64 0,
  Value.int .i64 0].set 55 (Value.int .i64 5000))) = out) False) False) False) False := by
 subst ho
 unfold zTwo at h0
 rw [Bool.and_eq_true] at h0
 simp only [F.ffrom, Bool.and_self]
 exact Sx.if_true h0.1 (Sx.if_true rfl (Sx.if_true h0.2 (Sx.if_true rfl rfl)))
theorem wpc_plain (O : OO) (Y : OY) (out : Value) (F : FO O) (hy : Y = yO O) (h0 : zTwo O = true) (ho : .agg (plA O Y) = out) : wpcI Try.prog (spS19 O Y) Try.f25.ntmps [] (bodyOf Try.f25) 0 0 (argEnv [] 0) [] (retK Try.prog Try.f25.results.toList out) :=
 Eq.mpr (by kernel_rfl) (vc_plain O Y  out F hy h0 ho)
theorem ok_plain (I : Sx.Interp) (O : OO) (hO : O = oo) (Y : OY) (hY : Y = yO O) : Sx.SpecOK I Try.prog 25 (Sx.vspec (g_plain O Y)) := by
 refine spec_walk (n := 0) (spS19_ok I O hO Y hY) (by kernel_rfl) [] Try.func25 (by kernel_rfl) (by kernel_rfl) rfl Try.ntmps25 (by decide) ?_ ?_
 ·intro l p v hg; unfold g_plain at hg; split at hg <;> first | rfl | cases hg
 ·intro l v hg
  unfold g_plain at hg
  split at hg
  ·skip
   simp only [Option.some.injEq, Prod.mk.injEq, Bool.and_eq_true] at hg
   obtain ⟨q0, rfl⟩ := hg
   exact wpc_plain O Y   _ (fo_oo O hO) hY q0  rfl
  ·cases hg
def g_done (O : OO) (Y : OY) (ds : List Dt) : Option (Bool × List Bool × (List Bool → Post)) := match ds with
 | [.v (.agg ch), .node [.v (.int .i64 no), .v (.int .i64 h0), .v (.int .i64 h1), .structs l, .v (.int .i64 rt)], .v (.agg ⟨[.int .i64 d, .int .i64 f, .int .i64 i, .int .i64 a, .int .u64 q, .int .i64 e, .int .u64 k, .int .i64 r]⟩)] => some ((chB ch) && (Nat.ble l.length 1000) && (cnd l) && (inU q 18446744073709551616) && (inU k 18446744073709551616), [], fun _ => ⟨[.agg [.v (.int .i64 (bif iBeq (dE O (cz ch) no h0 h1 rt l d f i a q e k r) 0 then no else 0)), .v (.int .i64 (bif iBeq (dE O (cz ch) no h0 h1 rt l d f i a q e k r) 0 then (dH0 h0 l d f i a) else 0)), .v (.int .i64 (bif iBeq (dE O (cz ch) no h0 h1 rt l d f i a q e k r) 0 then (dH1 h1 l d f i a) else 0)), .row 1, .v (.int .i64 (bif iBeq (dE O (cz ch) no h0 h1 rt l d f i a q e k r) 0 then (dRt rt d r) else 0))], .v (.int .i64 (dE O (cz ch) no h0 h1 rt l d f i a q e k r))], [(1, .ro (.structs [.i64, .i64, .i64, .u64, .i64] (bif iBeq (dE O (cz ch) no h0 h1 rt l d f i a q e k r) 0 then (dL l d f i a q e) else [])))]⟩)
 | _ => none