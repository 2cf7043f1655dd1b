/- Are states the same (corsnedref20), by the symbolic machine (printed by genSm.py; VCs by VcTool). -/
import Derived.Test.YtaohpdhhbnempaaSb
namespace Go.Proofs.Ytaohpdhhbnempaa
open Go.RowKit Go.Lib Ckp Cfd Cpd Sx
set_option linter.unusedVariables false
set_option linter.unusedSimpArgs false
set_option maxRecDepth 1000000
def sameM (no h0 h1 rt : Int) (l : List (List Int)) (no' h0' h1' rt' : Int) (l' : List (List Int)) : Bool :=
 bif (bif (bif (bif iBne no no' then true else !(iBeq h0 h0' && iBeq h1 h1')) then true else iBne rt rt') then true else iBne (l.length : Int) (l'.length : Int)) then false else decide (l = l')

theorem getD_atM {l : List (List Int)} {i : Nat} (h : i < l.length) : l.getD i [] = l[i] := by rw [List.getD_eq_getElem?_getD, List.getElem?_eq_getElem h]; rfl
theorem fiveM {x : List Int} (h : x.length = 5) : x = [x.getD 0 0, x.getD 1 0, x.getD 2 0, x.getD 3 0, x.getD 4 0] := by
 match x, h with
 | [a, b, c, d, e], _ => rfl
theorem cnd_fiveM {l : List (List Int)} (h : pqB l = true) {x : Nat} (hx : x < l.length) : [(l.getD x []).getD 0 0, (l.getD x []).getD 1 0, (l.getD x []).getD 2 0, (l.getD x []).getD 3 0, (l.getD x []).getD 4 0] = l.getD x [] := by
 have e : l.getD x [] = l[x] := by rw [List.getD_eq_getElem?_getD, List.getElem?_eq_getElem hx]; rfl
 rw [e]
 have := List.all_eq_true.1 h _ (List.getElem_mem hx)
 rw [Bool.and_eq_true] at this
 exact (fiveM (Nat.eq_of_beq_eq_true this.2)).symm
theorem eqv_twoM (a b c d : Int) : eqv (Array.mk [Value.int .i64 a, Value.int .i64 b]) (Array.mk [Value.int .i64 c, Value.int .i64 d]) = (iBeq a c && iBeq b d) := by
 show ((a == c) && ((b == d) && true)) = _
 rw [Bool.and_true]; rfl
theorem take_stepM {l l' : List (List Int)} {x : Nat} (h1 : x < l.length) (h2 : x < l'.length) : l.take (x + 1) = l'.take (x + 1) ↔ l.take x = l'.take x ∧ l.getD x [] = l'.getD x [] := by
 rw [List.take_add_one, List.take_add_one, List.getElem?_eq_getElem h1, List.getElem?_eq_getElem h2, getD_atM h1, getD_atM h2]
 constructor
 ·intro h
  have := List.append_inj' h rfl
  exact ⟨this.1, by simpa using this.2⟩
 ·rintro ⟨a, b⟩
  rw [a, b]
theorem eqv_fiveM {ks : List Int} {l l' : List (List Int)} {x : Nat} (g1 : pqB l = true) (g3 : pqB l' = true) (h1 : x < l.length) (h2 : x < l'.length) : eqv (Array.mk [Value.int .i64 ((l.getD x []).getD 0 0), Value.int .i64 ((l.getD x []).getD 1 0), Value.int .i64 ((l.getD x []).getD 2 0), Value.int .u64 ((l.getD x []).getD 3 0), Value.int .i64 ((l.getD x []).getD 4 0)]) (Array.mk [Value.int .i64 ((l'.getD x []).getD 0 0), Value.int .i64 ((l'.getD x []).getD 1 0), Value.int .i64 ((l'.getD x []).getD 2 0), Value.int .u64 ((l'.getD x []).getD 3 0), Value.int .i64 ((l'.getD x []).getD 4 0)]) = decide (l.getD x [] = l'.getD x []) := by
 have a := cnd_fiveM g1 h1
 have b := cnd_fiveM g3 h2
 revert a b
 generalize l.getD x [] = u
 generalize l'.getD x [] = v
 intro a b
 rw [← a, ← b]
 simp only [List.getD_cons_zero, List.getD_cons_succ]
 generalize u.getD 0 0 = u0
 generalize u.getD 1 0 = u1
 generalize u.getD 2 0 = u2
 generalize u.getD 3 0 = u3
 generalize u.getD 4 0 = u4
 show ((u0 == _) && ((u1 == _) && ((u2 == _) && ((u3 == _) && ((u4 == _) && true))))) = _
 rw [Bool.eq_iff_iff]
 simp only [Bool.and_eq_true, beq_iff_eq, decide_eq_true_eq, List.cons.injEq, and_true]
theorem iBne_ffM {a b : Int} (h : iBne a b = false) : a = b := by simpa only [iBne_f] using h
theorem sb_ffM {no h0 h1 rt : Int} {l : List (List Int)} {no' h0' h1' rt' : Int} {l' : List (List Int)} (h : (bif (bif (bif iBne no no' then true else !(iBeq h0 h0' && iBeq h1 h1')) then true else iBne rt rt') then true else iBne (l.length : Int) (l'.length : Int)) = false) : sameM no h0 h1 rt l no' h0' h1' rt' l' = decide (l = l') := by
 unfold sameM; rw [h]; rfl

def g_sameM (O : OO) (R : OB) (ds : List Dt) : Option (Bool × List Bool × (List Bool → Post)) := match ds with
 | [.node [.v (.int .i64 no), .v (.int .i64 h0), .v (.int .i64 h1), .structs l, .v (.int .i64 rt)], .node [.v (.int .i64 no'), .v (.int .i64 h0'), .v (.int .i64 h1'), .structs l', .v (.int .i64 rt')]] => some ((Nat.ble l.length 1000) && (pqB l) && (Nat.ble l'.length 1000) && (pqB l'), [], fun _ => ⟨[.v (.bool (sameM no h0 h1 rt l no' h0' h1' rt' l'))], []⟩)
 | _ => none
set_option maxHeartbeats 4000000 in
theorem vc_sameM (O : OO) (R : OB) (no h0 h1 rt : Int) (l : List (List Int)) (no' h0' h1' rt' : Int) (l' : List (List Int)) (F : FO O) (hr : R = bO) (g0 : (Nat.ble l.length 1000) = true) (g1 : (pqB l) = true) (g2 : (Nat.ble l'.length 1000) = true) (g3 : (pqB l') = true) :
 If (iBne no no') (Value.bool false = Value.bool (sameM no h0 h1 rt l no' h0' h1' rt' l') ∧ True ∧ True) (If (!eqv (Array.mk [Value.int .i64 h0, Value.int .i64 h1]) (Array.mk
  [Value.int .i64 h0', Value.int .i64 h1'])) (Value.bool false = Value.bool (sameM no h0 h1 rt l no' h0' h1' rt' l') ∧ True ∧ True) (If (iBne rt rt') (Value.bool false = Value.bool
  (sameM no h0 h1 rt l no' h0' h1' rt' l') ∧ True ∧ True) (If (iBne (iOf l.length) (iOf l'.length)) (Value.bool false = Value.bool (sameM no h0 h1 rt l no' h0' h1' rt' l') ∧ True ∧
  True) ((∃ (x : Nat), (x ≤ l.length ∧ EqII (List.take x l) (List.take x l')) ∧ (Value.int .i64 0 = Value.int .i64 (iOf x) ∧ Value.bool false = Value.bool false ∧ True) ∧ (Value.int
  .i64 no' = Value.int .i64 no' ∧ Value.int .i64 h0' = Value.int .i64 h0' ∧ Value.int .i64 h1' = Value.int .i64 h1' ∧ Value.int .i64 rt' = Value.int .i64 rt') ∧ (Value.int .i64 no =
  Value.int .i64 no ∧ Value.int .i64 h0 = Value.int .i64 h0 ∧ Value.int .i64 h1 = Value.int .i64 h1 ∧ Value.int .i64 rt = Value.int .i64 rt) ∧ Cont.structs [.i64, .i64, .i64, .u64,
  .i64] l = Cont.structs [.i64, .i64, .i64, .u64, .i64] l ∧ Cont.structs [.i64, .i64, .i64, .u64, .i64] l' = Cont.structs [.i64, .i64, .i64, .u64, .i64] l' ∧ True) ∧ ∀ (x : Nat), x ≤
  l.length ∧ EqII (List.take x l) (List.take x l') → If (iLt (iOf x) (iOf (Cont.structs [.i64, .i64, .i64, .u64, .i64] l).n)) (If (iLe 0 (iOf x) && (iOf x).toNat.blt l.length) (If
  (true && Nat.beq 5 5 && (iOf x).toNat.blt l.length) (If (iLe 0 (iOf x) && (iOf x).toNat.blt l'.length) (If (true && Nat.beq 5 5 && (iOf x).toNat.blt l'.length) (If (!eqv (Array.mk
  [Value.int .i64 ((l.getD (iOf x).toNat []).getD 0 0), Value.int .i64 ((l.getD (iOf x).toNat []).getD 1 0), Value.int .i64 ((l.getD (iOf x).toNat []).getD 2 0), Value.int .u64
  ((l.getD (iOf x).toNat []).getD 3 0), Value.int .i64 ((l.getD (iOf x).toNat []).getD 4 0)]) (Array.mk [Value.int .i64 ((l'.getD (iOf x).toNat []).getD 0 0), Value.int .i64 ((l'.getD
  (iOf x).toNat []).getD 1 0), Value.int .i64 ((l'.getD (iOf x).toNat []).getD 2 0), Value.int .u64 ((l'.getD (iOf x).toNat []).getD 3 0), Value.int .i64 ((l'.getD (iOf x).toNat
  []).getD 4 0)])) (Value.bool false = Value.bool (sameM no h0 h1 rt l no' h0' h1' rt' l') ∧ True ∧ True) (∃ (x' : Nat), (x' ≤ l.length ∧ EqII (List.take x' l) (List.take x' l')) ∧
  (nSub l.length x').succ ≤ nSub l.length x ∧ (Value.int .i64 (IntKind.i64.wrap (iAdd (iOf x) 1)) = Value.int .i64 (iOf x') ∧ Value.bool false = Value.bool false ∧ True) ∧ (Value.int
  .i64 no' = Value.int .i64 no' ∧ Value.int .i64 h0' = Value.int .i64 h0' ∧ Value.int .i64 h1' = Value.int .i64 h1' ∧ Value.int .i64 rt' = Value.int .i64 rt') ∧ (Value.int .i64 no =
  Value.int .i64 no ∧ Value.int .i64 h0 = Value.int .i64 h0 ∧ Value.int .i64 h1 = Value.int .i64 h1 ∧ Value.int .i64 rt = Value.int .i64 rt) ∧ Cont.structs [.i64, .i64, .i64, .u64,
  .i64] l = Cont.structs [.i64, .i64, .i64, .u64, .i64] l ∧ Cont.structs [.i64, .i64, .i64, .u64, .i64] l' = Cont.structs [.i64, .i64, .i64, .u64, .i64] l' ∧ True)) False) False)
  False) False) (Value.bool true = Value.bool (sameM no h0 h1 rt l no' h0' h1' rt' l') ∧ True ∧ True))))) := by
 simp only [Sx.app, Sx.nAdd, Sx.nSub, Sx.nMul, Sx.nPow, Sx.nDiv, Sx.nMod, Sx.iAdd, Sx.iSub, Sx.iMul, Sx.iNeg, Sx.iPow, Sx.iOf]
 have hm := Nat.le_of_ble_eq_true g0
 have hm' := Nat.le_of_ble_eq_true g2
 refine Sx.if_both (fun a => ⟨by unfold sameM; rw [a]; rfl, (by first | rfl | trivial)⟩) (fun a1 => ?_)
 rw [eqv_twoM]
 refine Sx.if_both (fun a => ⟨by unfold sameM; rw [a1, a]; rfl, (by first | rfl | trivial)⟩) (fun a2 => Sx.if_both (fun a => ⟨by unfold sameM; rw [a1, a2, a]; rfl, (by first | rfl | trivial)⟩) (fun a3 => Sx.if_both (fun a => ⟨by unfold sameM; rw [a1, a2, a3, a]; rfl, (by first | rfl | trivial)⟩) (fun a4 => ?_)))
 have hS : sameM no h0 h1 rt l no' h0' h1' rt' l' = decide (l = l') := by unfold sameM; rw [a1, a2, a3, a4]; rfl
 have hl : l.length = l'.length := by have := iBne_ffM a4; omega
 rw [hS]
 refine ⟨⟨0, ⟨Nat.zero_le _, rfl⟩, (by first | rfl | trivial)⟩, fun x hx => Sx.if_both (fun h => ?_) (fun h => ?_)⟩
 ·simp only [Sx.Bz, Sx.Cont.n] at h
  have hlt : x < l.length := by omega
  have hlt' : x < l'.length := by omega
  have hbl : x.blt l.length = true := by rw [Nat.blt_eq]; exact hlt
  have hbl' : x.blt l'.length = true := by rw [Nat.blt_eq]; exact hlt'
  simp only [Int.toNat_natCast]
  rw [eqv_fiveM (ks := []) g1 g3 hlt hlt']
  have hx2 : l.take x = l'.take x := hx.2
  refine Sx.if_true (by simp only [Sx.Bz, Sx.Cont.n, hbl, and_true]; omega) (Sx.if_true (by rw [hbl]; rfl) (Sx.if_true (by simp only [Sx.Bz, Sx.Cont.n, hbl', and_true]; omega) (Sx.if_true (by rw [hbl']; rfl) (Sx.if_both (fun c => ?_) (fun c => ?_)))))
  ·refine ⟨?_, (by first | rfl | trivial)⟩
   have hn : ¬ l = l' := fun e => by rw [e] at c; simp at c
   rw [decide_eq_false hn]
  ·have he : l.getD x [] = l'.getD x [] := by simpa using c
   exact ⟨x + 1, ⟨hlt, (take_stepM hlt hlt').2 ⟨hx2, he⟩⟩, by omega, ⟨by rw [wrapQ_succ (by omega)], (by first | rfl | trivial)⟩, (by first | rfl | trivial)⟩
 ·simp only [Sx.Bz, Sx.Cont.n] at h
  have hx1 : x = l.length := by omega
  have hx2 : l.take x = l'.take x := hx.2
  refine ⟨?_, (by first | rfl | trivial)⟩
  rw [hx1, List.take_of_length_le (Nat.le_refl _), hl, List.take_of_length_le (Nat.le_refl _)] at hx2
  rw [hx2, decide_eq_true rfl]
theorem wpc_sameM (O : OO) (R : OB) (no h0 h1 rt : Int) (l : List (List Int)) (no' h0' h1' rt' : Int) (l' : List (List Int)) (F : FO O) (hr : R = bO) (g0 : (Nat.ble l.length 1000) = true) (g1 : (pqB l) = true) (g2 : (Nat.ble l'.length 1000) = true) (g3 : (pqB l') = true) : wpcI Try.prog (spB5 O R) Try.f24.ntmps [⟨Nat, [2, 3, 4], [], fun B j => [(5, .v (.int .i64 (j : Int)))], fun B j => [], fun j => j ≤ l.length ∧ l.take j = l'.take j, fun j => l.length - j, 0⟩] (bodyOf Try.f24) 0 64 (envP (mks [.agg [.v, .v, .v, .roS [.i64, .i64, .i64, .u64, .i64], .v], .agg [.v, .v, .v, .roS [.i64, .i64, .i64, .u64, .i64], .v]] [.node [.v (.int .i64 no), .v (.int .i64 h0), .v (.int .i64 h1), .structs l, .v (.int .i64 rt)], .node [.v (.int .i64 no'), .v (.int .i64 h0'), .v (.int .i64 h1'), .structs l', .v (.int .i64 rt')]] 0).1 0) (mks [.agg [.v, .v, .v, .roS [.i64, .i64, .i64, .u64, .i64], .v], .agg [.v, .v, .v, .roS [.i64, .i64, .i64, .u64, .i64], .v]] [.node [.v (.int .i64 no), .v (.int .i64 h0), .v (.int .i64 h1), .structs l, .v (.int .i64 rt)], .node [.v (.int .i64 no'), .v (.int .i64 h0'), .v (.int .i64 h1'), .structs l', .v (.int .i64 rt')]] 0).2 (retP Try.prog Try.f24.results.toList 2 (⟨[.v (.bool (sameM no h0 h1 rt l no' h0' h1' rt' l'))], []⟩ : Post)) :=
 Eq.mpr (by kernel_rfl) (vc_sameM O R no h0 h1 rt l no' h0' h1' rt' l' F hr g0 g1 g2 g3)
theorem ok_sameM (I : Sx.Interp) (O : OO) (hO : O = oo) (R : OB) (hR : R = bO) : Sx.SpecOK I Try.prog 24 (pspec [.agg [.v, .v, .v, .roS [.i64, .i64, .i64, .u64, .i64], .v], .agg [.v, .v, .v, .roS [.i64, .i64, .i64, .u64, .i64], .v]] false (g_sameM O R)) := by
 refine spec_pI (spB5_ok I O hO R hR) (by kernel_rfl) (fun ds => match ds with | [.node [.v (.int .i64 no), .v (.int .i64 h0), .v (.int .i64 h1), .structs l, .v (.int .i64 rt)], .node [.v (.int .i64 no'), .v (.int .i64 h0'), .v (.int .i64 h1'), .structs l', .v (.int .i64 rt')]] => [⟨Nat, [2, 3, 4], [], fun B j => [(5, .v (.int .i64 (j : Int)))], fun B j => [], fun j => j ≤ l.length ∧ l.take j = l'.take j, fun j => l.length - j, 0⟩] | _ => []) Try.func24 (by kernel_rfl) (by kernel_rfl) rfl Try.ntmps24 (by decide) ?_ ?_
 ·intro ds p bs F h
  unfold g_sameM at h
  split at h
  ·rename_i no h0 h1 l rt no' h0' h1' l' rt'
   simp only [Option.some.injEq, Prod.mk.injEq] at h
   obtain ⟨_, _, rfl⟩ := h
   kernel_rfl
  ·cases h
 ·intro ds bs F hl h
  unfold g_sameM at h
  split at h
  ·rename_i no h0 h1 l rt no' h0' h1' l' rt'
   simp only [Option.some.injEq, Prod.mk.injEq, Bool.and_eq_true] at h
   obtain ⟨⟨⟨⟨g0, g1⟩, g2⟩, g3⟩, _, rfl⟩ := h
   exact wpc_sameM O R no h0 h1 rt l no' h0' h1' rt' l' (fo_oo O hO) hR (by first | exact g0 | (simp only [Bool.and_eq_true]; exact g0)) (by first | exact g1 | (simp only [Bool.and_eq_true]; exact g1)) (by first | exact g2 | (simp only [Bool.and_eq_true]; exact g2)) (by first | exact g3 | (simp only [Bool.and_eq_true]; exact g3))
  ·cases h
end Go.Proofs.Ytaohpdhhbnempaa
