/- Log: what the laws call besides the log; LogTorn: by the symbolic machine (printed by genLg3.py; VCs by VcTool). -/
import Derived.Test.YtaohpdhhbnempaaLg2
import Derived.Test.YtaohpdhhbnempaaLt
import Derived.Test.YtaohpdhhbnempaaCq
namespace Go.Proofs.Ytaohpdhhbnempaa
open Go.RowKit Go.Lib Ckp Cfd Cpd Sx
set_option linter.unusedVariables false
set_option linter.unusedSimpArgs false
set_option maxRecDepth 1000000
def I0 : Sx.Interp := ⟨fun _ _ _ _ _ => False, fun _ _ _ _ _ _ _ h => h, fun _ => True, fun _ => False, fun _ _ _ h => h⟩
def sameR (a b : List (List Int)) : Bool := bif Nat.beq a.length b.length then (List.range a.length).all fun i => strE (a.getD i []) (b.getD i []) else false
def fwE (a : List (List Int)) : Bool := bif iLt 20 (a.length : Int) then false else (List.range a.length).all fun i => iLe ((a.getD i []).length : Int) 100
def isNilP : List SV → Bool
 | [.v (.pointer none)] => true
 | _ => false
/-- Where the rows end. -/
def tnE (O : OO) (R : OB) (a : List (List Int)) (k : Nat) : List Int := (List.range k).map fun j => ((tnB O R a (j + 1)).length : Int)
theorem few_all {l : List (List Int)} (h : fwE l = true) : l.length ≤ 20 ∧ ∀ x ∈ l, x.length ≤ 100 := by
 unfold fwE at h
 cases c : iLt 20 (l.length : Int)
 ·rw [c, cond_false, List.all_eq_true] at h
  simp only [iLt_f] at c
  refine ⟨by omega, fun x hx => ?_⟩
  obtain ⟨i, hi, rfl⟩ := List.mem_iff_getElem.1 hx
  have := h i (List.mem_range.2 hi)
  rw [List.getD_eq_getElem?_getD, List.getElem?_eq_getElem hi] at this
  simp only [iLe_t, Option.getD_some] at this
  omega
 ·rw [c] at h; cases h
theorem sameR_refl (a : List (List Int)) : sameR a a = true := by
 unfold sameR
 rw [show Nat.beq a.length a.length = true by rw [Nat.beq_eq], cond_true, List.all_eq_true]
 intro i hi
 exact beq_self_eq_true _
def g_gonil (O : OO) (R : OB) (ds : List Dt) : Option (Bool × List Bool × (List Bool → Post)) := match ds with
 | [.v (.pointer none)] => some (true, [], fun _ => ⟨[.v (.pointer none), .v (.int .i64 1)], []⟩)
 | _ => none
set_option maxHeartbeats 4000000 in
theorem vc_gonil (O : OO) (R : OB) (F : FO O) (hr : R = bO) (hS : SB O) :
 (Value.pointer none = Value.pointer none ∧ Value.int .i64 1 = Value.int .i64 1) ∧ True ∧ True := by
 exact ⟨⟨(by first | rfl | trivial), (by first | rfl | trivial)⟩, trivial, trivial⟩
theorem wpc_gonil (O : OO) (R : OB) (F : FO O) (hr : R = bO) (hS : SB O) : wpcI Try.prog (spG2 O R) Try.f10.ntmps [] (bodyOf Try.f10) 0 64 (envP (mks [.v] [.v (.pointer none)] 0).1 0) (mks [.v] [.v (.pointer none)] 0).2 (retP Try.prog Try.f10.results.toList 0 (⟨[.v (.pointer none), .v (.int .i64 1)], []⟩ : Post)) :=
 Eq.mpr (by kernel_rfl) (vc_gonil O R F hr hS)
theorem ok_gonil (I : Sx.Interp) (O : OO) (hO : O = oo) (R : OB) (hR : R = bO) : Sx.SpecOK I Try.prog 10 (pspec [.v] false (g_gonil O R)) := by
 refine spec_pI (spG2_ok I O hO R hR) (by kernel_rfl) (fun ds => match ds with | [.v (.pointer none)] => [] | _ => []) Try.func10 (by kernel_rfl) (by kernel_rfl) rfl Try.ntmps10 (by decide) ?_ ?_
 ·intro ds p bs F h
  unfold g_gonil at h
  split at h
  ·skip
   simp only [Option.some.injEq, Prod.mk.injEq] at h
   obtain ⟨_, _, rfl⟩ := h
   kernel_rfl
  ·cases h
 ·intro ds bs F hl h
  unfold g_gonil at h
  split at h
  ·skip
   simp only [Option.some.injEq, Prod.mk.injEq, Bool.and_eq_true] at h
   obtain ⟨_, _, rfl⟩ := h
   exact wpc_gonil O R  (fo_oo O hO) hR (by subst hO; exact sb_oo) 
  ·cases h
def g_smR (O : OO) (R : OB) (ds : List Dt) : Option (Bool × List Bool × (List Bool → Post)) := match ds with
 | [.rows a, .rows b] => some ((Nat.ble a.length 1000000), [], fun _ => ⟨[.v (.bool (sameR a b))], []⟩)
 | _ => none
set_option maxHeartbeats 4000000 in
theorem vc_smR (O : OO) (R : OB) (a b : List (List Int)) (F : FO O) (hr : R = bO) (hS : SB O) (h0 : (Nat.ble a.length 1000000) = true) :
 If (iBne (iOf a.length) (iOf b.length)) (Value.bool false = Value.bool (sameR a b) ∧ True ∧ True) ((∃ (x : Nat), (x ≤ a.length ∧ ∀ (i : Nat), i.succ ≤ x → strE (a.getD i []) (b.getD
  i []) = true) ∧ (Value.int .i64 0 = Value.int .i64 (iOf x) ∧ True) ∧ Res.ros a = Res.ros a ∧ Res.ros b = Res.ros b ∧ True) ∧ ∀ (x : Nat), (x ≤ a.length ∧ ∀ (i : Nat), i.succ ≤ x →
  strE (a.getD i []) (b.getD i []) = true) → If (iLt (iOf x) (iOf a.length)) (If (iLe 0 (iOf x) && (iOf x).toNat.blt a.length) (If (true && !false && Nat.beq 1 1 && Nat.beq 0 0 &&
  (iOf x).toNat.blt a.length) (If (iLe 0 (iOf x) && (iOf x).toNat.blt b.length) (If (true && !false && Nat.beq 1 1 && Nat.beq 0 0 && (iOf x).toNat.blt b.length) (If (!(strOfNums
  (a.getD (iOf x).toNat [])).toList == (strOfNums (b.getD (iOf x).toNat [])).toList) (Value.bool false = Value.bool (sameR a b) ∧ True ∧ True) (∃ (x' : Nat), (x' ≤ a.length ∧ ∀ (i :
  Nat), i.succ ≤ x' → strE (a.getD i []) (b.getD i []) = true) ∧ (nSub a.length x').succ ≤ nSub a.length x ∧ (Value.int .i64 (IntKind.i64.wrap (iAdd (iOf x) 1)) = Value.int .i64 (iOf
  x') ∧ True) ∧ Res.ros a = Res.ros a ∧ Res.ros b = Res.ros b ∧ True)) False) False) False) False) (Value.bool true = Value.bool (sameR a b) ∧ True ∧ True)) := by
 have h0' := Nat.le_of_ble_eq_true h0
 have hn : ∀ k : Nat, (iOf k).toNat = k := fun k => by simp only [Sx.app, Sx.nAdd, Sx.nSub, Sx.nMul, Sx.nPow, Sx.nDiv, Sx.nMod, Sx.iAdd, Sx.iSub, Sx.iMul, Sx.iNeg, Sx.iPow, Sx.iOf, Int.toNat_natCast]
 simp only [hn]
 refine Sx.if_both (fun d => ?_) (fun d => ?_)
 ·have : sameR a b = false := by
   unfold sameR
   rw [show Nat.beq a.length b.length = false by
    rw [Bool.eq_false_iff, Ne, Nat.beq_eq]
    intro e
    simp only [iBne_t, Sx.app, Sx.nAdd, Sx.nSub, Sx.nMul, Sx.nPow, Sx.nDiv, Sx.nMod, Sx.iAdd, Sx.iSub, Sx.iMul, Sx.iNeg, Sx.iPow, Sx.iOf, Sx.Cont.n] at d
    omega]; rfl
  rw [this]; exact ⟨rfl, trivial, trivial⟩
 have hl : a.length = b.length := by
  simp only [iBne_f, Sx.app, Sx.nAdd, Sx.nSub, Sx.nMul, Sx.nPow, Sx.nDiv, Sx.nMod, Sx.iAdd, Sx.iSub, Sx.iMul, Sx.iNeg, Sx.iPow, Sx.iOf, Sx.Cont.n] at d
  omega
 have hS : sameR a b = (List.range a.length).all fun i => strE (a.getD i []) (b.getD i []) := by
  unfold sameR
  rw [show Nat.beq a.length b.length = true by rw [Nat.beq_eq]; exact hl]; rfl
 rw [hS]
 refine ⟨⟨0, ⟨Nat.zero_le _, fun i hi => absurd hi (Nat.not_lt_zero _)⟩, ⟨rfl, trivial⟩, (by first | rfl | trivial), (by first | rfl | trivial), trivial⟩, fun x hx => ?_⟩
 refine Sx.if_both (fun d => ?_) (fun d => ?_)
 ·simp only [Sx.Bz, Sx.Cont.n, Sx.app, Sx.nAdd, Sx.nSub, Sx.nMul, Sx.nPow, Sx.nDiv, Sx.nMod, Sx.iAdd, Sx.iSub, Sx.iMul, Sx.iNeg, Sx.iPow, Sx.iOf] at d
  have hb : x.blt a.length = true := by rw [Nat.blt_eq]; omega
  have hb2 : x.blt b.length = true := by rw [Nat.blt_eq]; omega
  have w1 : IntKind.i64.wrap (iAdd (iOf x) 1) = iOf (x + 1) := by simp only [Sx.app, Sx.nAdd, Sx.nSub, Sx.nMul, Sx.nPow, Sx.nDiv, Sx.nMod, Sx.iAdd, Sx.iSub, Sx.iMul, Sx.iNeg, Sx.iPow, Sx.iOf]; rw [IntKind.wrap_i64]; omega
  rw [hb, hb2, w1]
  refine Sx.if_true (by simp only [Sx.Bz, Sx.Cont.n, Sx.app, Sx.nAdd, Sx.nSub, Sx.nMul, Sx.nPow, Sx.nDiv, Sx.nMod, Sx.iAdd, Sx.iSub, Sx.iMul, Sx.iNeg, Sx.iPow, Sx.iOf]; exact ⟨by omega, trivial⟩) (Sx.if_true rfl (Sx.if_true (by simp only [Sx.Bz, Sx.Cont.n, Sx.app, Sx.nAdd, Sx.nSub, Sx.nMul, Sx.nPow, Sx.nDiv, Sx.nMod, Sx.iAdd, Sx.iSub, Sx.iMul, Sx.iNeg, Sx.iPow, Sx.iOf]; exact ⟨by omega, trivial⟩) (Sx.if_true rfl (Sx.if_both (fun t => ?_) (fun t => ?_)))))
  ·have ht : strE (a.getD x []) (b.getD x []) = false := (Bool.not_eq_true' _).mp t
   have : ((List.range a.length).all fun i => strE (a.getD i []) (b.getD i [])) = false := by
    rw [Bool.eq_false_iff]
    intro h
    rw [List.all_eq_true] at h
    have := h x (List.mem_range.2 (by omega))
    rw [ht] at this
    cases this
   rw [this]
   exact ⟨rfl, trivial, trivial⟩
  ·have ht : strE (a.getD x []) (b.getD x []) = true := (Bool.not_eq_false' _).mp t
   refine ⟨x + 1, ⟨by omega, fun i hi => ?_⟩, by simp only [Sx.app, Sx.nAdd, Sx.nSub, Sx.nMul, Sx.nPow, Sx.nDiv, Sx.nMod, Sx.iAdd, Sx.iSub, Sx.iMul, Sx.iNeg, Sx.iPow, Sx.iOf]; omega, ⟨rfl, trivial⟩, (by first | rfl | trivial), (by first | rfl | trivial), trivial⟩
   by_cases q : i = x
   ·rw [q]; exact ht
   ·exact hx.2 i (by omega)
 ·simp only [Sx.Bz, Sx.Cont.n, Sx.app, Sx.nAdd, Sx.nSub, Sx.nMul, Sx.nPow, Sx.nDiv, Sx.nMod, Sx.iAdd, Sx.iSub, Sx.iMul, Sx.iNeg, Sx.iPow, Sx.iOf] at d
  have : ((List.range a.length).all fun i => strE (a.getD i []) (b.getD i [])) = true := by
   rw [List.all_eq_true]
   intro i hi
   rw [List.mem_range] at hi
   exact hx.2 i (by omega)
  rw [this]
  exact ⟨rfl, trivial, trivial⟩
theorem wpc_smR (O : OO) (R : OB) (a b : List (List Int)) (F : FO O) (hr : R = bO) (hS : SB O) (h0 : (Nat.ble a.length 1000000) = true) : wpcI Try.prog (spG2 O R) Try.f12.ntmps [⟨Nat, [0, 1], [], fun B k => [(5, .v (.int .i64 (k : Nat)))], fun B k => [], fun k => k ≤ a.length ∧ ∀ i, i < k → strE (a.getD i []) (b.getD i []) = true, fun k => a.length - k, 0⟩] (bodyOf Try.f12) 0 64 (envP (mks [.ros, .ros] [.rows a, .rows b] 0).1 0) (mks [.ros, .ros] [.rows a, .rows b] 0).2 (retP Try.prog Try.f12.results.toList 2 (⟨[.v (.bool (sameR a b))], []⟩ : Post)) :=
 Eq.mpr (by kernel_rfl) (vc_smR O R a b F hr hS h0)
theorem ok_smR (I : Sx.Interp) (O : OO) (hO : O = oo) (R : OB) (hR : R = bO) : Sx.SpecOK I Try.prog 12 (pspec [.ros, .ros] false (g_smR O R)) := by
 refine spec_pI (spG2_ok I O hO R hR) (by kernel_rfl) (fun ds => match ds with | [.rows a, .rows b] => [⟨Nat, [0, 1], [], fun B k => [(5, .v (.int .i64 (k : Nat)))], fun B k => [], fun k => k ≤ a.length ∧ ∀ i, i < k → strE (a.getD i []) (b.getD i []) = true, fun k => a.length - k, 0⟩] | _ => []) Try.func12 (by kernel_rfl) (by kernel_rfl) rfl Try.ntmps12 (by decide) ?_ ?_
 ·intro ds p bs F h
  unfold g_smR at h
  split at h
  ·rename_i a b
   simp only [Option.some.injEq, Prod.mk.injEq] at h
   obtain ⟨_, _, rfl⟩ := h
   kernel_rfl
  ·cases h
 ·intro ds bs F hl h
  unfold g_smR at h
  split at h
  ·rename_i a b
   simp only [Option.some.injEq, Prod.mk.injEq, Bool.and_eq_true] at h
   obtain ⟨h0, _, rfl⟩ := h
   exact wpc_smR O R a b (fo_oo O hO) hR (by subst hO; exact sb_oo) (by first | exact h0 | (simp only [Bool.and_eq_true]; exact h0))
  ·cases h
def g_fewR (O : OO) (R : OB) (ds : List Dt) : Option (Bool × List Bool × (List Bool → Post)) := match ds with
 | [.rows a] => some (true, [], fun _ => ⟨[.v (.bool (fwE a))], []⟩)
 | _ => none
set_option maxHeartbeats 4000000 in
theorem vc_fewR (O : OO) (R : OB) (a : List (List Int)) (F : FO O) (hr : R = bO) (hS : SB O) :
 If (iLt 20 (iOf a.length)) (Value.bool false = Value.bool (fwE a) ∧ True ∧ True) ((∃ (x : Nat), (x ≤ a.length ∧ ∀ (i : Nat), i.succ ≤ x → iLe (iOf (a.getD i []).length) 100 = true)
  ∧ (Value.int .i64 0 = Value.int .i64 (iOf x) ∧ True) ∧ Res.ros a = Res.ros a ∧ True) ∧ ∀ (x : Nat), (x ≤ a.length ∧ ∀ (i : Nat), i.succ ≤ x → iLe (iOf (a.getD i []).length) 100 =
  true) → If (iLt (iOf x) (iOf a.length)) (If (iLe 0 (iOf x) && (iOf x).toNat.blt a.length) (If (true && !false && Nat.beq 1 1 && Nat.beq 0 0 && (iOf x).toNat.blt a.length) (If (iLt
  100 (iOf (Cont.ints .u8 (a.getD (iOf x).toNat [])).n)) (Value.bool false = Value.bool (fwE a) ∧ True ∧ True) (∃ (x' : Nat), (x' ≤ a.length ∧ ∀ (i : Nat), i.succ ≤ x' → iLe (iOf
  (a.getD i []).length) 100 = true) ∧ (nSub a.length x').succ ≤ nSub a.length x ∧ (Value.int .i64 (IntKind.i64.wrap (iAdd (iOf x) 1)) = Value.int .i64 (iOf x') ∧ True) ∧ Res.ros a =
  Res.ros a ∧ True)) False) False) (Value.bool true = Value.bool (fwE a) ∧ True ∧ True)) := by
 have hn : ∀ k : Nat, (iOf k).toNat = k := fun k => by simp only [Sx.app, Sx.nAdd, Sx.nSub, Sx.nMul, Sx.nPow, Sx.nDiv, Sx.nMod, Sx.iAdd, Sx.iSub, Sx.iMul, Sx.iNeg, Sx.iPow, Sx.iOf, Int.toNat_natCast]
 simp only [hn]
 refine Sx.if_both (fun d => ?_) (fun d => ?_)
 ·have : fwE a = false := by unfold fwE; rw [show iLt 20 (a.length : Int) = true from d]; rfl
  rw [this]; exact ⟨rfl, trivial, trivial⟩
 have hW : fwE a = (List.range a.length).all fun i => iLe ((a.getD i []).length : Int) 100 := by
  unfold fwE; rw [show iLt 20 (a.length : Int) = false from d]; rfl
 rw [hW]
 simp only [Sx.Bz, Sx.Cont.n, Sx.app, Sx.nAdd, Sx.nSub, Sx.nMul, Sx.nPow, Sx.nDiv, Sx.nMod, Sx.iAdd, Sx.iSub, Sx.iMul, Sx.iNeg, Sx.iPow, Sx.iOf] at d
 refine ⟨⟨0, ⟨Nat.zero_le _, fun i hi => absurd hi (Nat.not_lt_zero _)⟩, ⟨rfl, trivial⟩, (by first | rfl | trivial), trivial⟩, fun x hx => ?_⟩
 refine Sx.if_both (fun c => ?_) (fun c => ?_)
 ·simp only [Sx.Bz, Sx.Cont.n, Sx.app, Sx.nAdd, Sx.nSub, Sx.nMul, Sx.nPow, Sx.nDiv, Sx.nMod, Sx.iAdd, Sx.iSub, Sx.iMul, Sx.iNeg, Sx.iPow, Sx.iOf] at c
  have hb : x.blt a.length = true := by rw [Nat.blt_eq]; omega
  have w1 : IntKind.i64.wrap (iAdd (iOf x) 1) = iOf (x + 1) := by simp only [Sx.app, Sx.nAdd, Sx.nSub, Sx.nMul, Sx.nPow, Sx.nDiv, Sx.nMod, Sx.iAdd, Sx.iSub, Sx.iMul, Sx.iNeg, Sx.iPow, Sx.iOf]; rw [IntKind.wrap_i64]; omega
  rw [hb, w1]
  refine Sx.if_true (by simp only [Sx.Bz, Sx.Cont.n, Sx.app, Sx.nAdd, Sx.nSub, Sx.nMul, Sx.nPow, Sx.nDiv, Sx.nMod, Sx.iAdd, Sx.iSub, Sx.iMul, Sx.iNeg, Sx.iPow, Sx.iOf]; exact ⟨by omega, trivial⟩) (Sx.if_true rfl (Sx.if_both (fun t => ?_) (fun t => ?_)))
  ·have ht : iLe ((a.getD x []).length : Int) 100 = false := by simp only [Sx.Bz, Sx.Cont.n, Sx.app, Sx.nAdd, Sx.nSub, Sx.nMul, Sx.nPow, Sx.nDiv, Sx.nMod, Sx.iAdd, Sx.iSub, Sx.iMul, Sx.iNeg, Sx.iPow, Sx.iOf] at t ⊢; omega
   have : ((List.range a.length).all fun i => iLe ((a.getD i []).length : Int) 100) = false := by
    rw [Bool.eq_false_iff]
    intro h
    rw [List.all_eq_true] at h
    have := h x (List.mem_range.2 (by omega))
    rw [ht] at this
    cases this
   rw [this]
   exact ⟨rfl, trivial, trivial⟩
  ·have ht : iLe ((a.getD x []).length : Int) 100 = true := by simp only [Sx.Bz, Sx.Cont.n, Sx.app, Sx.nAdd, Sx.nSub, Sx.nMul, Sx.nPow, Sx.nDiv, Sx.nMod, Sx.iAdd, Sx.iSub, Sx.iMul, Sx.iNeg, Sx.iPow, Sx.iOf] at t ⊢; omega
   refine ⟨x + 1, ⟨by omega, fun i hi => ?_⟩, by simp only [Sx.app, Sx.nAdd, Sx.nSub, Sx.nMul, Sx.nPow, Sx.nDiv, Sx.nMod, Sx.iAdd, Sx.iSub, Sx.iMul, Sx.iNeg, Sx.iPow, Sx.iOf]; omega, ⟨rfl, trivial⟩, (by first | rfl | trivial), trivial⟩
   by_cases q : i = x
   ·rw [q]; exact ht
   ·exact hx.2 i (by omega)
 ·simp only [Sx.Bz, Sx.Cont.n, Sx.app, Sx.nAdd, Sx.nSub, Sx.nMul, Sx.nPow, Sx.nDiv, Sx.nMod, Sx.iAdd, Sx.iSub, Sx.iMul, Sx.iNeg, Sx.iPow, Sx.iOf] at c
  have : ((List.range a.length).all fun i => iLe ((a.getD i []).length : Int) 100) = true := by
   rw [List.all_eq_true]
   intro i hi
   rw [List.mem_range] at hi
   exact hx.2 i (by omega)
  rw [this]
  exact ⟨rfl, trivial, trivial⟩
theorem wpc_fewR (O : OO) (R : OB) (a : List (List Int)) (F : FO O) (hr : R = bO) (hS : SB O) : wpcI Try.prog (spG2 O R) Try.f9.ntmps [⟨Nat, [0], [], fun B k => [(3, .v (.int .i64 (k : Nat)))], fun B k => [], fun k => k ≤ a.length ∧ ∀ i, i < k → iLe ((a.getD i []).length : Int) 100 = true, fun k => a.length - k, 0⟩] (bodyOf Try.f9) 0 64 (envP (mks [.ros] [.rows a] 0).1 0) (mks [.ros] [.rows a] 0).2 (retP Try.prog Try.f9.results.toList 1 (⟨[.v (.bool (fwE a))], []⟩ : Post)) :=
 Eq.mpr (by kernel_rfl) (vc_fewR O R a F hr hS)
theorem ok_fewR (I : Sx.Interp) (O : OO) (hO : O = oo) (R : OB) (hR : R = bO) : Sx.SpecOK I Try.prog 9 (pspec [.ros] false (g_fewR O R)) := by
 refine spec_pI (spG2_ok I O hO R hR) (by kernel_rfl) (fun ds => match ds with | [.rows a] => [⟨Nat, [0], [], fun B k => [(3, .v (.int .i64 (k : Nat)))], fun B k => [], fun k => k ≤ a.length ∧ ∀ i, i < k → iLe ((a.getD i []).length : Int) 100 = true, fun k => a.length - k, 0⟩] | _ => []) Try.func9 (by kernel_rfl) (by kernel_rfl) rfl Try.ntmps9 (by decide) ?_ ?_
 ·intro ds p bs F h
  unfold g_fewR at h
  split at h
  ·rename_i a
   simp only [Option.some.injEq, Prod.mk.injEq] at h
   obtain ⟨_, _, rfl⟩ := h
   kernel_rfl
  ·cases h
 ·intro ds bs F hl h
  unfold g_fewR at h
  split at h
  ·rename_i a
   simp only [Option.some.injEq, Prod.mk.injEq, Bool.and_eq_true] at h
   obtain ⟨_, _, rfl⟩ := h
   exact wpc_fewR O R a (fo_oo O hO) hR (by subst hO; exact sb_oo) 
  ·cases h
def spG3 (O : OO) (R : OB) (f : FuncId) : Option Sx.Spec := match f with
 | 10 => some (altS isNilP (pspec [.v] false (g_gonil O R)) (pspec [.obj 28 [.own 5 .u8, .v, .v]] true (g_gopen O R)))
 | 16 => some (pspec [.obj 74 [.obj 28 [.own 5 .u8, .v, .v], .ownps 22, .v, .v], .ro .u8] true (g_gapp O R))
 | 13 => some (pspec [.obj 74 [.obj 28 [.own 5 .u8, .v, .v], .ownps 22, .v, .v]] true (g_grows O R))
 | 14 => some (pspec [.robj 74 [.robj 28 [.ro .u8, .v, .v], .ros, .v, .v]] false (g_gbytes O R))
 | 20 => some (pspec [.robj 74 [.robj 28 [.ro .u8, .v, .v], .ros, .v, .v]] false (g_gbroken O R))
 | 12 => some (pspec [.ros, .ros] false (g_smR O R))
 | 9 => some (pspec [.ros] false (g_fewR O R))
 | f => spG2 O R f
theorem spG3_ok (I : Sx.Interp) (O : OO) (hO : O = oo) (R : OB) (hR : R = bO) : ∀ f s, spG3 O R f = some s → Sx.SpecOK I Try.prog f s := by
 intro f s h
 unfold spG3 at h
 split at h
 · cases h; exact altS_ok (ok_gonil I O hO R hR) (ok_gopen I O hO R hR)
 · cases h; exact ok_gapp I O hO R hR
 · cases h; exact ok_grows I O hO R hR
 · cases h; exact ok_gbytes I O hO R hR
 · cases h; exact ok_gbroken I O hO R hR
 · cases h; exact ok_smR I O hO R hR
 · cases h; exact ok_fewR I O hO R hR
 ·exact spG2_ok I O hO R hR _ s h
def g_small44 (l : List Value) : Option (Bool × Value) := match l with
 | [] => some (true, .bool true)
 | _ => none
theorem small44_calls (w : World) : Calls Try.prog 8 (List.toArray []) w fun e w' => e = .returned (.bool true) ∧ Fr (fun _ => False) w w' :=
 calls_real (I := I0) (spG3_ok I0 oo rfl bO rfl) (by kernel_rfl) [] Try.func8 (by kernel_rfl) rfl Try.ntmps8 (by decide) (Eq.mpr (by kernel_rfl : _ = (Value.bool true = Value.bool true)) rfl) w
theorem ok_small44 (I : Sx.Interp) : Sx.SpecOK I Try.prog 8 (Sx.vspec g_small44) := by
 refine Sx.spec_of_calls Try.func8 (by kernel_rfl) (by kernel_rfl) ?_
 intro l v hg w
 unfold g_small44 at hg
 split at hg
 ·simp only [Option.some.injEq, Prod.mk.injEq, true_and] at hg
  subst hg
  exact small44_calls w
 ·cases hg
def spG4 (O : OO) (R : OB) (f : FuncId) : Option Sx.Spec := match f with
 | 8 => some (Sx.vspec g_small44)
 | f => spG3 O R f
theorem spG4_ok (I : Sx.Interp) (O : OO) (hO : O = oo) (R : OB) (hR : R = bO) : ∀ f s, spG4 O R f = some s → Sx.SpecOK I Try.prog f s := by
 intro f s h
 unfold spG4 at h
 split at h
 · cases h; exact ok_small44 I
 ·exact spG3_ok I O hO R hR _ s h
def g_gtorn (O : OO) (R : OB) (ds : List Dt) : Option (Bool × List Bool × (List Bool → Post)) := match ds with
 | [.rows l, .v (.int .i64 n)] => some ((l.all byB), [], fun _ => ⟨[.v (.bool true)], []⟩)
 | _ => none
set_option maxHeartbeats 4000000 in
theorem vc_gtorn (O : OO) (R : OB) (l : List (List Int)) (n : Int) (F : FO O) (hr : R = bO) (hS : SB O) (h0 : (l.all byB) = true) :
 If (!fwE l) (Value.bool true = Value.bool true ∧ True ∧ True) (If (iLt n 0) (Value.bool true = Value.bool true ∧ True ∧ True) ((∃ (x : Nat), x ≤ l.length ∧ (Value.int .i64 0 =
  Value.int .i64 (iOf x) ∧ Value.int .i64 n = Value.int .i64 n ∧ Value.bool true = Value.bool true ∧ True) ∧ EqI [] (tnB O R l x) ∧ EqI [] (tnE O R l x) ∧ Res.ros l = Res.ros l ∧
  True) ∧ ∀ (x : Nat), x ≤ l.length → If (iLt (iOf x) (iOf l.length)) (If (iLe 0 (iOf x) && (iOf x).toNat.blt l.length) (If (true && !false && Nat.beq 1 1 && Nat.beq 0 0 && (iOf
  x).toNat.blt l.length) (If ((l.getD (iOf x).toNat []).length.ble 1000000) (If ((nMul (nAdd (tnB O R l x).length (lgRow O R (l.getD (iOf x).toNat [])).length) 1).ble 140737488355328
  && (nAdd (tnB O R l x).length (lgRow O R (l.getD (iOf x).toNat [])).length).ble 9223372036854775807) (If ((nMul (nAdd (tnE O R l x).length 1) 8).ble 140737488355328 && (nAdd (tnE O
  R l x).length 1).ble 9223372036854775807) (∃ (x' : Nat), x' ≤ l.length ∧ (nSub l.length x').succ ≤ nSub l.length x ∧ (Value.int .i64 (IntKind.i64.wrap (iAdd (iOf x) 1)) = Value.int
  .i64 (iOf x') ∧ Value.int .i64 n = Value.int .i64 n ∧ Value.bool true = Value.bool true ∧ True) ∧ EqI (app (tnB O R l x) (lgRow O R (l.getD (iOf x).toNat []))) (tnB O R l x') ∧ EqI
  (app (tnE O R l x) [iOf (app (tnB O R l x) (lgRow O R (l.getD (iOf x).toNat []))).length]) (tnE O R l x') ∧ Res.ros l = Res.ros l ∧ True) False) False) False) False) False) (If (iLt
  (iOf (Cont.ints .u8 (tnB O R l x)).n) n) (Value.bool true = Value.bool true ∧ True ∧ True) (If (iLe 0 0 && iLe 0 n && iLe n (iOf (Cont.ints .u8 (tnB O R l x)).n)) (If ((nMul (nAdd 0
  (List.take (nSub n.toNat 0) (List.drop 0 (tnB O R l x))).length) 1).ble 140737488355328 && (nAdd 0 (List.take (nSub n.toNat 0) (List.drop 0 (tnB O R l x))).length).ble
  9223372036854775807) (If ((app [] (List.take (nSub n.toNat 0) (List.drop 0 (tnB O R l x)))).length.ble 1000000 && byB (app [] (List.take (nSub n.toNat 0) (List.drop 0 (tnB O R l
  x))))) ((∃ (x_1 : Nat), (x_1 ≤ l.length ∧ ∀ (j : Nat), j.succ ≤ x_1 → iLe (iOf (tnB O R l (nAdd j 1)).length) n = true) ∧ (Value.int .i64 0 = Value.int .i64 (iOf x_1) ∧ Value.int
  .i64 n = Value.int .i64 n ∧ Value.bool true = Value.bool true ∧ Value.int .i64 0 = Value.int .i64 0 ∧ True) ∧ (Value.int .i64 (iOf (lgEnd O R (app [] (List.take (nSub n.toNat 0)
  (List.drop 0 (tnB O R l x)))))) = Value.int .i64 (iOf (lgEnd O R (app [] (List.take (nSub n.toNat 0) (List.drop 0 (tnB O R l x)))))) ∧ Value.bool false = Value.bool false) ∧ EqII
  (lgRows O R (app [] (List.take (nSub n.toNat 0) (List.drop 0 (tnB O R l x))))) (lgRows O R (app [] (List.take (nSub n.toNat 0) (List.drop 0 (tnB O R l x))))) ∧ (Value.int .i64 (iNeg
  1) = Value.int .i64 (iNeg 1) ∧ Value.bool false = Value.bool false) ∧ EqI (List.take (lgEnd O R (app [] (List.take (nSub n.toNat 0) (List.drop 0 (tnB O R l x))))) (app [] (List.take
  (nSub n.toNat 0) (List.drop 0 (tnB O R l x))))) (List.take (lgEnd O R (app [] (List.take (nSub n.toNat 0) (List.drop 0 (tnB O R l x))))) (app [] (List.take (nSub n.toNat 0)
  (List.drop 0 (tnB O R l x))))) ∧ EqI (tnB O R l x) (tnB O R l x) ∧ EqI (tnE O R l x) (tnE O R l x) ∧ Res.ros l = Res.ros l ∧ True) ∧ ∀ (x_1 : Nat), (x_1 ≤ l.length ∧ ∀ (j : Nat),
  j.succ ≤ x_1 → iLe (iOf (tnB O R l (nAdd j 1)).length) n = true) → If (iLt (iOf x_1) (iOf (Cont.ints .i64 (tnE O R l x)).n)) (If (iLe 0 (iOf x_1) && (iOf x_1).toNat.blt (tnE O R l
  x).length) (If (true && Nat.beq 1 1 && (iOf x_1).toNat.blt (tnE O R l x).length) (If (iLe ((tnE O R l x).getD (iOf x_1).toNat 0) n) (∃ (x' : Nat), (x' ≤ l.length ∧ ∀ (j : Nat),
  j.succ ≤ x' → iLe (iOf (tnB O R l (nAdd j 1)).length) n = true) ∧ (nSub l.length x').succ ≤ nSub l.length x_1 ∧ (Value.int .i64 (IntKind.i64.wrap (iAdd (iOf x_1) 1)) = Value.int
  .i64 (iOf x') ∧ Value.int .i64 n = Value.int .i64 n ∧ Value.bool true = Value.bool true ∧ Value.int .i64 0 = Value.int .i64 0 ∧ True) ∧ (Value.int .i64 (iOf (lgEnd O R (app []
  (List.take (nSub n.toNat 0) (List.drop 0 (tnB O R l x)))))) = Value.int .i64 (iOf (lgEnd O R (app [] (List.take (nSub n.toNat 0) (List.drop 0 (tnB O R l x)))))) ∧ Value.bool false =
  Value.bool false) ∧ EqII (lgRows O R (app [] (List.take (nSub n.toNat 0) (List.drop 0 (tnB O R l x))))) (lgRows O R (app [] (List.take (nSub n.toNat 0) (List.drop 0 (tnB O R l
  x))))) ∧ (Value.int .i64 (iNeg 1) = Value.int .i64 (iNeg 1) ∧ Value.bool false = Value.bool false) ∧ EqI (List.take (lgEnd O R (app [] (List.take (nSub n.toNat 0) (List.drop 0 (tnB
  O R l x))))) (app [] (List.take (nSub n.toNat 0) (List.drop 0 (tnB O R l x))))) (List.take (lgEnd O R (app [] (List.take (nSub n.toNat 0) (List.drop 0 (tnB O R l x))))) (app []
  (List.take (nSub n.toNat 0) (List.drop 0 (tnB O R l x))))) ∧ EqI (tnB O R l x) (tnB O R l x) ∧ EqI (tnE O R l x) (tnE O R l x) ∧ Res.ros l = Res.ros l ∧ True) (If ((lgRows O R (app
  [] (List.take (nSub n.toNat 0) (List.drop 0 (tnB O R l x))))).length.ble 1000000 && (lgRows O R (app [] (List.take (nSub n.toNat 0) (List.drop 0 (tnB O R l x))))).all fun (x : List
  Int) => x.length.ble 1000000) (If (iEq 0 0 && iLe 0 (iOf x_1) && iLe (iOf x_1) (iOf l.length)) (If ((lgRows O R (app [] (List.take (nSub n.toNat 0) (List.drop 0 (tnB O R l
  x))))).length.ble 1000000) (If (!sameR (lgRows O R (app [] (List.take (nSub n.toNat 0) (List.drop 0 (tnB O R l x))))) (List.take (iOf x_1).toNat l)) (Value.bool false = Value.bool
  true ∧ True ∧ True) (If (iBeq (iOf (List.take (lgEnd O R (app [] (List.take (nSub n.toNat 0) (List.drop 0 (tnB O R l x))))) (app [] (List.take (nSub n.toNat 0) (List.drop 0 (tnB O R
  l x))))).length) (iOf (lgEnd O R (app [] (List.take (nSub n.toNat 0) (List.drop 0 (tnB O R l x))))))) (If ((List.take (lgEnd O R (app [] (List.take (nSub n.toNat 0) (List.drop 0
  (tnB O R l x))))) (app [] (List.take (nSub n.toNat 0) (List.drop 0 (tnB O R l x))))).length.ble 4194304 && Nat.ble 1 1000000 && (lgRows O R (app [] (List.take (nSub n.toNat 0)
  (List.drop 0 (tnB O R l x))))).length.ble 1000000 && (iLe (iNeg 9223372036854775808) (iNeg 1) && iLe (iNeg 1) 9223372036854775807) && (iLe 0 (iOf (lgEnd O R (app [] (List.take (nSub
  n.toNat (Int.toNat 0)) (List.drop (Int.toNat 0) (tnB O R l x)))))) && iLe (iOf (lgEnd O R (app [] (List.take (nSub n.toNat (Int.toNat 0)) (List.drop (Int.toNat 0) (tnB O R l x))))))
  4194304)) (If (iBeq (apE O R (List.take (lgEnd O R (app [] (List.take (nSub n.toNat 0) (List.drop 0 (tnB O R l x))))) (app [] (List.take (nSub n.toNat 0) (List.drop 0 (tnB O R l
  x))))) (iNeg 1) false false (iOf (lgEnd O R (app [] (List.take (nSub n.toNat 0) (List.drop 0 (tnB O R l x)))))) [120]) 0) (If ((apX O R (List.take (lgEnd O R (app [] (List.take
  (nSub n.toNat 0) (List.drop 0 (tnB O R l x))))) (app [] (List.take (nSub n.toNat 0) (List.drop 0 (tnB O R l x))))) (iNeg 1) false false (iOf (lgEnd O R (app [] (List.take (nSub
  n.toNat 0) (List.drop 0 (tnB O R l x)))))) [120] (lgRows O R (app [] (List.take (nSub n.toNat 0) (List.drop 0 (tnB O R l x)))))).length.ble 1000000 && (apX O R (List.take (lgEnd O R
  (app [] (List.take (nSub n.toNat 0) (List.drop 0 (tnB O R l x))))) (app [] (List.take (nSub n.toNat 0) (List.drop 0 (tnB O R l x))))) (iNeg 1) false false (iOf (lgEnd O R (app []
  (List.take (nSub n.toNat 0) (List.drop 0 (tnB O R l x)))))) [120] (lgRows O R (app [] (List.take (nSub n.toNat 0) (List.drop 0 (tnB O R l x)))))).all fun (x : List Int) =>
  x.length.ble 1000000) (Value.bool (iBeq (iOf (apX O R (List.take (lgEnd O R (app [] (List.take (nSub n.toNat 0) (List.drop 0 (tnB O R l x))))) (app [] (List.take (nSub n.toNat 0)
  (List.drop 0 (tnB O R l x))))) (iNeg 1) false false (iOf (lgEnd O R (app [] (List.take (nSub n.toNat 0) (List.drop 0 (tnB O R l x)))))) [120] (lgRows O R (app [] (List.take (nSub
  n.toNat 0) (List.drop 0 (tnB O R l x)))))).length) (IntKind.i64.wrap (iAdd (iOf x_1) 1))) = Value.bool true ∧ True ∧ True) False) (Value.bool false = Value.bool true ∧ True ∧ True))
  False) (Value.bool false = Value.bool true ∧ True ∧ True))) False) False) False)) False) False) (If ((lgRows O R (app [] (List.take (nSub n.toNat 0) (List.drop 0 (tnB O R l
  x))))).length.ble 1000000 && (lgRows O R (app [] (List.take (nSub n.toNat 0) (List.drop 0 (tnB O R l x))))).all fun (x : List Int) => x.length.ble 1000000) (If (iEq 0 0 && iLe 0
  (iOf x_1) && iLe (iOf x_1) (iOf l.length)) (If ((lgRows O R (app [] (List.take (nSub n.toNat 0) (List.drop 0 (tnB O R l x))))).length.ble 1000000) (If (!sameR (lgRows O R (app []
  (List.take (nSub n.toNat 0) (List.drop 0 (tnB O R l x))))) (List.take (iOf x_1).toNat l)) (Value.bool false = Value.bool true ∧ True ∧ True) (If (iBeq (iOf (List.take (lgEnd O R
  (app [] (List.take (nSub n.toNat 0) (List.drop 0 (tnB O R l x))))) (app [] (List.take (nSub n.toNat 0) (List.drop 0 (tnB O R l x))))).length) (iOf (lgEnd O R (app [] (List.take
  (nSub n.toNat 0) (List.drop 0 (tnB O R l x))))))) (If ((List.take (lgEnd O R (app [] (List.take (nSub n.toNat 0) (List.drop 0 (tnB O R l x))))) (app [] (List.take (nSub n.toNat 0)
  (List.drop 0 (tnB O R l x))))).length.ble 4194304 && Nat.ble 1 1000000 && (lgRows O R (app [] (List.take (nSub n.toNat 0) (List.drop 0 (tnB O R l x))))).length.ble 1000000 && (iLe
  (iNeg 9223372036854775808) (iNeg 1) && iLe (iNeg 1) 9223372036854775807) && (iLe 0 (iOf (lgEnd O R (app [] (List.take (nSub n.toNat (Int.toNat 0)) (List.drop (Int.toNat 0) (tnB O R
  l x)))))) && iLe (iOf (lgEnd O R (app [] (List.take (nSub n.toNat (Int.toNat 0)) (List.drop (Int.toNat 0) (tnB O R l x)))))) 4194304)) (If (iBeq (apE O R (List.take (lgEnd O R (app
  [] (List.take (nSub n.toNat 0) (List.drop 0 (tnB O R l x))))) (app [] (List.take (nSub n.toNat 0) (List.drop 0 (tnB O R l x))))) (iNeg 1) false false (iOf (lgEnd O R (app []
  (List.take (nSub n.toNat 0) (List.drop 0 (tnB O R l x)))))) [120]) 0) (If ((apX O R (List.take (lgEnd O R (app [] (List.take (nSub n.toNat 0) (List.drop 0 (tnB O R l x))))) (app []
  (List.take (nSub n.toNat 0) (List.drop 0 (tnB O R l x))))) (iNeg 1) false false (iOf (lgEnd O R (app [] (List.take (nSub n.toNat 0) (List.drop 0 (tnB O R l x)))))) [120] (lgRows O R
  (app [] (List.take (nSub n.toNat 0) (List.drop 0 (tnB O R l x)))))).length.ble 1000000 && (apX O R (List.take (lgEnd O R (app [] (List.take (nSub n.toNat 0) (List.drop 0 (tnB O R l
  x))))) (app [] (List.take (nSub n.toNat 0) (List.drop 0 (tnB O R l x))))) (iNeg 1) false false (iOf (lgEnd O R (app [] (List.take (nSub n.toNat 0) (List.drop 0 (tnB O R l x))))))
  [120] (lgRows O R (app [] (List.take (nSub n.toNat 0) (List.drop 0 (tnB O R l x)))))).all fun (x : List Int) => x.length.ble 1000000) (Value.bool (iBeq (iOf (apX O R (List.take
  (lgEnd O R (app [] (List.take (nSub n.toNat 0) (List.drop 0 (tnB O R l x))))) (app [] (List.take (nSub n.toNat 0) (List.drop 0 (tnB O R l x))))) (iNeg 1) false false (iOf (lgEnd O R
  (app [] (List.take (nSub n.toNat 0) (List.drop 0 (tnB O R l x)))))) [120] (lgRows O R (app [] (List.take (nSub n.toNat 0) (List.drop 0 (tnB O R l x)))))).length) (IntKind.i64.wrap
  (iAdd (iOf x_1) 1))) = Value.bool true ∧ True ∧ True) False) (Value.bool false = Value.bool true ∧ True ∧ True)) False) (Value.bool false = Value.bool true ∧ True ∧ True))) False)
  False) False)) False) False) False)))) := by
 have hB : ∀ x ∈ l, byB x = true := fun x hx => List.all_eq_true.1 h0 x hx
 have hn : ∀ k : Nat, (iOf k).toNat = k := fun k => by simp only [Sx.app, Sx.nAdd, Sx.nSub, Sx.nMul, Sx.nPow, Sx.nDiv, Sx.nMod, Sx.iAdd, Sx.iSub, Sx.iMul, Sx.iNeg, Sx.iPow, Sx.iOf, Int.toNat_natCast]
 simp only [hn]
 refine Sx.if_both (fun _ => ⟨(by first | rfl | trivial), trivial, trivial⟩) (fun hf => Sx.if_both (fun _ => ⟨(by first | rfl | trivial), trivial, trivial⟩) (fun n0 => ?_))
 obtain ⟨l20, hL⟩ := few_all ((Bool.not_eq_false' _).mp hf)
 simp only [Sx.Bz, Sx.Cont.n] at n0
 have hrl : ∀ x : List Int, x.length ≤ 100 → (lgRow O R x).length ≤ 118 := fun x hx => by
  have k1 := lg_len (O := O) hr x
  have k2 := row_len hr (x.length : Int)
  omega
 have hsz : ∀ k, (tnB O R l k).length ≤ 2360 := fun k => by
  have := rowsB_le hrl (l := l.take k) (fun x hx => hL x (List.mem_of_mem_take hx))
  have e : (rowsB O R (l.take k)).length = (tnB O R l k).length := rfl
  rw [List.length_take] at this
  omega
 have hEl : ∀ k, (tnE O R l k).length = k := fun k => by unfold tnE; rw [List.length_map, List.length_range]
 refine ⟨⟨0, Nat.zero_le _, ⟨rfl, (by first | rfl | trivial), (by first | rfl | trivial), trivial⟩, rfl, rfl, (by first | rfl | trivial), trivial⟩, fun x hx => ?_⟩
 refine Sx.if_both (fun d => ?_) (fun d => ?_)
 ·simp only [Sx.Bz, Sx.Cont.n, Sx.app, Sx.nAdd, Sx.nSub, Sx.nMul, Sx.nPow, Sx.nDiv, Sx.nMod, Sx.iAdd, Sx.iSub, Sx.iMul, Sx.iNeg, Sx.iPow, Sx.iOf] at d
  have hb : x.blt l.length = true := by rw [Nat.blt_eq]; omega
  have w1 : IntKind.i64.wrap (iAdd (iOf x) 1) = iOf (x + 1) := by simp only [Sx.app, Sx.nAdd, Sx.nSub, Sx.nMul, Sx.nPow, Sx.nDiv, Sx.nMod, Sx.iAdd, Sx.iSub, Sx.iMul, Sx.iNeg, Sx.iPow, Sx.iOf]; rw [IntKind.wrap_i64]; omega
  have hg : (l.getD x []).length ≤ 100 := by
   rw [List.getD_eq_getElem?_getD, List.getElem?_eq_getElem (show x < l.length by omega)]
   exact hL _ (List.getElem_mem _)
  have e1 : app (tnB O R l x) (lgRow O R (l.getD x [])) = tnB O R l (x + 1) := (tnB_succ (show x < l.length by omega)).symm
  have e2 : app (tnE O R l x) [iOf (tnB O R l (x + 1)).length] = tnE O R l (x + 1) := by
   simp only [Sx.app, Sx.nAdd, Sx.nSub, Sx.nMul, Sx.nPow, Sx.nDiv, Sx.nMod, Sx.iAdd, Sx.iSub, Sx.iMul, Sx.iNeg, Sx.iPow, Sx.iOf]
   unfold tnE
   rw [List.range_succ, List.map_append]; rfl
  have k1 := hsz x
  have k2 := hrl _ hg
  have k3 := hEl x
  rw [hb, w1, e1, e2]
  refine Sx.if_true (by simp only [Sx.Bz, Sx.Cont.n, Sx.app, Sx.nAdd, Sx.nSub, Sx.nMul, Sx.nPow, Sx.nDiv, Sx.nMod, Sx.iAdd, Sx.iSub, Sx.iMul, Sx.iNeg, Sx.iPow, Sx.iOf]; exact ⟨by omega, trivial⟩) (Sx.if_true rfl (Sx.if_true (by simp only [Sx.Bz, Sx.Cont.n]; omega) (Sx.if_true (by simp only [Sx.Bz, Sx.Cont.n, Sx.app, Sx.nAdd, Sx.nSub, Sx.nMul, Sx.nPow, Sx.nDiv, Sx.nMod, Sx.iAdd, Sx.iSub, Sx.iMul, Sx.iNeg, Sx.iPow, Sx.iOf]; omega) (Sx.if_true (by simp only [Sx.Bz, Sx.Cont.n, Sx.app, Sx.nAdd, Sx.nSub, Sx.nMul, Sx.nPow, Sx.nDiv, Sx.nMod, Sx.iAdd, Sx.iSub, Sx.iMul, Sx.iNeg, Sx.iPow, Sx.iOf]; omega) ?_))))
  exact ⟨x + 1, by omega, by simp only [Sx.app, Sx.nAdd, Sx.nSub, Sx.nMul, Sx.nPow, Sx.nDiv, Sx.nMod, Sx.iAdd, Sx.iSub, Sx.iMul, Sx.iNeg, Sx.iPow, Sx.iOf]; omega, ⟨rfl, (by first | rfl | trivial), (by first | rfl | trivial), trivial⟩, rfl, rfl, (by first | rfl | trivial), trivial⟩
 ·simp only [Sx.Bz, Sx.Cont.n, Sx.app, Sx.nAdd, Sx.nSub, Sx.nMul, Sx.nPow, Sx.nDiv, Sx.nMod, Sx.iAdd, Sx.iSub, Sx.iMul, Sx.iNeg, Sx.iPow, Sx.iOf] at d
  obtain rfl : x = l.length := by omega
  refine Sx.if_both (fun _ => ⟨(by first | rfl | trivial), trivial, trivial⟩) (fun c => ?_)
  simp only [Sx.Bz, Sx.Cont.n, Sx.app, Sx.nAdd, Sx.nSub, Sx.nMul, Sx.nPow, Sx.nDiv, Sx.nMod, Sx.iAdd, Sx.iSub, Sx.iMul, Sx.iNeg, Sx.iPow, Sx.iOf] at c
  have eT1 : List.take (nSub n.toNat 0) (List.drop 0 (tnB O R l l.length)) = (tnB O R l l.length).take n.toNat := by simp only [Sx.app, Sx.nAdd, Sx.nSub, Sx.nMul, Sx.nPow, Sx.nDiv, Sx.nMod, Sx.iAdd, Sx.iSub, Sx.iMul, Sx.iNeg, Sx.iPow, Sx.iOf, Nat.sub_zero, List.drop_zero]
  have eT2 : List.take (nSub n.toNat (Int.toNat 0)) (List.drop (Int.toNat 0) (tnB O R l l.length)) = (tnB O R l l.length).take n.toNat := eT1
  have eT3 : ∀ y : List Int, app [] y = y := fun _ => rfl
  simp only [eT1, eT2, eT3]
  have hDl : ((tnB O R l l.length).take n.toNat).length = n.toNat := by rw [List.length_take]; omega
  have hDb : byB ((tnB O R l l.length).take n.toNat) = true := byB_take (tnB_byB hS hr fun x hx => hB x (List.mem_of_mem_take hx)) _
  have k1 := hsz l.length
  have k2 := hEl l.length
  generalize hD : (tnB O R l l.length).take n.toNat = D at *
  refine Sx.if_true (by simp only [Sx.Bz, Sx.Cont.n, Sx.app, Sx.nAdd, Sx.nSub, Sx.nMul, Sx.nPow, Sx.nDiv, Sx.nMod, Sx.iAdd, Sx.iSub, Sx.iMul, Sx.iNeg, Sx.iPow, Sx.iOf]; exact ⟨⟨by omega, by omega⟩, by omega⟩) (Sx.if_true (by simp only [Sx.Bz, Sx.Cont.n, Sx.app, Sx.nAdd, Sx.nSub, Sx.nMul, Sx.nPow, Sx.nDiv, Sx.nMod, Sx.iAdd, Sx.iSub, Sx.iMul, Sx.iNeg, Sx.iPow, Sx.iOf]; omega) (Sx.if_true (by rw [hDb, Bool.and_true]; simp only [Sx.Bz, Sx.Cont.n]; omega) ?_))
  refine ⟨⟨0, ⟨Nat.zero_le _, fun j hj => absurd hj (Nat.not_lt_zero _)⟩, ⟨rfl, (by first | rfl | trivial), (by first | rfl | trivial), (by first | rfl | trivial), trivial⟩, ⟨(by first | rfl | trivial), (by first | rfl | trivial)⟩, (by first | rfl | trivial), ⟨(by first | rfl | trivial), (by first | rfl | trivial)⟩, (by first | rfl | trivial), (by first | rfl | trivial), (by first | rfl | trivial), (by first | rfl | trivial), trivial⟩, fun y hy => ?_⟩
  obtain ⟨hm, hj⟩ := hy
  have h1 : ∀ j, j < y → (tnB O R l (j + 1)).length ≤ n.toNat := fun j q => by
   have := hj j q
   simp only [Sx.Bz, Sx.Cont.n, Sx.app, Sx.nAdd, Sx.nSub, Sx.nMul, Sx.nPow, Sx.nDiv, Sx.nMod, Sx.iAdd, Sx.iSub, Sx.iMul, Sx.iNeg, Sx.iPow, Sx.iOf] at this
   omega
  refine Sx.if_both (fun d2 => ?_) (fun d2 => ?_)
  ·simp only [Sx.Bz, Sx.Cont.n, Sx.app, Sx.nAdd, Sx.nSub, Sx.nMul, Sx.nPow, Sx.nDiv, Sx.nMod, Sx.iAdd, Sx.iSub, Sx.iMul, Sx.iNeg, Sx.iPow, Sx.iOf, k2] at d2
   have hb : y.blt (tnE O R l l.length).length = true := by rw [Nat.blt_eq]; omega
   have hg : (tnE O R l l.length).getD y 0 = ((tnB O R l (y + 1)).length : Int) := by
    unfold tnE
    rw [List.getD_eq_getElem?_getD, List.getElem?_map, List.getElem?_range (by omega)]; rfl
   have w1 : IntKind.i64.wrap (iAdd (iOf y) 1) = iOf (y + 1) := by simp only [Sx.app, Sx.nAdd, Sx.nSub, Sx.nMul, Sx.nPow, Sx.nDiv, Sx.nMod, Sx.iAdd, Sx.iSub, Sx.iMul, Sx.iNeg, Sx.iPow, Sx.iOf]; rw [IntKind.wrap_i64]; omega
   rw [hb, hg]
   refine Sx.if_true (by simp only [Sx.Bz, Sx.Cont.n, Sx.app, Sx.nAdd, Sx.nSub, Sx.nMul, Sx.nPow, Sx.nDiv, Sx.nMod, Sx.iAdd, Sx.iSub, Sx.iMul, Sx.iNeg, Sx.iPow, Sx.iOf]; exact ⟨by omega, trivial⟩) (Sx.if_true rfl (Sx.if_both (fun t => ?_) (fun t => ?_)))
   ·refine ⟨y + 1, ⟨by omega, fun j q => ?_⟩, by simp only [Sx.app, Sx.nAdd, Sx.nSub, Sx.nMul, Sx.nPow, Sx.nDiv, Sx.nMod, Sx.iAdd, Sx.iSub, Sx.iMul, Sx.iNeg, Sx.iPow, Sx.iOf]; omega, ⟨by rw [w1], (by first | rfl | trivial), (by first | rfl | trivial), (by first | rfl | trivial), trivial⟩, ⟨(by first | rfl | trivial), (by first | rfl | trivial)⟩, (by first | rfl | trivial), ⟨(by first | rfl | trivial), (by first | rfl | trivial)⟩, (by first | rfl | trivial), (by first | rfl | trivial), (by first | rfl | trivial), (by first | rfl | trivial), trivial⟩
    by_cases e : j = y
    ·rw [e]; exact t
    ·exact hj j (by omega)
   ·have h2 : y = l.length ∨ n.toNat < (tnB O R l (y + 1)).length := by
     simp only [Sx.Bz, Sx.Cont.n, Sx.app, Sx.nAdd, Sx.nSub, Sx.nMul, Sx.nPow, Sx.nDiv, Sx.nMod, Sx.iAdd, Sx.iSub, Sx.iMul, Sx.iNeg, Sx.iPow, Sx.iOf] at t
     right; omega
    obtain ⟨f1, f2, f3⟩ := torn_found hS hr hB hL hm h1 h2
    rw [hD] at f1 f2
    have f4 := rowsB_le hrl (l := l.take y) (fun x hx => hL x (List.mem_of_mem_take hx))
    have f5 : (tnB O R l y).length ≤ 2360 := by
     have : (rowsB O R (l.take y)).length = (tnB O R l y).length := rfl
     rw [List.length_take] at f4; omega
    simp only [f1, f2, hn]
    have hall : ∀ z : List (List Int), (∀ x ∈ z, x.length ≤ 100) → (z.all fun (x : List Int) => x.length.ble 1000000) = true := fun z hz => by
     rw [List.all_eq_true]
     intro x hx
     rw [Nat.ble_eq]
     have := hz x hx
     omega
    have hlt : (l.take y).length ≤ 20 := by rw [List.length_take]; omega
    have hT : ∀ x ∈ l.take y, x.length ≤ 100 := fun x hx => hL x (List.mem_of_mem_take hx)
    have eT : (D.take (tnB O R l y).length).length = (tnB O R l y).length := by rw [List.length_take]; omega
    have hE : apE O R (D.take (tnB O R l y).length) (iNeg 1) false false (iOf (tnB O R l y).length) [120] = 0 := by
     have k1 := lg_len (O := O) hr [120]
     have k2 := row_len hr (([120] : List Int).length : Int)
     have k3 : ([120] : List Int).length = 1 := rfl
     have c1 : agN O R [120] (iOf (tnB O R l y).length) = false := by
      unfold agN
      rw [show iLt 65536 (([120] : List Int).length : Int) = false from rfl, cond_false]
      simp only [Sx.Bz, Sx.Cont.n, Sx.app, Sx.nAdd, Sx.nSub, Sx.nMul, Sx.nPow, Sx.nDiv, Sx.nMod, Sx.iAdd, Sx.iSub, Sx.iMul, Sx.iNeg, Sx.iPow, Sx.iOf]; omega
     have c2 : wrO (D.take (tnB O R l y).length) (lgRow O R [120]) (iNeg 1) false = true := by
      have q : wrN (D.take (tnB O R l y).length) (lgRow O R [120]) false = false := by
       unfold wrN
       rw [cond_false, eT]
       simp only [Sx.Bz, Sx.Cont.n]; omega
      unfold wrO wrK
      rw [q, show iLt (iNeg 1) 0 = true from rfl, cond_true, cond_false, show Nat.blt (lgRow O R [120]).length (lgRow O R [120]).length = false by rw [Bool.eq_false_iff, Ne, Nat.blt_eq]; omega]; rfl
     unfold apE
     rw [c1, c2]; rfl
    have hX : apX O R (D.take (tnB O R l y).length) (iNeg 1) false false (iOf (tnB O R l y).length) [120] (l.take y) = l.take y ++ [[120]] := by
     unfold apX
     rw [hE]; rfl
    have w9 : IntKind.i64.wrap (iAdd (iOf y) 1) = iOf (y + 1) := by simp only [Sx.app, Sx.nAdd, Sx.nSub, Sx.nMul, Sx.nPow, Sx.nDiv, Sx.nMod, Sx.iAdd, Sx.iSub, Sx.iMul, Sx.iNeg, Sx.iPow, Sx.iOf]; rw [IntKind.wrap_i64]; omega
    have e0 : (List.take (tnB O R l y).length D).length = (tnB O R l y).length := eT
    refine Sx.if_true (by rw [hall _ hT]; simp only [Sx.Bz, Sx.Cont.n]; exact ⟨by omega, trivial⟩) (Sx.if_true (by simp only [Sx.Bz, Sx.Cont.n, Sx.app, Sx.nAdd, Sx.nSub, Sx.nMul, Sx.nPow, Sx.nDiv, Sx.nMod, Sx.iAdd, Sx.iSub, Sx.iMul, Sx.iNeg, Sx.iPow, Sx.iOf, iEq]; exact ⟨⟨by decide, by omega⟩, by omega⟩) (Sx.if_true (by simp only [Sx.Bz, Sx.Cont.n]; omega) (Sx.if_false (by rw [sameR_refl]; rfl) (Sx.if_true (by rw [e0]; simp only [Sx.Bz, Sx.Cont.n]) (Sx.if_true (by rw [e0]; simp only [Sx.Bz, Sx.Cont.n, Sx.app, Sx.nAdd, Sx.nSub, Sx.nMul, Sx.nPow, Sx.nDiv, Sx.nMod, Sx.iAdd, Sx.iSub, Sx.iMul, Sx.iNeg, Sx.iPow, Sx.iOf]; omega) (Sx.if_true (by rw [hE]; rfl) (Sx.if_true (by rw [hX]; simp only [Bool.and_eq_true, Nat.ble_eq]; exact ⟨by rw [List.length_append]; simp only [List.length_cons, List.length_nil]; omega, hall _ (fun x hx => by
      rcases List.mem_append.1 hx with hx | hx
      ·exact hT x hx
      ·rw [List.mem_singleton] at hx; rw [hx]; decide)⟩) ⟨?_, trivial, trivial⟩)))))))
    rw [hX, w9]
    have : iBeq (iOf (l.take y ++ [[120]]).length) (iOf (y + 1)) = true := by
     simp only [Sx.Bz, Sx.Cont.n, Sx.app, Sx.nAdd, Sx.nSub, Sx.nMul, Sx.nPow, Sx.nDiv, Sx.nMod, Sx.iAdd, Sx.iSub, Sx.iMul, Sx.iNeg, Sx.iPow, Sx.iOf, List.length_append, List.length_take, List.length_cons, List.length_nil]; omega
    rw [this]
  ·simp only [Sx.Bz, Sx.Cont.n, Sx.app, Sx.nAdd, Sx.nSub, Sx.nMul, Sx.nPow, Sx.nDiv, Sx.nMod, Sx.iAdd, Sx.iSub, Sx.iMul, Sx.iNeg, Sx.iPow, Sx.iOf, k2] at d2
   have h2 : y = l.length ∨ n.toNat < (tnB O R l (y + 1)).length := .inl (by omega)
   obtain ⟨f1, f2, f3⟩ := torn_found hS hr hB hL hm h1 h2
   rw [hD] at f1 f2
   have f4 := rowsB_le hrl (l := l.take y) (fun x hx => hL x (List.mem_of_mem_take hx))
   have f5 : (tnB O R l y).length ≤ 2360 := by
    have : (rowsB O R (l.take y)).length = (tnB O R l y).length := rfl
    rw [List.length_take] at f4; omega
   simp only [f1, f2, hn]
   have hall : ∀ z : List (List Int), (∀ x ∈ z, x.length ≤ 100) → (z.all fun (x : List Int) => x.length.ble 1000000) = true := fun z hz => by
    rw [List.all_eq_true]
    intro x hx
    rw [Nat.ble_eq]
    have := hz x hx
    omega
   have hlt : (l.take y).length ≤ 20 := by rw [List.length_take]; omega
   have hT : ∀ x ∈ l.take y, x.length ≤ 100 := fun x hx => hL x (List.mem_of_mem_take hx)
   have eT : (D.take (tnB O R l y).length).length = (tnB O R l y).length := by rw [List.length_take]; omega
   have hE : apE O R (D.take (tnB O R l y).length) (iNeg 1) false false (iOf (tnB O R l y).length) [120] = 0 := by
    have k1 := lg_len (O := O) hr [120]
    have k2 := row_len hr (([120] : List Int).length : Int)
    have k3 : ([120] : List Int).length = 1 := rfl
    have c1 : agN O R [120] (iOf (tnB O R l y).length) = false := by
     unfold agN
     rw [show iLt 65536 (([120] : List Int).length : Int) = false from rfl, cond_false]
     simp only [Sx.Bz, Sx.Cont.n, Sx.app, Sx.nAdd, Sx.nSub, Sx.nMul, Sx.nPow, Sx.nDiv, Sx.nMod, Sx.iAdd, Sx.iSub, Sx.iMul, Sx.iNeg, Sx.iPow, Sx.iOf]; omega
    have c2 : wrO (D.take (tnB O R l y).length) (lgRow O R [120]) (iNeg 1) false = true := by
     have q : wrN (D.take (tnB O R l y).length) (lgRow O R [120]) false = false := by
      unfold wrN
      rw [cond_false, eT]
      simp only [Sx.Bz, Sx.Cont.n]; omega
     unfold wrO wrK
     rw [q, show iLt (iNeg 1) 0 = true from rfl, cond_true, cond_false, show Nat.blt (lgRow O R [120]).length (lgRow O R [120]).length = false by rw [Bool.eq_false_iff, Ne, Nat.blt_eq]; omega]; rfl
    unfold apE
    rw [c1, c2]; rfl
   have hX : apX O R (D.take (tnB O R l y).length) (iNeg 1) false false (iOf (tnB O R l y).length) [120] (l.take y) = l.take y ++ [[120]] := by
    unfold apX
    rw [hE]; rfl
   have w9 : IntKind.i64.wrap (iAdd (iOf y) 1) = iOf (y + 1) := by simp only [Sx.app, Sx.nAdd, Sx.nSub, Sx.nMul, Sx.nPow, Sx.nDiv, Sx.nMod, Sx.iAdd, Sx.iSub, Sx.iMul, Sx.iNeg, Sx.iPow, Sx.iOf]; rw [IntKind.wrap_i64]; omega
   have e0 : (List.take (tnB O R l y).length D).length = (tnB O R l y).length := eT
   refine Sx.if_true (by rw [hall _ hT]; simp only [Sx.Bz, Sx.Cont.n]; exact ⟨by omega, trivial⟩) (Sx.if_true (by simp only [Sx.Bz, Sx.Cont.n, Sx.app, Sx.nAdd, Sx.nSub, Sx.nMul, Sx.nPow, Sx.nDiv, Sx.nMod, Sx.iAdd, Sx.iSub, Sx.iMul, Sx.iNeg, Sx.iPow, Sx.iOf, iEq]; exact ⟨⟨by decide, by omega⟩, by omega⟩) (Sx.if_true (by simp only [Sx.Bz, Sx.Cont.n]; omega) (Sx.if_false (by rw [sameR_refl]; rfl) (Sx.if_true (by rw [e0]; simp only [Sx.Bz, Sx.Cont.n]) (Sx.if_true (by rw [e0]; simp only [Sx.Bz, Sx.Cont.n, Sx.app, Sx.nAdd, Sx.nSub, Sx.nMul, Sx.nPow, Sx.nDiv, Sx.nMod, Sx.iAdd, Sx.iSub, Sx.iMul, Sx.iNeg, Sx.iPow, Sx.iOf]; omega) (Sx.if_true (by rw [hE]; rfl) (Sx.if_true (by rw [hX]; simp only [Bool.and_eq_true, Nat.ble_eq]; exact ⟨by rw [List.length_append]; simp only [List.length_cons, List.length_nil]; omega, hall _ (fun x hx => by
     rcases List.mem_append.1 hx with hx | hx
     ·exact hT x hx
     ·rw [List.mem_singleton] at hx; rw [hx]; decide)⟩) ⟨?_, trivial, trivial⟩)))))))
   rw [hX, w9]
   have : iBeq (iOf (l.take y ++ [[120]]).length) (iOf (y + 1)) = true := by
    simp only [Sx.Bz, Sx.Cont.n, Sx.app, Sx.nAdd, Sx.nSub, Sx.nMul, Sx.nPow, Sx.nDiv, Sx.nMod, Sx.iAdd, Sx.iSub, Sx.iMul, Sx.iNeg, Sx.iPow, Sx.iOf, List.length_append, List.length_take, List.length_cons, List.length_nil]; omega
   rw [this]
theorem wpc_gtorn (O : OO) (R : OB) (l : List (List Int)) (n : Int) (F : FO O) (hr : R = bO) (hS : SB O) (h0 : (l.all byB) = true) : wpcI Try.prog (spG4 O R) Try.f5.ntmps [⟨Nat, [0, 1, 5], [(6, 5, .ints .u8 []), (7, 3, .ints .i64 [])], fun B k => [(6, .row B), (7, .row (B + 1)), (8, .v (.int .i64 (k : Nat)))], fun B k => [(B, .own 5 (.ints .u8 (tnB O R l k))), (B + 1, .own 3 (.ints .i64 (tnE O R l k)))], fun k => k ≤ l.length, fun k => l.length - k, 0⟩, ⟨Nat, [0, 1, 5, 6, 7, 9, 10, 11], [], fun B m => [(12, .v (.int .i64 (m : Nat)))], fun B m => [], fun m => m ≤ l.length ∧ ∀ j, j < m → iLe ((tnB O R l (j + 1)).length : Int) n = true, fun m => l.length - m, 0⟩] (bodyOf Try.f5) 0 64 (envP (mks [.ros, .v] [.rows l, .v (.int .i64 n)] 0).1 0) (mks [.ros, .v] [.rows l, .v (.int .i64 n)] 0).2 (retP Try.prog Try.f5.results.toList 1 (⟨[.v (.bool true)], []⟩ : Post)) :=
 Eq.mpr (by kernel_rfl) (vc_gtorn O R l n F hr hS h0)
theorem ok_gtorn (I : Sx.Interp) (O : OO) (hO : O = oo) (R : OB) (hR : R = bO) : Sx.SpecOK I Try.prog 5 (pspec [.ros, .v] false (g_gtorn O R)) := by
 refine spec_pI (spG4_ok I O hO R hR) (by kernel_rfl) (fun ds => match ds with | [.rows l, .v (.int .i64 n)] => [⟨Nat, [0, 1, 5], [(6, 5, .ints .u8 []), (7, 3, .ints .i64 [])], fun B k => [(6, .row B), (7, .row (B + 1)), (8, .v (.int .i64 (k : Nat)))], fun B k => [(B, .own 5 (.ints .u8 (tnB O R l k))), (B + 1, .own 3 (.ints .i64 (tnE O R l k)))], fun k => k ≤ l.length, fun k => l.length - k, 0⟩, ⟨Nat, [0, 1, 5, 6, 7, 9, 10, 11], [], fun B m => [(12, .v (.int .i64 (m : Nat)))], fun B m => [], fun m => m ≤ l.length ∧ ∀ j, j < m → iLe ((tnB O R l (j + 1)).length : Int) n = true, fun m => l.length - m, 0⟩] | _ => []) Try.func5 (by kernel_rfl) (by kernel_rfl) rfl Try.ntmps5 (by decide) ?_ ?_
 ·intro ds p bs F h
  unfold g_gtorn at h
  split at h
  ·rename_i l n
   simp only [Option.some.injEq, Prod.mk.injEq] at h
   obtain ⟨_, _, rfl⟩ := h
   kernel_rfl
  ·cases h
 ·intro ds bs F hl h
  unfold g_gtorn at h
  split at h
  ·rename_i l n
   simp only [Option.some.injEq, Prod.mk.injEq, Bool.and_eq_true] at h
   obtain ⟨h0, _, rfl⟩ := h
   exact wpc_gtorn O R l n (fo_oo O hO) hR (by subst hO; exact sb_oo) (by first | exact h0 | (simp only [Bool.and_eq_true]; exact h0))
  ·cases h
theorem rows_byB {w : World} {a : Option Addr} {len cap : Nat} {z : List (List Int)} (hr : IsRow2 w a len cap z) : (z.take len).all byB = true := by
 rw [List.all_eq_true]
 intro x hx
 rw [byB_iff]
 exact row2_bytes hr x (List.mem_of_mem_take hx)
theorem walk_gtorn (w : World) (a_l : Option Addr) (len_l cap_l : Nat) (z_l : List (List Int)) (hr : IsRow2 w a_l len_l cap_l z_l) (hs : ∀ x, a_l = some x → x.spot = none ∧ x.block < w.heap.size) (n : Int) :
  Calls Try.prog 5 #[.slice a_l len_l cap_l, .int .i64 n] w fun e w' => e = .returned (.bool true) ∧ Kp w w' := by
 have hg : g_gtorn oo bO [.rows (z_l.take len_l), .v (.int .i64 n)] = some (true, [], fun _ => ⟨[.v (.bool true)], []⟩) := by
  show some ((z_l.take len_l).all byB, ([] : List Bool), _) = _
  rw [rows_byB hr]
 exact (calls_patsR (ok_gtorn I0 oo rfl bO rfl) [.slice a_l len_l cap_l] (fun _ b => b < w.heap.size) (fun i => match i with | 0 => some (.ros (z_l.take len_l)) | _ => none) (xs := [.row 0, .v (.int .i64 n)])
  (fun i r h => by
   match i, h with
   | 0, h => cases h; exact ⟨by omega, .inr ⟨_, rfl, row2_reads hr hs⟩⟩
   | _ + 1, h => cases h) (fun _ _ h => h) rfl rfl rfl hg).mono fun _ _ ⟨he, hf⟩ => ⟨he, fr_below hf⟩
end Go.Proofs.Ytaohpdhhbnempaa
