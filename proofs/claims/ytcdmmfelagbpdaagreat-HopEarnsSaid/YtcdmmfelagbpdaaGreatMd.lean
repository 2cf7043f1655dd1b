/- A channel and a state, as the statements make them, of no offers (printed by genMd.py; VCs by VcTool). -/
import Derived.Test.YtcdmmfelagbpdaaGreatHm
namespace Go.Proofs.YtcdmmfelagbpdaaGreat
open Go.RowKit Go.Lib Ckp Cfd Cpd Sx
set_option linter.unusedVariables false
set_option linter.unusedSimpArgs false
set_option maxRecDepth 1000000
def pyA (c : Nat → Int) : Array Value := ⟨[.int .u8 (c 0), .int .u8 (c 1), .int .u8 (c 2), .int .u8 (c 3), .int .u8 (c 4), .int .u8 (c 5), .int .u8 (c 6), .int .u8 (c 7), .int .u8 (c 8), .int .u8 (c 9), .int .u8 (c 10), .int .u8 (c 11), .int .u8 (c 12), .int .u8 (c 13), .int .u8 (c 14), .int .u8 (c 15), .int .u8 (c 16), .int .u8 (c 17), .int .u8 (c 18), .int .u8 (c 19), .int .u8 (c 20), .int .u8 (c 21), .int .u8 (c 22), .int .u8 (c 23), .int .u8 (c 24), .int .u8 (c 25), .int .u8 (c 26), .int .u8 (c 27), .int .u8 (c 28), .int .u8 (c 29), .int .u8 (c 30), .int .u8 (c 31), .int .u8 (c 32), .int .u8 (c 33), .int .u8 (c 34), .int .u8 (c 35), .int .u8 (c 36), .int .u8 (c 37), .int .u8 (c 38), .int .u8 (c 39), .int .u8 (c 40), .int .u8 (c 41), .int .u8 (c 42), .int .u8 (c 43), .int .u8 (c 44), .int .u8 (c 45), .int .u8 (c 46), .int .u8 (c 47), .int .u8 (c 48), .int .u8 (c 49), .int .u8 (c 50), .int .u8 (c 51), .int .u8 (c 52), .int .u8 (c 53), .int .u8 (c 54), .int .u8 (c 55), .int .u8 (c 56), .int .u8 (c 57), .int .u8 (c 58), .int .u8 (c 59), .int .u8 (c 60), .int .u8 (c 61), .int .u8 (c 62), .int .u8 (c 63), .int .u32 (c 64), .int .u32 (c 65), .int .u8 (c 66), .int .u8 (c 67), .slice none 0 0, .int .u16 (c 69), .int .u8 (c 70), .int .u8 (c 71), .int .u8 (c 72), .int .u8 (c 73), .int .u8 (c 74), .int .u8 (c 75), .int .u8 (c 76), .int .u8 (c 77), .int .u8 (c 78), .int .u8 (c 79), .int .u8 (c 80), .int .u8 (c 81), .int .u8 (c 82), .int .u8 (c 83), .int .u8 (c 84), .int .u8 (c 85), .int .u8 (c 86), .int .u8 (c 87), .int .u8 (c 88), .int .u8 (c 89), .int .u8 (c 90), .int .u8 (c 91), .int .u8 (c 92), .int .u8 (c 93), .int .u8 (c 94), .int .u8 (c 95), .int .u8 (c 96), .int .u8 (c 97), .int .u8 (c 98), .int .u8 (c 99), .int .u8 (c 100), .int .u8 (c 101)]⟩
def pz (a : Array Value) (i : Nat) : Int := intV (a.toList.getD i (.int .u8 0))
def pyK : List (Option IntKind) := List.replicate 64 (some .u8) ++ [some .u32, some .u32, some .u8, some .u8, none, some .u16] ++ List.replicate 32 (some .u8)
def pyL : List (Option IntKind) → List Value → Bool
 | [], [] => true
 | k :: ks, v :: l => (match k, v with
  | some q, .int r m => decide (r = q) && (bif decide (q = .u32) then inU m 4294967296 else bif decide (q = .u16) then inU m 65536 else inU m 256)
  | none, .slice none 0 0 => true
  | _, _ => false) && pyL ks l
 | _, _ => false
def pyB (a : Array Value) : Bool := pyL pyK a.toList
def mSd (c : Nat → Int) (k : Nat) : Array Value := (pyA c).extract k (k + 32)
def mKt (O : OO) (c : Nat → Int) (k : Nat) : List Value := [.int .u64 (O.ffrom (AV (kitF O (mSd c k) 1))), .int .u64 (O.ffrom (AV (kitF O (mSd c k) 2))), .int .u64 (O.ffrom (AV (kitF O (mSd c k) 3))), .int .u64 (O.ffrom (AV (kitF O (mSd c k) 4))), .int .u64 (O.ffrom (AV (kitF O (mSd c k) 5)))] ++ (tabI (kitF O (mSd c k) 6) 32).map (Value.int .u8)
def mP (O : OO) (c : Nat → Int) (k : Nat) (n : Int) : Value := .int .u64 (O.pbase (O.ffrom (AV (kitF O (mSd c k) n))))
def mAmt (c : Nat → Int) : Int := IntKind.i64.wrap (20000 + IntKind.i64.wrap (c 64))
def mOp (c : Nat → Int) : Int := IntKind.i64.wrap ((c 67).tmod 2)
def mNo (c : Nat → Int) : Int := IntKind.i64.wrap (c 69)
def mRt (c : Nat → Int) : Int := IntKind.i64.wrap ((c 66).tmod 8)
def mCA (O : OO) (c : Nat → Int) : Array Value := ⟨List.replicate 32 (.int .u8 0) ++ [.int .i64 0, .int .i64 (mAmt c), mP O c 0 1, mP O c 0 2, mP O c 0 3, mP O c 0 4, mP O c 0 5, mP O c 32 1, mP O c 32 2, mP O c 32 3, mP O c 32 4, mP O c 32 5, .int .i64 100, .int .i64 200, .int .i64 5, .int .i64 16, .int .i64 1, .int .i64 1125899906842624, .int .i64 100, .int .i64 200, .int .i64 6, .int .i64 16, .int .i64 1, .int .i64 1125899906842624, .int .i64 (mOp c)]⟩
def mKA (O : OO) (c : Nat → Int) : Array Value := ⟨mKt O c 0 ++ mKt O c 32⟩
def mS (c : Nat → Int) (a b : Int) : Value := .agg ⟨[.int .i64 (mNo c), .int .i64 a, .int .i64 b, .slice none 0 0, .int .i64 (mRt c)]⟩
def mG0 (c : Nat → Int) : Int := (IntKind.i64.wrap (c 65)).tmod (IntKind.i64.wrap (mAmt c + 1))
def mG1 (c : Nat → Int) : Int := IntKind.i64.wrap (mAmt c - mG0 c)
def mW (O : OO) (c : Nat → Int) : Bool := rightO O (cz (mCA O c)) (mNo c) (mG0 c) (mG1 c) (mRt c) []
def mH0 (O : OO) (c : Nat → Int) : Int := bif mW O c then mG0 c else bif iBeq (mOp c) 0 then mAmt c else 0
def mH1 (O : OO) (c : Nat → Int) : Int := bif mW O c then mG1 c else bif iBeq (mOp c) 0 then 0 else mAmt c
def cellsP : List (Option IntKind) → (Nat → Int) → Nat → List Value
 | [], _, _ => []
 | k :: ks, c, i => (match k with | some q => .int q (c i) | none => .slice none 0 0) :: cellsP ks c (i + 1)
theorem pyL_eq : ∀ (ks : List (Option IntKind)) (l : List Value) (c : Nat → Int) (o : Nat), pyL ks l = true → (∀ j, c (o + j) = intV (l.getD j (.int .u8 0))) → l = cellsP ks c o
 | [], [], _, _, _, _ => rfl
 | [], _ :: _, _, _, h, _ => by simp [pyL] at h
 | _ :: _, [], _, _, h, _ => by simp [pyL] at h
 | k :: ks, v :: l, c, o, h, hc => by
  simp only [pyL, Bool.and_eq_true] at h
  obtain ⟨h1, h2⟩ := h
  have h0 := hc 0
  have ih := pyL_eq ks l c (o + 1) h2 (fun j => by have := hc (j + 1); rw [show o + 1 + j = o + (j + 1) by omega, this]; rfl)
  unfold cellsP
  rw [← ih]
  congr 1
  split at h1
  ·rename_i q r m
   simp only [Bool.and_eq_true, decide_eq_true_eq] at h1
   obtain ⟨rfl, _⟩ := h1
   show Value.int r m = Value.int r (c o)
   rw [show c o = m from h0]
  ·rfl
  ·cases h1
theorem pyB_eq {a : Array Value} (h : pyB a = true) : a = pyA (pz a) := by
 have := pyL_eq pyK a.toList (pz a) 0 h (fun j => by rw [Nat.zero_add]; rfl)
 rw [show pyA (pz a) = ⟨cellsP pyK (pz a) 0⟩ by kernel_rfl, ← this]
theorem pyL_at : ∀ (ks : List (Option IntKind)) (l : List Value), pyL ks l = true → ∀ (j : Nat) (q : IntKind) (z : Int), ks[j]? = some (some q) → l[j]? = some (.int q z) → (bif decide (q = .u32) then inU z 4294967296 else bif decide (q = .u16) then inU z 65536 else inU z 256) = true
 | [], _, _, j, _, _, h, _ => by simp at h
 | _ :: _, [], _, j, _, _, _, h => by simp at h
 | k :: ks, v :: l, h, 0, q, z, hk, hl => by
  simp only [pyL, Bool.and_eq_true] at h
  simp only [List.getElem?_cons_zero, Option.some.injEq] at hk hl
  subst hk hl
  have := h.1
  simp only [decide_true, Bool.true_and] at this
  exact this
 | k :: ks, v :: l, h, j + 1, q, z, hk, hl => by
  simp only [pyL, Bool.and_eq_true] at h
  exact pyL_at ks l h.2 j q z (by simpa using hk) (by simpa using hl)
theorem pyB_bd {c : Nat → Int} (h : pyB (pyA c) = true) : (0 ≤ c 64 ∧ c 64 < 4294967296) ∧ (0 ≤ c 65 ∧ c 65 < 4294967296) ∧ (0 ≤ c 67 ∧ c 67 < 256) := by
 have k := pyL_at pyK (pyA c).toList h
 have e1 : inU (c 64) 4294967296 = true := k 64 .u32 _ rfl rfl
 have e2 : inU (c 65) 4294967296 = true := k 65 .u32 _ rfl rfl
 have e3 : inU (c 67) 256 = true := k 67 .u8 _ rfl rfl
 rw [inU_t] at e1 e2 e3
 exact ⟨e1, e2, e3⟩
theorem chB_mca {A D p0 p1 p2 p3 p4 p5 p6 p7 p8 p9 : Int} (g0 : inU p0 18446744073709551616 = true) (g1 : inU p1 18446744073709551616 = true) (g2 : inU p2 18446744073709551616 = true) (g3 : inU p3 18446744073709551616 = true) (g4 : inU p4 18446744073709551616 = true) (g5 : inU p5 18446744073709551616 = true) (g6 : inU p6 18446744073709551616 = true) (g7 : inU p7 18446744073709551616 = true) (g8 : inU p8 18446744073709551616 = true) (g9 : inU p9 18446744073709551616 = true) (h1 : -9223372036854775808 ≤ A ∧ A ≤ 9223372036854775807) (h2 : -9223372036854775808 ≤ D ∧ D ≤ 9223372036854775807) : chB ⟨List.replicate 32 (.int .u8 0) ++ [.int .i64 0, .int .i64 A, .int .u64 p0, .int .u64 p1, .int .u64 p2, .int .u64 p3, .int .u64 p4, .int .u64 p5, .int .u64 p6, .int .u64 p7, .int .u64 p8, .int .u64 p9, .int .i64 100, .int .i64 200, .int .i64 5, .int .i64 16, .int .i64 1, .int .i64 1125899906842624, .int .i64 100, .int .i64 200, .int .i64 6, .int .i64 16, .int .i64 1, .int .i64 1125899906842624, .int .i64 D]⟩ = true := by
 have e1 : (iLe (-9223372036854775808) A && iLe A 9223372036854775807) = true := by simp only [Sx.Bz, Sx.Cont.n]; exact h1
 have e2 : (iLe (-9223372036854775808) D && iLe D 9223372036854775807) = true := by simp only [Sx.Bz, Sx.Cont.n]; exact h2
 have e : chB ⟨List.replicate 32 (.int .u8 0) ++ [.int .i64 0, .int .i64 A, .int .u64 p0, .int .u64 p1, .int .u64 p2, .int .u64 p3, .int .u64 p4, .int .u64 p5, .int .u64 p6, .int .u64 p7, .int .u64 p8, .int .u64 p9, .int .i64 100, .int .i64 200, .int .i64 5, .int .i64 16, .int .i64 1, .int .i64 1125899906842624, .int .i64 100, .int .i64 200, .int .i64 6, .int .i64 16, .int .i64 1, .int .i64 1125899906842624, .int .i64 D]⟩ = ((iLe (-9223372036854775808) A && iLe A 9223372036854775807) && (inU p0 18446744073709551616 && (inU p1 18446744073709551616 && (inU p2 18446744073709551616 && (inU p3 18446744073709551616 && (inU p4 18446744073709551616 && (inU p5 18446744073709551616 && (inU p6 18446744073709551616 && (inU p7 18446744073709551616 && (inU p8 18446744073709551616 && (inU p9 18446744073709551616 && ((iLe (-9223372036854775808) D && iLe D 9223372036854775807) && true)))))))))))) := by kernel_rfl
 rw [e, e1, e2, g0, g1, g2, g3, g4, g5, g6, g7, g8, g9]; rfl
theorem mA_eq {c : Nat → Int} (b64 : 0 ≤ c 64 ∧ c 64 < 4294967296) : mAmt c = 20000 + c 64 := by
 unfold mAmt
 rw [wrap_in (n := c 64) (by omega) (by omega), wrap_in (by omega) (by omega)]
theorem mOp_01 {c : Nat → Int} (b67 : 0 ≤ c 67 ∧ c 67 < 256) : mOp c = 0 ∨ mOp c = 1 := by
 have e : (c 67).tmod 2 = c 67 % 2 := Int.tmod_eq_emod_of_nonneg b67.1
 unfold mOp
 rw [e, wrap_in (by omega) (by omega)]
 omega
theorem mca_ok {O : OO} (F : FO O) {c : Nat → Int} (hp : pyB (pyA c) = true) : chB (mCA O c) = true := by
 obtain ⟨b64, b65, b67⟩ := pyB_bd hp
 have hA := mA_eq b64
 have hop := mOp_01 b67
 exact chB_mca (F.pbase _) (F.pbase _) (F.pbase _) (F.pbase _) (F.pbase _) (F.pbase _) (F.pbase _) (F.pbase _) (F.pbase _) (F.pbase _) (by omega) (by omega)
def g_mdm (O : OO) (Y : OY) (ds : List Dt) : Option (Bool × List Bool × (List Bool → Post)) := match ds with
 | [.v (.agg pl)] => some (pyB pl && O.isH (pl.extract 0 32) && O.isH (pl.extract 32 64), [], fun _ => ⟨[.v (.agg (mCA O (pz pl))), .v (.agg (mKA O (pz pl))), .v (mS (pz pl) (mH0 O (pz pl)) (mH1 O (pz pl)))], []⟩)
 | _ => none
theorem vc_mdm (O : OO) (Y : OY) (c : Nat → Int) (F : FO O) (hy : Y = yO O) (hp : pyB (pyA c) = true) (hs0 : O.isH (mSd c 0) = true) (hs1 : O.isH (mSd c 32) = true) :
 If (O.isH (mSd c 0)) (If (O.isH (mSd c 32)) (If (inU (O.ffrom (AV (kitF O (mSd c 0) 1))) 18446744073709551616 && inU (O.ffrom (AV (kitF O (mSd c 0) 2))) 18446744073709551616 && inU
  (O.ffrom (AV (kitF O (mSd c 0) 3))) 18446744073709551616 && inU (O.ffrom (AV (kitF O (mSd c 0) 4))) 18446744073709551616 && inU (O.ffrom (AV (kitF O (mSd c 0) 5)))
  18446744073709551616) (If (inU (O.ffrom (AV (kitF O (mSd c 32) 1))) 18446744073709551616 && inU (O.ffrom (AV (kitF O (mSd c 32) 2))) 18446744073709551616 && inU (O.ffrom (AV (kitF O
  (mSd c 32) 3))) 18446744073709551616 && inU (O.ffrom (AV (kitF O (mSd c 32) 4))) 18446744073709551616 && inU (O.ffrom (AV (kitF O (mSd c 32) 5))) 18446744073709551616) (If (decide
  (IntKind.i64 = .i64) && !iEq (IntKind.i64.wrap (mAmt c + 1)) 0) (If (chB (mCA O c) && Nat.ble 0 1000 && cnd []) (If (!mW O c) (If (iEq (mOp c) 0) (If (iEq (IntKind.i64.wrap (1 - mOp
  c)) 0) ((Value.agg (mCA O c) = Value.agg (mCA O c) ∧ Value.agg (mKA O c) = Value.agg (mKA O c) ∧ mS c 0 (mG1 c) = mS c (mH0 O c) (mH1 O c)) ∧ True ∧ True) (If (iEq (IntKind.i64.wrap
  (1 - mOp c)) ((0 + 1 : Nat) : Int)) ((Value.agg (mCA O c) = Value.agg (mCA O c) ∧ Value.agg (mKA O c) = Value.agg (mKA O c) ∧ mS c (mAmt c) 0 = mS c (mH0 O c) (mH1 O c)) ∧ True ∧
  True) False)) (If (iEq (mOp c) ((0 + 1 : Nat) : Int)) (If (iEq (IntKind.i64.wrap (1 - mOp c)) 0) ((Value.agg (mCA O c) = Value.agg (mCA O c) ∧ Value.agg (mKA O c) = Value.agg (mKA O
  c) ∧ mS c 0 (mAmt c) = mS c (mH0 O c) (mH1 O c)) ∧ True ∧ True) (If (iEq (IntKind.i64.wrap (1 - mOp c)) ((0 + 1 : Nat) : Int)) ((Value.agg (mCA O c) = Value.agg (mCA O c) ∧
  Value.agg (mKA O c) = Value.agg (mKA O c) ∧ mS c (mG0 c) 0 = mS c (mH0 O c) (mH1 O c)) ∧ True ∧ True) False)) False)) ((Value.agg (mCA O c) = Value.agg (mCA O c) ∧ Value.agg (mKA O
  c) = Value.agg (mKA O c) ∧ mS c (mG0 c) (mG1 c) = mS c (mH0 O c) (mH1 O c)) ∧ True ∧ True)) False) False) False) False) False) False := by
 obtain ⟨b64, b65, b67⟩ := pyB_bd hp
 have hA := mA_eq b64
 have hop := mOp_01 b67
 have hCA := mca_ok F hp
 refine Sx.if_true hs0 (Sx.if_true hs1 (Sx.if_true (by simp only [F.ffrom]; rfl) (Sx.if_true (by simp only [F.ffrom]; rfl) (Sx.if_true ?_ (Sx.if_true (by rw [hCA]; rfl) ?_)))))
 ·rw [hA, wrap_in (by omega) (by omega), show iEq (20000 + c 64 + 1) 0 = false by simp only [Sx.Bz, Sx.Cont.n]; omega]; rfl
 ·unfold mH0 mH1
  refine Sx.if_both (fun h => ?_) (fun h => ?_)
  ·have h' : mW O c = false := by simpa using h
   rw [h']
   rcases hop with h0 | h0
   ·rw [h0]
    exact ⟨⟨rfl, rfl, rfl⟩, trivial, trivial⟩
   ·rw [h0]
    exact ⟨⟨rfl, rfl, rfl⟩, trivial, trivial⟩
  ·have h' : mW O c = true := by simpa using h
   rw [h']
   exact ⟨⟨rfl, rfl, rfl⟩, trivial, trivial⟩
theorem wpc_mdm (O : OO) (Y : OY) (c : Nat → Int) (F : FO O) (hy : Y = yO O) (hp : pyB (pyA c) = true) (hs0 : O.isH (mSd c 0) = true) (hs1 : O.isH (mSd c 32) = true) : wpcI Tryz.prog (spHa6 O Y) Tryz.f5.ntmps [Ann.walk 3, Ann.walk 1] (bodyOf Tryz.f5) 0 64 (envP (mks [.v] [.v (.agg (pyA c))] 0).1 0) (mks [.v] [.v (.agg (pyA c))] 0).2 (retP Tryz.prog Tryz.f5.results.toList 0 (⟨[.v (.agg (mCA O c)), .v (.agg (mKA O c)), .v (mS c (mH0 O c) (mH1 O c))], []⟩ : Post)) :=
 Eq.mpr (by kernel_rfl) (vc_mdm O Y c F hy hp hs0 hs1)
theorem ok_mdm (I : Sx.Interp) (O : OO) (hO : O = oo) (Y : OY) (hY : Y = yO O) : Sx.SpecOK I Tryz.prog 5 (pspec [.v] false (g_mdm O Y)) := by
 refine spec_patI (spHa6_ok I O hO Y hY) (by kernel_rfl) (fun _ => [Ann.walk 3, Ann.walk 1]) Tryz.func5 (by kernel_rfl) (by kernel_rfl) rfl Tryz.ntmps5 (by decide) ?_ ?_
 ·intro ds p bs F h
  unfold g_mdm at h
  split at h
  ·simp only [Option.some.injEq, Prod.mk.injEq] at h
   obtain ⟨_, _, rfl⟩ := h
   kernel_rfl
  ·cases h
 ·intro ds bs F hl h
  unfold g_mdm at h
  split at h
  ·rename_i pl
   simp only [Option.some.injEq, Prod.mk.injEq, Bool.and_eq_true] at h
   obtain ⟨⟨⟨hp, hs0⟩, hs1⟩, _, rfl⟩ := h
   obtain ⟨c, ec, rfl⟩ : ∃ c, pz pl = c ∧ pl = pyA c := ⟨_, rfl, pyB_eq hp⟩
   simp only [ec]
   exact wpc_mdm O Y c (fo_oo O hO) hY hp hs0 hs1
  ·cases h
def spMd (O : OO) (Y : OY) (f : FuncId) : Option Sx.Spec := match f with
 | 5 => some (pspec [.v] false (g_mdm O Y))
 | f => spHa6 O Y f
theorem spMd_ok (I : Sx.Interp) (O : OO) (hO : O = oo) (Y : OY) (hY : Y = yO O) : ∀ f s, spMd O Y f = some s → Sx.SpecOK I Tryz.prog f s := by
 intro f s h
 unfold spMd at h
 split at h
 · cases h; exact ok_mdm I O hO Y hY
 ·exact spHa6_ok I O hO Y hY _ s h
end Go.Proofs.YtcdmmfelagbpdaaGreat
