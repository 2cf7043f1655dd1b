/- Sheet: channels and states, what is offered, total, cost, which are right (printed by genSh.py; VCs by VcTool). -/
import Derived.Test.YtcdmmfelagbpdaaGreatSh1
import Derived.Lib.QuoteBits
namespace Go.Proofs.YtcdmmfelagbpdaaGreat
open Go.RowKit Go.Lib Ckp Cfd Cpd Sx
set_option linter.unusedVariables false
set_option linter.unusedSimpArgs false
set_option maxRecDepth 1000000
def chK : List IntKind := List.replicate 32 .u8 ++ [.i64, .i64] ++ List.replicate 10 .u64 ++ List.replicate 13 .i64
def cellsC : List IntKind → (Nat → Int) → Nat → List Value
 | [], _, _ => []
 | k :: ks, c, i => .int k (c i) :: cellsC ks c (i + 1)
def chA (c : Nat → Int) : Array Value := ⟨[.int .u8 (c 0), .int .u8 (c 1), .int .u8 (c 2), .int .u8 (c 3), .int .u8 (c 4), .int .u8 (c 5), .int .u8 (c 6), .int .u8 (c 7), .int .u8 (c 8), .int .u8 (c 9), .int .u8 (c 10), .int .u8 (c 11), .int .u8 (c 12), .int .u8 (c 13), .int .u8 (c 14), .int .u8 (c 15), .int .u8 (c 16), .int .u8 (c 17), .int .u8 (c 18), .int .u8 (c 19), .int .u8 (c 20), .int .u8 (c 21), .int .u8 (c 22), .int .u8 (c 23), .int .u8 (c 24), .int .u8 (c 25), .int .u8 (c 26), .int .u8 (c 27), .int .u8 (c 28), .int .u8 (c 29), .int .u8 (c 30), .int .u8 (c 31), .int .i64 (c 32), .int .i64 (c 33), .int .u64 (c 34), .int .u64 (c 35), .int .u64 (c 36), .int .u64 (c 37), .int .u64 (c 38), .int .u64 (c 39), .int .u64 (c 40), .int .u64 (c 41), .int .u64 (c 42), .int .u64 (c 43), .int .i64 (c 44), .int .i64 (c 45), .int .i64 (c 46), .int .i64 (c 47), .int .i64 (c 48), .int .i64 (c 49), .int .i64 (c 50), .int .i64 (c 51), .int .i64 (c 52), .int .i64 (c 53), .int .i64 (c 54), .int .i64 (c 55), .int .i64 (c 56)]⟩
def chkL : List IntKind → List Value → Bool
 | [], [] => true
 | k :: ks, .int q m :: l => decide (q = k) && (bif decide (q = .u64) then inU m 18446744073709551616 else bif decide (q = .i64) then iLe (-9223372036854775808) m && iLe m 9223372036854775807 else true) && chkL ks l
 | _, _ => false
def chB (a : Array Value) : Bool := chkL chK a.toList
def cz (a : Array Value) (i : Nat) : Int := intV (a.toList.getD i (.int .u8 0))
def cnd (l : List (List Int)) : Bool := l.all fun x => inU (x.getD 3 0) 18446744073709551616 && Nat.beq x.length 5
def offA (tw : Int) (x : List Int) : Bool := iBeq (x.getD 0 0) (IntKind.i64.wrap (1 - tw))
def offN (tw : Int) (l : List (List Int)) : Int := l.foldl (fun n x => bif offA tw x then IntKind.i64.wrap (n + 1) else n) 0
def offM (tw : Int) (l : List (List Int)) : Int := l.foldl (fun s x => bif offA tw x then IntKind.i64.wrap (s + x.getD 2 0) else s) 0
def totS (s : Int) (x : List Int) : Int := IntKind.i64.wrap (s + x.getD 2 0)
def totP (h0 h1 : Int) (l : List (List Int)) : Int := l.foldl totS (IntKind.i64.wrap (h0 + h1))
def opX (x : Int) : Bool := iBne (IntKind.i64.wrap (((BitVec.ofInt 64 x &&& BitVec.ofNat 64 18446744073709551614).toNat : Nat) : Int)) 0
def trC (c : Nat → Int) (k : Nat) : Bool := tRightO (c (44 + 6 * k)) (c (45 + 6 * k)) (c (46 + 6 * k)) (c (47 + 6 * k)) (c (48 + 6 * k)) (c (49 + 6 * k))
def ptC (O : OO) (c : Nat → Int) (k : Nat) : Bool := ptsO O [c (34 + 5 * k), c (35 + 5 * k), c (36 + 5 * k), c (37 + 5 * k), c (38 + 5 * k)]
def fitO (O : OO) (c : Nat → Int) : Int :=
 bif (bif (bif (bif (bif iLt (c 33) 1 then true else iLt 1125899906842624 (c 33)) then true else iLt (c 32) 0) then true else iLe 64 (c 32)) then true else opX (c 56)) then 1 else
 bif (bif !(trC c 0) then true else !(ptC O c 0)) then 1 else
 bif (bif !(trC c 1) then true else !(ptC O c 1)) then 1 else
 bif (bif !(naddB (c 45) (c 51)) then true else iLt (c 33) (naddV (c 45) (c 51))) then 10 else 0
theorem chkL_eq : ∀ (ks : List IntKind) (l : List Value) (c : Nat → Int) (o : Nat), chkL ks l = true → (∀ j, c (o + j) = intV (l.getD j (.int .u8 0))) → l = cellsC ks c o
 | [], [], _, _, _, _ => rfl
 | [], _ :: _, _, _, h, _ => by simp [chkL] at h
 | k :: ks, l, c, o, h, hc => by
  unfold chkL at h
  split at h
  ·rename_i heq; cases heq
  ·rename_i k' ks' q m l' heq
   injection heq with e1 e2
   subst e1 e2
   simp only [Bool.and_eq_true, decide_eq_true_eq] at h
   obtain ⟨⟨rfl, _⟩, h2⟩ := h
   have h0 := hc 0
   show Value.int q m :: l' = Value.int q (c o) :: cellsC ks c (o + 1)
   rw [← chkL_eq ks l' c (o + 1) h2 (fun j => by have := hc (j + 1); rw [show o + 1 + j = o + (j + 1) by omega, this]; rfl), show c o = m from h0]
  ·cases h
theorem chB_eq {a : Array Value} (h : chB a = true) : a = chA (cz a) := by
 have := chkL_eq chK a.toList (cz a) 0 h (fun j => by rw [Nat.zero_add]; rfl)
 rw [show chA (cz a) = ⟨cellsC chK (cz a) 0⟩ by kernel_rfl, ← this]
theorem chA_in {c : Nat → Int} (h : chB (chA c) = true) : inU (c 34) 18446744073709551616 = true ∧ inU (c 35) 18446744073709551616 = true ∧ inU (c 36) 18446744073709551616 = true ∧ inU (c 37) 18446744073709551616 = true ∧ inU (c 38) 18446744073709551616 = true ∧ inU (c 39) 18446744073709551616 = true ∧ inU (c 40) 18446744073709551616 = true ∧ inU (c 41) 18446744073709551616 = true ∧ inU (c 42) 18446744073709551616 = true ∧ inU (c 43) 18446744073709551616 = true := by
 have key : ∀ (ks : List IntKind) (l : List Value), chkL ks l = true → ∀ (j : Nat) (z : Int), l[j]? = some (.int .u64 z) → inU z 18446744073709551616 = true := by
  intro ks
  induction ks with
  | nil => intro l h j z hj; cases l with
   | nil => simp at hj
   | cons v l => simp [chkL] at h
  | cons k ks ih =>
   intro l h j z hj
   unfold chkL at h
   split at h
   ·rename_i heq; cases heq
   ·rename_i k' ks' q m l' heq
    injection heq with e1 e2
    subst e1 e2
    simp only [Bool.and_eq_true, decide_eq_true_eq] at h
    obtain ⟨⟨rfl, h1⟩, h2⟩ := h
    cases j with
    | zero =>
     simp only [List.getElem?_cons_zero, Option.some.injEq, Value.int.injEq] at hj
     obtain ⟨rfl, rfl⟩ := hj
     simpa using h1
    | succ j => exact ih l' h2 j z (by simpa using hj)
   ·cases h
 have k := key chK (chA c).toList h
 exact ⟨k 34 _ rfl, k 35 _ rfl, k 36 _ rfl, k 37 _ rfl, k 38 _ rfl, k 39 _ rfl, k 40 _ rfl, k 41 _ rfl, k 42 _ rfl, k 43 _ rfl⟩
theorem chA_op {c : Nat → Int} (h : chB (chA c) = true) : -9223372036854775808 ≤ c 56 ∧ c 56 ≤ 9223372036854775807 := by
 have key : ∀ (ks : List IntKind) (l : List Value), chkL ks l = true → ∀ (j : Nat) (z : Int), l[j]? = some (.int .i64 z) → -9223372036854775808 ≤ z ∧ z ≤ 9223372036854775807 := by
  intro ks
  induction ks with
  | nil => intro l h j z hj; cases l with
   | nil => simp at hj
   | cons v l => simp [chkL] at h
  | cons k ks ih =>
   intro l h j z hj
   unfold chkL at h
   split at h
   ·rename_i heq; cases heq
   ·rename_i k' ks' q m l' heq
    injection heq with e1 e2
    subst e1 e2
    simp only [Bool.and_eq_true, decide_eq_true_eq] at h
    obtain ⟨⟨rfl, h1⟩, h2⟩ := h
    cases j with
    | zero =>
     simp only [List.getElem?_cons_zero, Option.some.injEq, Value.int.injEq] at hj
     obtain ⟨rfl, rfl⟩ := hj
     have h1' : (iLe (-9223372036854775808) m && iLe m 9223372036854775807) = true := h1
     simp only [Sx.Bz, Sx.Cont.n] at h1'
     exact h1'
    | succ j => exact ih l' h2 j z (by simpa using hj)
   ·cases h
 exact key chK (chA c).toList h 56 _ rfl
theorem andNot_op (op : Int) (h : -9223372036854775808 ≤ op ∧ op ≤ 9223372036854775807) : (bits .andNot .i64 op 1 != 0) = decide (¬ (op = 0 ∨ op = 1)) := by
 by_cases h0 : op = 0
 ·subst h0; decide
 by_cases h1 : op = 1
 ·subst h1; decide
 have e : bits .andNot .i64 op 1 = IntKind.i64.wrap (((op % 18446744073709551616).toNat / 2 * 2 : Nat) : Int) := by
  show IntKind.i64.wrap ((BitVec.ofInt 64 op &&& ~~~BitVec.ofInt 64 ((1 : Nat) : Int)).toNat : Int) = _
  rw [BitVec.toNat_and, BitVec.toNat_not, ofInt_u64 1 (by omega), BitVec.toNat_ofInt]
  have e : 2 ^ 64 - 1 - 1 = 18446744073709551614 := by decide
  have e2 : ((2 ^ 64 : Nat) : Int) = 18446744073709551616 := by decide
  rw [e, e2, nat_hi64_1, Nat.mod_eq_of_lt (by omega)]
 have hz : bits .andNot .i64 op 1 ≠ 0 := by
  rw [e]
  generalize hk : (op % 18446744073709551616).toNat / 2 * 2 = k
  have hk2 : 0 < k ∧ k < 18446744073709551616 := by omega
  have e3 : (k : Int) % 2 ^ 64 = k := Int.emod_eq_of_lt (by omega) (by omega)
  simp only [IntKind.wrap, IntKind.bits, IntKind.signed, e3]
  split
  ·simp; omega
  ·omega
 simp [hz, h0, h1]
theorem opX_no {x : Int} (hx : -9223372036854775808 ≤ x ∧ x ≤ 9223372036854775807) (h : opX x = false) : x = 0 ∨ x = 1 := by
 have e : opX x = (bits .andNot .i64 x 1 != 0) := by kernel_rfl
 rw [e, andNot_op x hx] at h
 have := of_decide_eq_false h
 omega
theorem foldl_snoc {α β : Type} (f : α → β → α) (a : α) (l : List β) {j : Nat} (d : β) (h : j < l.length) : (l.take (j + 1)).foldl f a = f ((l.take j).foldl f a) (l.getD j d) := by
 rw [List.take_add_one, List.getElem?_eq_getElem h, List.getD_eq_getElem?_getD, List.getElem?_eq_getElem h, List.foldl_append]
 rfl
def g_offered (O : OO) (Y : OY) (ds : List Dt) : Option (Bool × List Bool × (List Bool → Post)) := match ds with
 | [.node [.v (.int .i64 no), .v (.int .i64 h0), .v (.int .i64 h1), .structs l, .v (.int .i64 rt)], .v (.int .i64 tw)] => some ((Nat.ble l.length 1000), [], fun _ => ⟨[.v (.int .i64 (offN tw l)), .v (.int .i64 (offM tw l))], []⟩)
 | _ => none
set_option maxHeartbeats 4000000 in
theorem vc_offered (O : OO) (Y : OY) (no h0 h1 rt : Int) (l : List (List Int)) (tw : Int) (F : FO O) (hy : Y = yO O) (g0 : Nat.ble l.length 1000 = true) :
 (∃ (x : Nat), x ≤ l.length ∧ (Value.int .i64 0 = Value.int .i64 (offN tw (List.take x l)) ∧ Value.int .i64 0 = Value.int .i64 (offM tw (List.take x l)) ∧ Value.int .i64 0 =
  Value.int .i64 (iOf x) ∧ Value.int .i64 tw = Value.int .i64 tw ∧ Value.int .i64 (iOf l.length) = Value.int .i64 (iOf l.length) ∧ True) ∧ Cont.structs [.i64, .i64, .i64, .u64, .i64]
  l = Cont.structs [.i64, .i64, .i64, .u64, .i64] l ∧ True) ∧ ∀ (x : Nat), x ≤ l.length → If (iLt (iOf x) (iOf (Cont.structs [.i64, .i64, .i64, .u64, .i64] l).n)) (If (iLe 0 (iOf x)
  && (iOf x).toNat.blt l.length) (If (true && Nat.beq 5 5 && (iOf x).toNat.blt l.length) (If (iBeq ((l.getD (iOf x).toNat []).getD 0 0) (IntKind.i64.wrap (iSub 1 tw))) (∃ (x' : Nat),
  x' ≤ l.length ∧ (nSub l.length x').succ ≤ nSub l.length x ∧ (Value.int .i64 (IntKind.i64.wrap (iAdd (offN tw (List.take x l)) 1)) = Value.int .i64 (offN tw (List.take x' l)) ∧
  Value.int .i64 (IntKind.i64.wrap (iAdd (offM tw (List.take x l)) ((l.getD (iOf x).toNat []).getD 2 0))) = Value.int .i64 (offM tw (List.take x' l)) ∧ Value.int .i64
  (IntKind.i64.wrap (iAdd (iOf x) 1)) = Value.int .i64 (iOf x') ∧ Value.int .i64 tw = Value.int .i64 tw ∧ Value.int .i64 (iOf l.length) = Value.int .i64 (iOf l.length) ∧ True) ∧
  Cont.structs [.i64, .i64, .i64, .u64, .i64] l = Cont.structs [.i64, .i64, .i64, .u64, .i64] l ∧ True) (∃ (x' : Nat), x' ≤ l.length ∧ (nSub l.length x').succ ≤ nSub l.length x ∧
  (Value.int .i64 (offN tw (List.take x l)) = Value.int .i64 (offN tw (List.take x' l)) ∧ Value.int .i64 (offM tw (List.take x l)) = Value.int .i64 (offM tw (List.take x' l)) ∧
  Value.int .i64 (IntKind.i64.wrap (iAdd (iOf x) 1)) = Value.int .i64 (iOf x') ∧ Value.int .i64 tw = Value.int .i64 tw ∧ Value.int .i64 (iOf l.length) = Value.int .i64 (iOf l.length)
  ∧ True) ∧ Cont.structs [.i64, .i64, .i64, .u64, .i64] l = Cont.structs [.i64, .i64, .i64, .u64, .i64] l ∧ True)) False) False) ((Value.int .i64 (offN tw (List.take x l)) = Value.int
  .i64 (offN tw l) ∧ Value.int .i64 (offM tw (List.take x l)) = Value.int .i64 (offM tw l)) ∧ True ∧ True) := by
 simp only [Sx.app, Sx.nAdd, Sx.nSub, Sx.nMul, Sx.nPow, Sx.nDiv, Sx.nMod, Sx.iAdd, Sx.iSub, Sx.iMul, Sx.iNeg, Sx.iPow, Sx.iOf]
 have hm := Nat.le_of_ble_eq_true g0
 have nN : ∀ x, x < l.length → offN tw (l.take (x + 1)) = bif offA tw (l.getD x []) then IntKind.i64.wrap (offN tw (l.take x) + 1) else offN tw (l.take x) := fun x hx => foldl_snoc _ 0 l [] hx
 have nM : ∀ x, x < l.length → offM tw (l.take (x + 1)) = bif offA tw (l.getD x []) then IntKind.i64.wrap (offM tw (l.take x) + (l.getD x []).getD 2 0) else offM tw (l.take x) := fun x hx => foldl_snoc _ 0 l [] hx
 refine ⟨⟨0, Nat.zero_le _, ⟨rfl, rfl, rfl, (by first | rfl | trivial)⟩, (by first | rfl | trivial)⟩, fun x hx => Sx.if_both (fun h => ?_) (fun h => ?_)⟩
 ·simp only [Sx.Bz, Sx.Cont.n] at h
  have hlt : x < l.length := by omega
  have hbl : x.blt l.length = true := by rw [Nat.blt_eq]; exact hlt
  refine Sx.if_true (by simp only [Sx.Bz, Sx.Cont.n, hbl, and_true, Int.toNat_natCast]; omega) (Sx.if_true (by simp only [hbl, Int.toNat_natCast]; rfl) ?_)
  simp only [Int.toNat_natCast]
  have n1 := nN x hlt
  have n2 := nM x hlt
  refine Sx.if_both (fun hc => ?_) (fun hc => ?_)
  ·have e : offA tw (l.getD x []) = true := hc
   rw [e] at n1 n2
   exact ⟨x + 1, hlt, by omega, ⟨by rw [n1]; rfl, by rw [n2]; rfl, by rw [wrap_succ (by omega)], (by first | rfl | trivial)⟩, (by first | rfl | trivial)⟩
  ·have e : offA tw (l.getD x []) = false := hc
   rw [e] at n1 n2
   exact ⟨x + 1, hlt, by omega, ⟨by rw [n1]; rfl, by rw [n2]; rfl, by rw [wrap_succ (by omega)], (by first | rfl | trivial)⟩, (by first | rfl | trivial)⟩
 ·simp only [Sx.Bz, Sx.Cont.n] at h
  have hx2 : x = l.length := by omega
  subst hx2
  rw [List.take_of_length_le (Nat.le_refl _)]
  exact (by first | rfl | trivial)
theorem wpc_offered (O : OO) (Y : OY) (no h0 h1 rt : Int) (l : List (List Int)) (tw : Int) (F : FO O) (hy : Y = yO O) (g0 : Nat.ble l.length 1000 = true) : wpcI Tryz.prog (spS9 O Y) Tryz.f32.ntmps [⟨Nat, [1, 11, 12], [], fun B j => [(6, .v (.int .i64 (offN tw (l.take j)))), (7, .v (.int .i64 (offM tw (l.take j)))), (13, .v (.int .i64 (j : Int)))], fun B j => [], fun j => j ≤ l.length, fun j => l.length - j, 0⟩] (bodyOf Tryz.f32) 0 64 (envP (mks [.agg [.v, .v, .v, .roS [.i64, .i64, .i64, .u64, .i64], .v], .v] [.node [.v (.int .i64 no), .v (.int .i64 h0), .v (.int .i64 h1), .structs l, .v (.int .i64 rt)], .v (.int .i64 tw)] 0).1 0) (mks [.agg [.v, .v, .v, .roS [.i64, .i64, .i64, .u64, .i64], .v], .v] [.node [.v (.int .i64 no), .v (.int .i64 h0), .v (.int .i64 h1), .structs l, .v (.int .i64 rt)], .v (.int .i64 tw)] 0).2 (retP Tryz.prog Tryz.f32.results.toList 1 (⟨[.v (.int .i64 (offN tw l)), .v (.int .i64 (offM tw l))], []⟩ : Post)) :=
 Eq.mpr (by kernel_rfl) (vc_offered O Y no h0 h1 rt l tw F hy g0)
theorem ok_offered (I : Sx.Interp) (O : OO) (hO : O = oo) (Y : OY) (hY : Y = yO O) : Sx.SpecOK I Tryz.prog 32 (pspec [.agg [.v, .v, .v, .roS [.i64, .i64, .i64, .u64, .i64], .v], .v] false (g_offered O Y)) := by
 refine spec_patI (spS9_ok I O hO Y hY) (by kernel_rfl) (fun ds => match ds with | [.node [.v (.int .i64 no), .v (.int .i64 h0), .v (.int .i64 h1), .structs l, .v (.int .i64 rt)], .v (.int .i64 tw)] => [⟨Nat, [1, 11, 12], [], fun B j => [(6, .v (.int .i64 (offN tw (l.take j)))), (7, .v (.int .i64 (offM tw (l.take j)))), (13, .v (.int .i64 (j : Int)))], fun B j => [], fun j => j ≤ l.length, fun j => l.length - j, 0⟩] | _ => []) Tryz.func32 (by kernel_rfl) (by kernel_rfl) rfl Tryz.ntmps32 (by decide) ?_ ?_
 ·intro ds p bs F h
  unfold g_offered at h
  split at h
  ·simp only [Option.some.injEq, Prod.mk.injEq] at h
   obtain ⟨_, _, rfl⟩ := h
   kernel_rfl
  ·cases h
 ·intro ds bs F hl h
  unfold g_offered at h
  split at h
  ·rename_i no h0 h1 l rt tw
   simp only [Option.some.injEq, Prod.mk.injEq, Bool.and_eq_true] at h
   obtain ⟨g0, _, rfl⟩ := h
   exact wpc_offered O Y no h0 h1 rt l tw (fo_oo O hO) hY g0
  ·cases h
def g_total (O : OO) (Y : OY) (ds : List Dt) : Option (Bool × List Bool × (List Bool → Post)) := match ds with
 | [.node [.v (.int .i64 no), .v (.int .i64 h0), .v (.int .i64 h1), .structs l, .v (.int .i64 rt)]] => some ((Nat.ble l.length 1000), [], fun _ => ⟨[.v (.int .i64 (totP h0 h1 l))], []⟩)
 | _ => none
set_option maxHeartbeats 4000000 in
theorem vc_total (O : OO) (Y : OY) (no h0 h1 rt : Int) (l : List (List Int)) (F : FO O) (hy : Y = yO O) (g0 : Nat.ble l.length 1000 = true) :
 (∃ (x : Nat), x ≤ l.length ∧ (Value.int .i64 (IntKind.i64.wrap (iAdd h0 h1)) = Value.int .i64 (totP h0 h1 (List.take x l)) ∧ Value.int .i64 0 = Value.int .i64 (iOf x) ∧ Value.int
  .i64 (iOf l.length) = Value.int .i64 (iOf l.length) ∧ True) ∧ Cont.structs [.i64, .i64, .i64, .u64, .i64] l = Cont.structs [.i64, .i64, .i64, .u64, .i64] l ∧ True) ∧ ∀ (x : Nat), x
  ≤ l.length → If (iLt (iOf x) (iOf (Cont.structs [.i64, .i64, .i64, .u64, .i64] l).n)) (If (iLe 0 (iOf x) && (iOf x).toNat.blt l.length) (If (true && Nat.beq 5 5 && (iOf x).toNat.blt
  l.length) (∃ (x' : Nat), x' ≤ l.length ∧ (nSub l.length x').succ ≤ nSub l.length x ∧ (Value.int .i64 (IntKind.i64.wrap (iAdd (totP h0 h1 (List.take x l)) ((l.getD (iOf x).toNat
  []).getD 2 0))) = Value.int .i64 (totP h0 h1 (List.take x' l)) ∧ Value.int .i64 (IntKind.i64.wrap (iAdd (iOf x) 1)) = Value.int .i64 (iOf x') ∧ Value.int .i64 (iOf l.length) =
  Value.int .i64 (iOf l.length) ∧ True) ∧ Cont.structs [.i64, .i64, .i64, .u64, .i64] l = Cont.structs [.i64, .i64, .i64, .u64, .i64] l ∧ True) False) False) (Value.int .i64 (totP h0
  h1 (List.take x l)) = Value.int .i64 (totP h0 h1 l) ∧ True ∧ True) := by
 simp only [Sx.app, Sx.nAdd, Sx.nSub, Sx.nMul, Sx.nPow, Sx.nDiv, Sx.nMod, Sx.iAdd, Sx.iSub, Sx.iMul, Sx.iNeg, Sx.iPow, Sx.iOf]
 have hm := Nat.le_of_ble_eq_true g0
 have nT : ∀ x, x < l.length → totP h0 h1 (l.take (x + 1)) = IntKind.i64.wrap (totP h0 h1 (l.take x) + (l.getD x []).getD 2 0) := fun x hx => foldl_snoc totS _ l [] hx
 refine ⟨⟨0, Nat.zero_le _, ⟨rfl, rfl, (by first | rfl | trivial)⟩, (by first | rfl | trivial)⟩, fun x hx => Sx.if_both (fun h => ?_) (fun h => ?_)⟩
 ·simp only [Sx.Bz, Sx.Cont.n] at h
  have hlt : x < l.length := by omega
  have hbl : x.blt l.length = true := by rw [Nat.blt_eq]; exact hlt
  refine Sx.if_true (by simp only [Sx.Bz, Sx.Cont.n, hbl, and_true, Int.toNat_natCast]; omega) (Sx.if_true (by simp only [hbl, Int.toNat_natCast]; rfl) ?_)
  simp only [Int.toNat_natCast]
  exact ⟨x + 1, hlt, by omega, ⟨by rw [nT x hlt], by rw [wrap_succ (by omega)], (by first | rfl | trivial)⟩, (by first | rfl | trivial)⟩
 ·simp only [Sx.Bz, Sx.Cont.n] at h
  have hx2 : x = l.length := by omega
  subst hx2
  rw [List.take_of_length_le (Nat.le_refl _)]
  exact (by first | rfl | trivial)
theorem wpc_total (O : OO) (Y : OY) (no h0 h1 rt : Int) (l : List (List Int)) (F : FO O) (hy : Y = yO O) (g0 : Nat.ble l.length 1000 = true) : wpcI Tryz.prog (spS9 O Y) Tryz.f61.ntmps [⟨Nat, [14, 15], [], fun B j => [(3, .v (.int .i64 (totP h0 h1 (l.take j)))), (16, .v (.int .i64 (j : Int)))], fun B j => [], fun j => j ≤ l.length, fun j => l.length - j, 0⟩] (bodyOf Tryz.f61) 0 64 (envP (mks [.agg [.v, .v, .v, .roS [.i64, .i64, .i64, .u64, .i64], .v]] [.node [.v (.int .i64 no), .v (.int .i64 h0), .v (.int .i64 h1), .structs l, .v (.int .i64 rt)]] 0).1 0) (mks [.agg [.v, .v, .v, .roS [.i64, .i64, .i64, .u64, .i64], .v]] [.node [.v (.int .i64 no), .v (.int .i64 h0), .v (.int .i64 h1), .structs l, .v (.int .i64 rt)]] 0).2 (retP Tryz.prog Tryz.f61.results.toList 1 (⟨[.v (.int .i64 (totP h0 h1 l))], []⟩ : Post)) :=
 Eq.mpr (by kernel_rfl) (vc_total O Y no h0 h1 rt l F hy g0)
theorem ok_total (I : Sx.Interp) (O : OO) (hO : O = oo) (Y : OY) (hY : Y = yO O) : Sx.SpecOK I Tryz.prog 61 (pspec [.agg [.v, .v, .v, .roS [.i64, .i64, .i64, .u64, .i64], .v]] false (g_total O Y)) := by
 refine spec_patI (spS9_ok I O hO Y hY) (by kernel_rfl) (fun ds => match ds with | [.node [.v (.int .i64 no), .v (.int .i64 h0), .v (.int .i64 h1), .structs l, .v (.int .i64 rt)]] => [⟨Nat, [14, 15], [], fun B j => [(3, .v (.int .i64 (totP h0 h1 (l.take j)))), (16, .v (.int .i64 (j : Int)))], fun B j => [], fun j => j ≤ l.length, fun j => l.length - j, 0⟩] | _ => []) Tryz.func61 (by kernel_rfl) (by kernel_rfl) rfl Tryz.ntmps61 (by decide) ?_ ?_
 ·intro ds p bs F h
  unfold g_total at h
  split at h
  ·simp only [Option.some.injEq, Prod.mk.injEq] at h
   obtain ⟨_, _, rfl⟩ := h
   kernel_rfl
  ·cases h
 ·intro ds bs F hl h
  unfold g_total at h
  split at h
  ·rename_i no h0 h1 l rt
   simp only [Option.some.injEq, Prod.mk.injEq, Bool.and_eq_true] at h
   obtain ⟨g0, _, rfl⟩ := h
   exact wpc_total O Y no h0 h1 rt l (fo_oo O hO) hY g0
  ·cases h
def g_fit (O : OO) (Y : OY) (ds : List Dt) : Option (Bool × List Bool × (List Bool → Post)) := match ds with
 | [.v (.agg ch)] => some ((chB ch), [], fun _ => ⟨[.v (.int .i64 (fitO O (cz ch)))], []⟩)
 | _ => none
set_option maxHeartbeats 4000000 in
theorem vc_fit (O : OO) (Y : OY) (c : Nat → Int) (F : FO O) (hy : Y = yO O) (hc : chB (chA c) = true) :
 If (iLt (c 33) 1) (Value.int .i64 1 = Value.int .i64 (fitO O c) ∧ True ∧ True) (If (iLt 1125899906842624 (c 33)) (Value.int .i64 1 = Value.int .i64 (fitO O c) ∧ True ∧ True) (If
  (iLt (c 32) 0) (Value.int .i64 1 = Value.int .i64 (fitO O c) ∧ True ∧ True) (If (iLe 64 (c 32)) (Value.int .i64 1 = Value.int .i64 (fitO O c) ∧ True ∧ True) (If (iBne
  (IntKind.i64.wrap (iOf (BitVec.ofInt 64 (c 56) &&& BitVec.ofNat 64 18446744073709551614).toNat)) 0) (Value.int .i64 1 = Value.int .i64 (fitO O c) ∧ True ∧ True) (If (!tRightO (c 44)
  (c 45) (c 46) (c 47) (c 48) (c 49)) (Value.int .i64 1 = Value.int .i64 (fitO O c) ∧ True ∧ True) (If (inU (c 34) 18446744073709551616 && inU (c 35) 18446744073709551616 && inU (c
  36) 18446744073709551616 && inU (c 37) 18446744073709551616 && inU (c 38) 18446744073709551616) (If (!ptsO O [c 34, c 35, c 36, c 37, c 38]) (Value.int .i64 1 = Value.int .i64 (fitO
  O c) ∧ True ∧ True) (If (!tRightO (c 50) (c 51) (c 52) (c 53) (c 54) (c 55)) (Value.int .i64 1 = Value.int .i64 (fitO O c) ∧ True ∧ True) (If (inU (c 39) 18446744073709551616 && inU
  (c 40) 18446744073709551616 && inU (c 41) 18446744073709551616 && inU (c 42) 18446744073709551616 && inU (c 43) 18446744073709551616) (If (!ptsO O [c 39, c 40, c 41, c 42, c 43])
  (Value.int .i64 1 = Value.int .i64 (fitO O c) ∧ True ∧ True) (If (!naddB (c 45) (c 51)) (Value.int .i64 10 = Value.int .i64 (fitO O c) ∧ True ∧ True) (If (iLt (c 33) (naddV (c 45)
  (c 51))) (Value.int .i64 10 = Value.int .i64 (fitO O c) ∧ True ∧ True) (Value.int .i64 0 = Value.int .i64 (fitO O c) ∧ True ∧ True)))) False))) False)))))) := by
 have hp := chA_in hc
 obtain ⟨p0, p1, p2, p3, p4, p5, p6, p7, p8, p9⟩ := hp
 unfold fitO
 generalize hq0 : ptsO O [c 34, c 35, c 36, c 37, c 38] = q0
 have e0 : ptC O c 0 = q0 := hq0
 generalize hq1 : ptsO O [c 39, c 40, c 41, c 42, c 43] = q1
 have e1 : ptC O c 1 = q1 := hq1
 generalize ht0 : tRightO (c 44) (c 45) (c 46) (c 47) (c 48) (c 49) = t0
 have e2 : trC c 0 = t0 := ht0
 generalize ht1 : tRightO (c 50) (c 51) (c 52) (c 53) (c 54) (c 55) = t1
 have e3 : trC c 1 = t1 := ht1
 rw [e0, e1, e2, e3]
 simp only [Sx.app, Sx.nAdd, Sx.nSub, Sx.nMul, Sx.nPow, Sx.nDiv, Sx.nMod, Sx.iAdd, Sx.iSub, Sx.iMul, Sx.iNeg, Sx.iPow, Sx.iOf]
 refine Sx.if_both (fun a => by rw [a]; exact ⟨rfl, (by first | rfl | trivial)⟩) (fun a1 => Sx.if_both (fun a => by rw [a1, a]; exact ⟨rfl, (by first | rfl | trivial)⟩) (fun a2 => Sx.if_both (fun a => by rw [a1, a2, a]; exact ⟨rfl, (by first | rfl | trivial)⟩) (fun a3 => Sx.if_both (fun a => by rw [a1, a2, a3, a]; exact ⟨rfl, (by first | rfl | trivial)⟩) (fun a4 => Sx.if_both (fun a => ?_) (fun a5 => ?_)))))
 ·have a' : opX (c 56) = true := a
  rw [a1, a2, a3, a4, a']
  exact ⟨rfl, (by first | rfl | trivial)⟩
 ·have a5' : opX (c 56) = false := a5
  rw [a1, a2, a3, a4, a5']
  cases t0 with
  | false => exact ⟨rfl, (by first | rfl | trivial)⟩
  | true =>
   refine Sx.if_false rfl (Sx.if_true (by rw [p0, p1, p2, p3, p4]; rfl) ?_)
   cases q0 with
   | false => exact ⟨rfl, (by first | rfl | trivial)⟩
   | true =>
    cases t1 with
    | false => exact ⟨rfl, (by first | rfl | trivial)⟩
    | true =>
     refine Sx.if_false rfl (Sx.if_false rfl (Sx.if_true (by rw [p5, p6, p7, p8, p9]; rfl) ?_))
     cases q1 with
     | false => exact ⟨rfl, (by first | rfl | trivial)⟩
     | true => exact Sx.if_false rfl (Sx.if_both (fun b => by rw [b]; exact ⟨rfl, (by first | rfl | trivial)⟩) (fun b => Sx.if_both (fun d => by rw [b, d]; exact ⟨rfl, (by first | rfl | trivial)⟩) (fun d => by rw [b, d]; exact ⟨rfl, (by first | rfl | trivial)⟩)))
theorem wpc_fit (O : OO) (Y : OY) (c : Nat → Int) (F : FO O) (hy : Y = yO O) (hc : chB (chA c) = true) : wpcI Tryz.prog (spS9 O Y) Tryz.f59.ntmps [Ann.walk 3] (bodyOf Tryz.f59) 0 64 (envP (mks [.v] [.v (.agg (chA c))] 0).1 0) (mks [.v] [.v (.agg (chA c))] 0).2 (retP Tryz.prog Tryz.f59.results.toList 0 (⟨[.v (.int .i64 (fitO O c))], []⟩ : Post)) :=
 Eq.mpr (by kernel_rfl) (vc_fit O Y c F hy hc)
theorem ok_fit (I : Sx.Interp) (O : OO) (hO : O = oo) (Y : OY) (hY : Y = yO O) : Sx.SpecOK I Tryz.prog 59 (pspec [.v] false (g_fit O Y)) := by
 refine spec_patI (spS9_ok I O hO Y hY) (by kernel_rfl) (fun ds => match ds with | [.v (.agg ch)] => [Ann.walk 3] | _ => []) Tryz.func59 (by kernel_rfl) (by kernel_rfl) rfl Tryz.ntmps59 (by decide) ?_ ?_
 ·intro ds p bs F h
  unfold g_fit at h
  split at h
  ·simp only [Option.some.injEq, Prod.mk.injEq] at h
   obtain ⟨_, _, rfl⟩ := h
   kernel_rfl
  ·cases h
 ·intro ds bs F hl h
  unfold g_fit at h
  split at h
  ·rename_i ch
   simp only [Option.some.injEq, Prod.mk.injEq, Bool.and_eq_true] at h
   obtain ⟨hc, _, rfl⟩ := h
   obtain ⟨c, ec, rfl⟩ : ∃ c, cz ch = c ∧ ch = chA c := ⟨_, rfl, chB_eq hc⟩
   simp only [ec]
   exact wpc_fit O Y c (fo_oo O hO) hY hc
  ·cases h
end Go.Proofs.YtcdmmfelagbpdaaGreat
