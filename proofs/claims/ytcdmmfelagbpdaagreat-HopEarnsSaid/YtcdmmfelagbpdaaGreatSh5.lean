/- Sheet: the library's functions on conditions, with and without a condition (printed by genSh.py; VCs by VcTool). -/
import Derived.Test.YtcdmmfelagbpdaaGreatSh4
import Derived.Test.YtcdmmfelagbpdaaGreatIn
namespace Go.Proofs.YtcdmmfelagbpdaaGreat
open Go.RowKit Go.Lib Ckp Cfd Cpd Sx
set_option linter.unusedVariables false
set_option linter.unusedSimpArgs false
set_option maxRecDepth 1000000
def cmpX (a b : List Int) : Int := orZ (cmpI (a.getD 0 0) (b.getD 0 0)) (cmpI (a.getD 1 0) (b.getD 1 0))
def pA (q x : List Int) : Bool := iLt (cmpX x q) 0
def cntA (q : List Int) (l : List (List Int)) : Nat := l.countP (pA q)
def bsB (q : List Int) (l : List (List Int)) : Bool := (List.range l.length).all fun k => Nat.blt k (cntA q l) == pA q (l.getD k [])
def foundB (q : List Int) (l : List (List Int)) : Bool := bif iLt (cntA q l : Int) (l.length : Int) then iBeq (cmpX (l.getD (cntA q l) []) q) 0 else false
def isC (q x : List Int) : Bool := iBeq (cmpX x q) 0
def remC (q : List Int) (l : List (List Int)) : List (List Int) := l.filter fun x => !(isC q x)
def insC (q : List Int) (l : List (List Int)) : List (List Int) := l.take (cntA q l) ++ [q] ++ l.drop (cntA q l)
def isFn2 (g : FuncId) (args : List SV) : Bool := match args with
 | [_, .fn (.func h) _] => Nat.beq h g
 | _ => false
theorem bs_at {q : List Int} {l : List (List Int)} (h : bsB q l = true) {k : Nat} (hk : k < l.length) : (pA q (l.getD k []) = true ↔ k < cntA q l) := by
 unfold bsB at h
 have := List.all_eq_true.1 h k (List.mem_range.2 hk)
 rw [beq_iff_eq] at this
 rw [← this, Nat.blt_eq]
theorem rem_snoc (q : List Int) {l : List (List Int)} {j : Nat} (h : j < l.length) : remC q (l.take (j + 1)) = remC q (l.take j) ++ (bif isC q (l.getD j []) then [] else [l.getD j []]) := by
 unfold remC
 rw [List.take_add_one, List.getElem?_eq_getElem h, List.filter_append]
 have e : l.getD j [] = l[j] := by rw [List.getD_eq_getElem?_getD, List.getElem?_eq_getElem h]; rfl
 rw [e]
 cases hc : isC q l[j] <;> simp [hc]
theorem rem_none {q : List Int} {l : List (List Int)} (h : iBeq (idxS (isC q) l) (-1) = true) : remC q l = l := by
 have e : idxS (isC q) l = -1 := by rw [iBeq_t] at h; exact h
 unfold idxS at e
 cases hf : l.findIdx? (isC q) with
 | none =>
  rw [List.findIdx?_eq_none_iff] at hf
  unfold remC
  rw [List.filter_eq_self]
  intro x hx
  rw [hf x hx]; rfl
 | some i => rw [hf] at e; simp only at e; omega
theorem rem_some {q : List Int} {l : List (List Int)} (h : iBeq (idxS (isC q) l) (-1) = false) : ∃ k : Nat, idxS (isC q) l = (k : Int) ∧ k < l.length ∧ l.take k = remC q (l.take (k + 1)) := by
 have e : ¬ idxS (isC q) l = -1 := by rw [iBeq_f] at h; exact h
 unfold idxS at e ⊢
 cases hf : l.findIdx? (isC q) with
 | none => rw [hf] at e; exact absurd rfl e
 | some k =>
  rw [List.findIdx?_eq_some_iff_getElem] at hf
  obtain ⟨hk, h1, h2⟩ := hf
  refine ⟨k, rfl, hk, ?_⟩
  have ek : l.getD k [] = l[k] := by rw [List.getD_eq_getElem?_getD, List.getElem?_eq_getElem hk]; rfl
  rw [rem_snoc q hk, ek, h1]
  simp only [cond_true, List.append_nil]
  unfold remC
  symm
  rw [List.filter_eq_self]
  intro x hx
  obtain ⟨j, hj, rfl⟩ := List.getElem_of_mem hx
  simp only [List.length_take] at hj
  rw [List.getElem_take]
  have := h2 j (by omega)
  simpa using this
theorem cnt_le (q : List Int) (l : List (List Int)) : cntA q l ≤ l.length := List.countP_le_length
theorem mid_uint {i j : Nat} (h : i + j ≤ 4000) : IntKind.i64.wrap ((IntKind.u64.wrap (IntKind.i64.wrap ((i : Int) + (j : Int)))).fdiv (2 ^ min (1 : Int).toNat IntKind.u64.bits)) = (((i + j) / 2 : Nat) : Int) := by
 rw [IntWalk.i64_in ((i : Int) + (j : Int)) (by omega), IntKind.wrap_u64]
 have e : (2 : Int) ^ min (1 : Int).toNat IntKind.u64.bits = 2 := by rfl
 rw [e, Int.fdiv_eq_ediv_of_nonneg _ (by decide), IntWalk.i64_in _ (by omega)]
 omega
theorem mid_uint2 {i j : Nat} (h : i + j ≤ 4000) : IntKind.i64.wrap ((IntKind.u64.wrap (IntKind.i64.wrap ((i : Int) + (j : Int)))).fdiv (2 ^ 1)) = (((i + j) / 2 : Nat) : Int) := mid_uint h
def spS14 (O : OO) (Y : OY) (f : FuncId) : Option Sx.Spec := match f with
 | 30 => some (pspec [.v, .agg [.v, .v, .v, .roS [.i64, .i64, .i64, .u64, .i64], .v]] false (g_sright O Y))
 | f => spS13 O Y f
theorem spS14_ok (I : Sx.Interp) (O : OO) (hO : O = oo) (Y : OY) (hY : Y = yO O) : ∀ f s, spS14 O Y f = some s → Sx.SpecOK I Tryz.prog f s := by
 intro f s h
 unfold spS14 at h
 split at h
 · cases h; exact ok_sright I O hO Y hY
 ·exact spS13_ok I O hO Y hY _ s h
def g_cloneC (O : OO) (Y : OY) (ds : List Dt) : Option (Bool × List Bool × (List Bool → Post)) := match ds with
 | [.structs l] => some ((Nat.ble l.length 1000), [], fun _ => ⟨[.row 1], [(1, .own 62 (.structs [.i64, .i64, .i64, .u64, .i64] l))]⟩)
 | _ => none
set_option maxHeartbeats 4000000 in
theorem vc_cloneC (O : OO) (Y : OY) (l : List (List Int)) (F : FO O) (hy : Y = yO O) (g0 : Nat.ble l.length 1000 = true) :
 If (l.length.beq 0) (True ∧ Cont.structs [.i64, .i64, .i64, .u64, .i64] [] = Cont.structs [.i64, .i64, .i64, .u64, .i64] l ∧ True) True ∧ If ((nMul l.length 40).ble 140737488355328
  && l.length.ble 9223372036854775807) (True ∧ Cont.structs [.i64, .i64, .i64, .u64, .i64] l = Cont.structs [.i64, .i64, .i64, .u64, .i64] l ∧ True) False := by
 have hm := Nat.le_of_ble_eq_true g0
 exact ⟨Sx.if_both (fun h => ⟨trivial, by rw [List.eq_nil_of_length_eq_zero (Nat.eq_of_beq_eq_true h)], trivial⟩) (fun _ => trivial), Sx.if_true (by simp only [Sx.app, Sx.nAdd, Sx.nSub, Sx.nMul, Sx.nPow, Sx.nDiv, Sx.nMod, Sx.iAdd, Sx.iSub, Sx.iMul, Sx.iNeg, Sx.iPow, Sx.iOf, Bool.and_eq_true, Nat.ble_eq]; omega) ⟨trivial, rfl, trivial⟩⟩
theorem wpc_cloneC (O : OO) (Y : OY) (l : List (List Int)) (F : FO O) (hy : Y = yO O) (g0 : Nat.ble l.length 1000 = true) : wpcI Tryz.prog (spS14 O Y) Tryz.f68.ntmps [] (bodyOf Tryz.f68) 0 64 (envP (mks [.roS [.i64, .i64, .i64, .u64, .i64]] [.structs l] 0).1 0) (mks [.roS [.i64, .i64, .i64, .u64, .i64]] [.structs l] 0).2 (retPA [(2, 62, .structs [.i64, .i64, .i64, .u64, .i64] [])] Tryz.prog Tryz.f68.results.toList 1 (⟨[.row 1], [(1, .own 62 (.structs [.i64, .i64, .i64, .u64, .i64] l))]⟩ : Post)) :=
 Eq.mpr (by kernel_rfl) (vc_cloneC O Y l F hy g0)
theorem ok_cloneC (I : Sx.Interp) (O : OO) (hO : O = oo) (Y : OY) (hY : Y = yO O) : Sx.SpecOK I Tryz.prog 68 (pspec [.roS [.i64, .i64, .i64, .u64, .i64]] false (g_cloneC O Y)) := by
 refine spec_patAI (spS14_ok I O hO Y hY) (by kernel_rfl) (fun ds => match ds with | [.structs l] => [] | _ => []) (fun ds => match ds with | [.structs l] => [(2, 62, .structs [.i64, .i64, .i64, .u64, .i64] [])] | _ => []) Tryz.func68 (by kernel_rfl) (by kernel_rfl) rfl Tryz.ntmps68 (by decide) ?_ ?_
 ·intro ds p bs F h
  unfold g_cloneC at h
  split at h
  ·simp only [Option.some.injEq, Prod.mk.injEq] at h
   obtain ⟨_, _, rfl⟩ := h
   kernel_rfl
  ·cases h
 ·intro ds bs F hl h
  unfold g_cloneC at h
  split at h
  ·rename_i l
   simp only [Option.some.injEq, Prod.mk.injEq, Bool.and_eq_true] at h
   obtain ⟨g0, _, rfl⟩ := h
   exact wpc_cloneC O Y l (fo_oo O hO) hY g0
  ·cases h
def g_bsearch (O : OO) (Y : OY) (ds : List Dt) : Option (Bool × List Bool × (List Bool → Post)) := match ds with
 | [.structs l, .v (.agg ⟨[.int .i64 f, .int .i64 i, .int .i64 a, .int .u64 q, .int .i64 e]⟩), .node []] => some ((Nat.ble l.length 1000) && (cnd l) && (inU q 18446744073709551616) && (bsB [f, i, a, q, e] l), [], fun _ => ⟨[.v (.int .i64 (cntA [f, i, a, q, e] l : Nat)), .v (.bool (foundB [f, i, a, q, e] l))], []⟩)
 | _ => none
set_option maxHeartbeats 4000000 in
theorem vc_bsearch (O : OO) (Y : OY) (l : List (List Int)) (f i a q e : Int) (F : FO O) (hy : Y = yO O) (g0 : Nat.ble l.length 1000 = true) (g1 : cnd l = true) (g2 : inU q 18446744073709551616 = true) (g3 : bsB [f, i, a, q, e] l = true) :
 (∃ (x : Nat × Nat), (x.1 ≤ cntA [f, i, a, q, e] l ∧ cntA [f, i, a, q, e] l ≤ x.2 ∧ x.2 ≤ l.length) ∧ (Value.int .i64 0 = Value.int .i64 (iOf x.1) ∧ Value.int .i64 (iOf l.length) =
  Value.int .i64 (iOf x.2) ∧ SV.fn (Fn.func 60) [] = SV.fn (Fn.func 60) [] ∧ Value.int .i64 (iOf l.length) = Value.int .i64 (iOf l.length)
  ∧ True) ∧ Array.mk [Value.int .i64 f, Value.int .i64 i, Value.int .i64 a, Value.int .u64 q, Value.int .i64 e] = Array.mk [Value.int .i64 f, Value.int .i64 i, Value.int .i64 a,
  Value.int .u64 q, Value.int .i64 e] ∧ Cont.structs [.i64, .i64, .i64, .u64, .i64] l = Cont.structs [.i64, .i64, .i64, .u64, .i64] l ∧ True) ∧ ∀ (x : Nat × Nat), x.1 ≤ cntA [f, i, a,
  q, e] l ∧ cntA [f, i, a, q, e] l ≤ x.2 ∧ x.2 ≤ l.length → If (iLt (iOf x.fst) (iOf x.snd)) (If (iLe 0 (IntKind.i64.wrap ((IntKind.u64.wrap (IntKind.i64.wrap (iAdd (iOf x.fst) (iOf
  x.snd)))).fdiv (iPow 2 (min (Int.toNat 1) IntKind.u64.bits)))) && (IntKind.i64.wrap ((IntKind.u64.wrap (IntKind.i64.wrap (iAdd (iOf x.1) (iOf x.2)))).fdiv (iPow 2 1))).toNat.blt
  l.length) (If (true && Nat.beq 5 5 && (IntKind.i64.wrap ((IntKind.u64.wrap (IntKind.i64.wrap (iAdd (iOf x.1) (iOf x.2)))).fdiv (iPow 2 1))).toNat.blt l.length) (If (inU ((l.getD
  (IntKind.i64.wrap ((IntKind.u64.wrap (IntKind.i64.wrap (iAdd (iOf x.1) (iOf x.2)))).fdiv (iPow 2 1))).toNat []).getD 3 0) 18446744073709551616 && inU q 18446744073709551616) (If
  (iLt (orZ (cmpI ((l.getD (IntKind.i64.wrap ((IntKind.u64.wrap (IntKind.i64.wrap (iAdd (iOf x.fst) (iOf x.snd)))).fdiv (iPow 2 (min (Int.toNat 1) IntKind.u64.bits)))).toNat []).getD
  0 0) f) (cmpI ((l.getD (IntKind.i64.wrap ((IntKind.u64.wrap (IntKind.i64.wrap (iAdd (iOf x.fst) (iOf x.snd)))).fdiv (iPow 2 (min (Int.toNat 1) IntKind.u64.bits)))).toNat []).getD
  (nAdd 0 1) 0) i)) 0) (∃ (x' : Nat × Nat), (x'.1 ≤ cntA [f, i, a, q, e] l ∧ cntA [f, i, a, q, e] l ≤ x'.2 ∧ x'.2 ≤ l.length) ∧ (nSub x'.2 x'.1).succ ≤ nSub x.2 x.1 ∧ (Value.int .i64
  (IntKind.i64.wrap (iAdd (IntKind.i64.wrap ((IntKind.u64.wrap (IntKind.i64.wrap (iAdd (iOf x.1) (iOf x.2)))).fdiv (iPow 2 1))) 1)) = Value.int .i64 (iOf x'.1) ∧ Value.int .i64 (iOf
  x.2) = Value.int .i64 (iOf x'.2) ∧ SV.fn (Fn.func 60) [] = SV.fn (Fn.func 60) [] ∧ Value.int .i64 (iOf l.length) = Value.int .i64 (iOf
  l.length) ∧ True) ∧ Array.mk [Value.int .i64 f, Value.int .i64 i, Value.int .i64 a, Value.int .u64 q, Value.int .i64 e] = Array.mk [Value.int .i64 f, Value.int .i64 i, Value.int
  .i64 a, Value.int .u64 q, Value.int .i64 e] ∧ Cont.structs [.i64, .i64, .i64, .u64, .i64] l = Cont.structs [.i64, .i64, .i64, .u64, .i64] l ∧ True) (∃ (x' : Nat × Nat), (x'.1 ≤ cntA
  [f, i, a, q, e] l ∧ cntA [f, i, a, q, e] l ≤ x'.2 ∧ x'.2 ≤ l.length) ∧ (nSub x'.2 x'.1).succ ≤ nSub x.2 x.1 ∧ (Value.int .i64 (iOf x.1) = Value.int .i64 (iOf x'.1) ∧ Value.int .i64
  (IntKind.i64.wrap ((IntKind.u64.wrap (IntKind.i64.wrap (iAdd (iOf x.1) (iOf x.2)))).fdiv (iPow 2 1))) = Value.int .i64 (iOf x'.2) ∧ SV.fn (Fn.func 60) [] =
  SV.fn (Fn.func 60) [] ∧ Value.int .i64 (iOf l.length) = Value.int .i64 (iOf l.length) ∧ True) ∧ Array.mk [Value.int .i64 f, Value.int .i64 i, Value.int .i64 a,
  Value.int .u64 q, Value.int .i64 e] = Array.mk [Value.int .i64 f, Value.int .i64 i, Value.int .i64 a, Value.int .u64 q, Value.int .i64 e] ∧ Cont.structs [.i64, .i64, .i64, .u64,
  .i64] l = Cont.structs [.i64, .i64, .i64, .u64, .i64] l ∧ True)) False) False) False) (If (iLt (iOf x.fst) (iOf (Cont.structs [.i64, .i64, .i64, .u64, .i64] l).n)) (If (iLe 0 (iOf
  x.fst) && (iOf x.1).toNat.blt l.length) (If (true && Nat.beq 5 5 && (iOf x.1).toNat.blt l.length) (If (inU ((l.getD (iOf x.1).toNat []).getD 3 0) 18446744073709551616 && inU q
  18446744073709551616) ((Value.int .i64 (iOf x.1) = Value.int .i64 (iOf (cntA [f, i, a, q, e] l)) ∧ Value.bool (iBeq (orZ (cmpI ((l.getD (iOf x.1).toNat []).getD 0 0) f) (cmpI
  ((l.getD (iOf x.1).toNat []).getD 1 0) i)) 0) = Value.bool (foundB [f, i, a, q, e] l)) ∧ True ∧ True) False) False) False) ((Value.int .i64 (iOf x.1) = Value.int .i64 (iOf (cntA [f,
  i, a, q, e] l)) ∧ Value.bool false = Value.bool (foundB [f, i, a, q, e] l)) ∧ True ∧ True)) := by
 simp only [Sx.app, Sx.nAdd, Sx.nSub, Sx.nMul, Sx.nPow, Sx.nDiv, Sx.nMod, Sx.iAdd, Sx.iSub, Sx.iMul, Sx.iNeg, Sx.iPow, Sx.iOf]
 have hm := Nat.le_of_ble_eq_true g0
 have hcn := cnt_le [f, i, a, q, e] l
 refine ⟨⟨(0, l.length), ⟨Nat.zero_le _, hcn, Nat.le_refl _⟩, ⟨rfl, (by first | rfl | trivial)⟩, (by first | rfl | trivial)⟩, fun x hx => Sx.if_both (fun h => ?_) (fun h => ?_)⟩
 ·simp only [Sx.Bz, Sx.Cont.n] at h
  have hxy : x.1 < x.2 := by omega
  have hlt : (x.1 + x.2) / 2 < l.length := by omega
  have hbl : ((x.1 + x.2) / 2).blt l.length = true := by rw [Nat.blt_eq]; exact hlt
  simp only [mid_uint (i := x.1) (j := x.2) (by omega), mid_uint2 (i := x.1) (j := x.2) (by omega), Int.toNat_natCast]
  refine Sx.if_true (by simp only [Sx.Bz, Sx.Cont.n, hbl, and_true]; omega) (Sx.if_true (by rw [hbl]; rfl) (Sx.if_true (by rw [cnd_at g1 hlt, g2]; rfl) (Sx.if_both (fun c => ?_) (fun c => ?_))))
  ·have hc := (bs_at g3 hlt).1 c
   exact ⟨((x.1 + x.2) / 2 + 1, x.2), ⟨hc, hx.2⟩, by omega, ⟨by rw [wrap_succ (by omega)], (by first | rfl | trivial)⟩, (by first | rfl | trivial)⟩
  ·have hc : ¬ (x.1 + x.2) / 2 < cntA [f, i, a, q, e] l := fun h' => by
    have := (bs_at g3 hlt).2 h'
    rw [show pA [f, i, a, q, e] (l.getD ((x.1 + x.2) / 2) []) = false from c] at this
    cases this
   exact ⟨(x.1, (x.1 + x.2) / 2), ⟨hx.1, by omega, by omega⟩, by omega, ⟨rfl, (by first | rfl | trivial)⟩, (by first | rfl | trivial)⟩
 ·simp only [Sx.Bz, Sx.Cont.n] at h
  have hx1 : x.1 = cntA [f, i, a, q, e] l := by omega
  rw [hx1]
  refine Sx.if_both (fun h' => ?_) (fun h' => ?_)
  ·have hlt : cntA [f, i, a, q, e] l < l.length := by simp only [Sx.Bz, Sx.Cont.n] at h'; omega
   have hbl : (cntA [f, i, a, q, e] l).blt l.length = true := by rw [Nat.blt_eq]; exact hlt
   simp only [Int.toNat_natCast]
   refine Sx.if_true (by simp only [Sx.Bz, Sx.Cont.n, hbl, and_true]; omega) (Sx.if_true (by rw [hbl]; rfl) (Sx.if_true (by rw [cnd_at g1 hlt, g2]; rfl) ⟨⟨(by first | rfl | trivial), ?_⟩, (by first | rfl | trivial)⟩))
   unfold foundB
   rw [show iLt (cntA [f, i, a, q, e] l : Int) (l.length : Int) = true from h']
   rfl
  ·refine ⟨⟨rfl, ?_⟩, (by first | rfl | trivial)⟩
   unfold foundB
   rw [show iLt (cntA [f, i, a, q, e] l : Int) (l.length : Int) = false from h']
   rfl
theorem wpc_bsearch (O : OO) (Y : OY) (l : List (List Int)) (f i a q e : Int) (F : FO O) (hy : Y = yO O) (g0 : Nat.ble l.length 1000 = true) (g1 : cnd l = true) (g2 : inU q 18446744073709551616 = true) (g3 : bsB [f, i, a, q, e] l = true) : wpcI Tryz.prog (spS14 O Y) Tryz.f66.ntmps [⟨Nat × Nat, [0, 2, 4, 8], [], fun B x => [(9, .v (.int .i64 (x.1 : Int))), (10, .v (.int .i64 (x.2 : Int)))], fun B x => [], fun x => x.1 ≤ cntA [f, i, a, q, e] l ∧ cntA [f, i, a, q, e] l ≤ x.2 ∧ x.2 ≤ l.length, fun x => x.2 - x.1, 0⟩] (bodyOf Tryz.f66) 0 64 (envP (mks [.roS [.i64, .i64, .i64, .u64, .i64], .v, .fn 60 []] [.structs l, .v (.agg ⟨[.int .i64 f, .int .i64 i, .int .i64 a, .int .u64 q, .int .i64 e]⟩), .node []] 0).1 0) (mks [.roS [.i64, .i64, .i64, .u64, .i64], .v, .fn 60 []] [.structs l, .v (.agg ⟨[.int .i64 f, .int .i64 i, .int .i64 a, .int .u64 q, .int .i64 e]⟩), .node []] 0).2 (retP Tryz.prog Tryz.f66.results.toList 1 (⟨[.v (.int .i64 (cntA [f, i, a, q, e] l : Nat)), .v (.bool (foundB [f, i, a, q, e] l))], []⟩ : Post)) :=
 Eq.mpr (by kernel_rfl) (vc_bsearch O Y l f i a q e F hy g0 g1 g2 g3)
theorem ok_bsearch (I : Sx.Interp) (O : OO) (hO : O = oo) (Y : OY) (hY : Y = yO O) : Sx.SpecOK I Tryz.prog 66 (pspec [.roS [.i64, .i64, .i64, .u64, .i64], .v, .fn 60 []] false (g_bsearch O Y)) := by
 refine spec_patI (spS14_ok I O hO Y hY) (by kernel_rfl) (fun ds => match ds with | [.structs l, .v (.agg ⟨[.int .i64 f, .int .i64 i, .int .i64 a, .int .u64 q, .int .i64 e]⟩), .node []] => [⟨Nat × Nat, [0, 2, 4, 8], [], fun B x => [(9, .v (.int .i64 (x.1 : Int))), (10, .v (.int .i64 (x.2 : Int)))], fun B x => [], fun x => x.1 ≤ cntA [f, i, a, q, e] l ∧ cntA [f, i, a, q, e] l ≤ x.2 ∧ x.2 ≤ l.length, fun x => x.2 - x.1, 0⟩] | _ => []) Tryz.func66 (by kernel_rfl) (by kernel_rfl) rfl Tryz.ntmps66 (by decide) ?_ ?_
 ·intro ds p bs F h
  unfold g_bsearch at h
  split at h
  ·simp only [Option.some.injEq, Prod.mk.injEq] at h
   obtain ⟨_, _, rfl⟩ := h
   kernel_rfl
  ·cases h
 ·intro ds bs F hl h
  unfold g_bsearch at h
  split at h
  ·rename_i l f i a q e
   simp only [Option.some.injEq, Prod.mk.injEq, Bool.and_eq_true] at h
   obtain ⟨⟨⟨⟨g0, g1⟩, g2⟩, g3⟩, _, rfl⟩ := h
   exact wpc_bsearch O Y l f i a q e (fo_oo O hO) hY g0 g1 g2 g3
  ·cases h
def g_wo1 (O : OO) (Y : OY) (ds : List Dt) : Option (Bool × List Bool × (List Bool → Post)) := match ds with
 | [.v (.agg ⟨[.int .i64 xf, .int .i64 xi, .int .i64 xa, .int .u64 xq, .int .i64 xe]⟩), .node [.v (.int .i64 f), .v (.int .i64 i), .v (.int .i64 a), .v (.int .u64 q), .v (.int .i64 e)]] => some ((inU xq 18446744073709551616) && (inU q 18446744073709551616), [], fun _ => ⟨[.v (.bool (isC [f, i, a, q, e] [xf, xi, xa, xq, xe]))], [(0, .blk 62 [.v (.int .i64 f), .v (.int .i64 i), .v (.int .i64 a), .v (.int .u64 q), .v (.int .i64 e)])]⟩)
 | _ => none
set_option maxHeartbeats 4000000 in
theorem vc_wo1 (O : OO) (Y : OY) (xf xi xa xq xe f i a q e : Int) (F : FO O) (hy : Y = yO O) (g1 : inU xq 18446744073709551616 = true) (g2 : inU q 18446744073709551616 = true) :
 If (inU xq 18446744073709551616 && inU q 18446744073709551616) (Value.bool (iBeq (orZ (cmpI xf f) (cmpI xi i)) 0) = Value.bool (isC [f, i, a, q, e] [xf, xi, xa, xq, xe]) ∧ True ∧
  (Value.int .i64 f = Value.int .i64 f ∧ Value.int .i64 i = Value.int .i64 i ∧ Value.int .i64 a = Value.int .i64 a ∧ Value.int .u64 q = Value.int .u64 q ∧ Value.int .i64 e = Value.int
  .i64 e) ∧ True) False := by
 exact Sx.if_true (by rw [g1, g2]; rfl) ⟨rfl, (by first | rfl | trivial)⟩
theorem wpc_wo1 (O : OO) (Y : OY) (xf xi xa xq xe f i a q e : Int) (F : FO O) (hy : Y = yO O) (g1 : inU xq 18446744073709551616 = true) (g2 : inU q 18446744073709551616 = true) : wpcI Tryz.prog (spS14 O Y) Tryz.f72.ntmps [] (bodyOf Tryz.f72) 0 64 (envP (mks [.v, .obj 62 [.v, .v, .v, .v, .v]] [.v (.agg ⟨[.int .i64 xf, .int .i64 xi, .int .i64 xa, .int .u64 xq, .int .i64 xe]⟩), .node [.v (.int .i64 f), .v (.int .i64 i), .v (.int .i64 a), .v (.int .u64 q), .v (.int .i64 e)]] 0).1 0) (mks [.v, .obj 62 [.v, .v, .v, .v, .v]] [.v (.agg ⟨[.int .i64 xf, .int .i64 xi, .int .i64 xa, .int .u64 xq, .int .i64 xe]⟩), .node [.v (.int .i64 f), .v (.int .i64 i), .v (.int .i64 a), .v (.int .u64 q), .v (.int .i64 e)]] 0).2 (retP Tryz.prog Tryz.f72.results.toList 1 (⟨[.v (.bool (isC [f, i, a, q, e] [xf, xi, xa, xq, xe]))], [(0, .blk 62 [.v (.int .i64 f), .v (.int .i64 i), .v (.int .i64 a), .v (.int .u64 q), .v (.int .i64 e)])]⟩ : Post)) :=
 Eq.mpr (by kernel_rfl) (vc_wo1 O Y xf xi xa xq xe f i a q e F hy g1 g2)
theorem ok_wo1 (I : Sx.Interp) (O : OO) (hO : O = oo) (Y : OY) (hY : Y = yO O) : Sx.SpecOK I Tryz.prog 72 (pspec [.v, .obj 62 [.v, .v, .v, .v, .v]] false (g_wo1 O Y)) := by
 refine spec_patI (spS14_ok I O hO Y hY) (by kernel_rfl) (fun ds => match ds with | [.v (.agg ⟨[.int .i64 xf, .int .i64 xi, .int .i64 xa, .int .u64 xq, .int .i64 xe]⟩), .node [.v (.int .i64 f), .v (.int .i64 i), .v (.int .i64 a), .v (.int .u64 q), .v (.int .i64 e)]] => [] | _ => []) Tryz.func72 (by kernel_rfl) (by kernel_rfl) rfl Tryz.ntmps72 (by decide) ?_ ?_
 ·intro ds p bs F h
  unfold g_wo1 at h
  split at h
  ·simp only [Option.some.injEq, Prod.mk.injEq] at h
   obtain ⟨_, _, rfl⟩ := h
   kernel_rfl
  ·cases h
 ·intro ds bs F hl h
  unfold g_wo1 at h
  split at h
  ·rename_i xf xi xa xq xe f i a q e
   simp only [Option.some.injEq, Prod.mk.injEq, Bool.and_eq_true] at h
   obtain ⟨⟨g1, g2⟩, _, rfl⟩ := h
   exact wpc_wo1 O Y xf xi xa xq xe f i a q e (fo_oo O hO) hY g1 g2
  ·cases h
def spS15 (O : OO) (Y : OY) (f : FuncId) : Option Sx.Spec := match f with
 | 68 => some (pspec [.roS [.i64, .i64, .i64, .u64, .i64]] false (g_cloneC O Y))
 | 66 => some (pspec [.roS [.i64, .i64, .i64, .u64, .i64], .v, .fn 60 []] false (g_bsearch O Y))
 | 72 => some (pspec [.v, .obj 62 [.v, .v, .v, .v, .v]] false (g_wo1 O Y))
 | f => spS14 O Y f
theorem spS15_ok (I : Sx.Interp) (O : OO) (hO : O = oo) (Y : OY) (hY : Y = yO O) : ∀ f s, spS15 O Y f = some s → Sx.SpecOK I Tryz.prog f s := by
 intro f s h
 unfold spS15 at h
 split at h
 · cases h; exact ok_cloneC I O hO Y hY
 · cases h; exact ok_bsearch I O hO Y hY
 · cases h; exact ok_wo1 I O hO Y hY
 ·exact spS14_ok I O hO Y hY _ s h
def g_idxW (O : OO) (Y : OY) (ds : List Dt) : Option (Bool × List Bool × (List Bool → Post)) := match ds with
 | [.structs l, .node [.node [.v (.int .i64 f), .v (.int .i64 i), .v (.int .i64 a), .v (.int .u64 q), .v (.int .i64 e)]]] => some ((Nat.ble l.length 1000) && (cnd l) && (inU q 18446744073709551616), [], fun _ => ⟨[.v (.int .i64 (idxS (isC [f, i, a, q, e]) l))], [(1, .blk 62 [.v (.int .i64 f), .v (.int .i64 i), .v (.int .i64 a), .v (.int .u64 q), .v (.int .i64 e)])]⟩)
 | _ => none
set_option maxHeartbeats 4000000 in
theorem vc_idxW (O : OO) (Y : OY) (l : List (List Int)) (f i a q e : Int) (F : FO O) (hy : Y = yO O) (h1 : Nat.ble l.length 1000 = true) (g1 : cnd l = true) (g2 : inU q 18446744073709551616 = true) :
 (∃ (x : Nat), (x ≤ l.length ∧ ∀ (k : Nat), k.succ ≤ x → isC [f, i, a, q, e] (l.getD k []) = false) ∧ (Value.int .i64 0 = Value.int .i64 (iOf x) ∧ SV.fn (Fn.func
  72) [SV.ptr 1 0] = SV.fn (Fn.func 72) [SV.ptr 1 0] ∧ Value.int .i64 (iOf l.length) = Value.int .i64 (iOf l.length) ∧ True) ∧
  Cont.structs [.i64, .i64, .i64, .u64, .i64] l = Cont.structs [.i64, .i64, .i64, .u64, .i64] l ∧ (Value.int .i64 f = Value.int .i64 f ∧ Value.int .i64 i = Value.int .i64 i ∧
  Value.int .i64 a = Value.int .i64 a ∧ Value.int .u64 q = Value.int .u64 q ∧ Value.int .i64 e = Value.int .i64 e) ∧ True) ∧ ∀ (x : Nat), (x ≤ l.length ∧ ∀ (k : Nat), k.succ ≤ x → isC
  [f, i, a, q, e] (l.getD k []) = false) → If (iLt (iOf x) (iOf (Cont.structs [.i64, .i64, .i64, .u64, .i64] l).n)) (If (iLe 0 (iOf x) && (iOf x).toNat.blt l.length) (If (true &&
  Nat.beq 5 5 && (iOf x).toNat.blt l.length) (If (inU ((l.getD (iOf x).toNat []).getD 3 0) 18446744073709551616 && inU q 18446744073709551616) (If (isC [f, i, a, q, e] [(l.getD (iOf
  x).toNat []).getD 0 0, (l.getD (iOf x).toNat []).getD 1 0, (l.getD (iOf x).toNat []).getD 2 0, (l.getD (iOf x).toNat []).getD 3 0, (l.getD (iOf x).toNat []).getD 4 0]) (Value.int
  .i64 (iOf x) = Value.int .i64 (idxS (isC [f, i, a, q, e]) l) ∧ True ∧ (Value.int .i64 f = Value.int .i64 f ∧ Value.int .i64 i = Value.int .i64 i ∧ Value.int .i64 a = Value.int .i64
  a ∧ Value.int .u64 q = Value.int .u64 q ∧ Value.int .i64 e = Value.int .i64 e) ∧ True) (∃ (x' : Nat), (x' ≤ l.length ∧ ∀ (k : Nat), k.succ ≤ x' → isC [f, i, a, q, e] (l.getD k []) =
  false) ∧ (nSub l.length x').succ ≤ nSub l.length x ∧ (Value.int .i64 (IntKind.i64.wrap (iAdd (iOf x) 1)) = Value.int .i64 (iOf x') ∧ SV.fn (Fn.func 72)
  [SV.ptr 1 0] = SV.fn (Fn.func 72) [SV.ptr 1 0] ∧ Value.int .i64 (iOf l.length) = Value.int .i64 (iOf l.length) ∧ True) ∧ Cont.structs [.i64, .i64, .i64,
  .u64, .i64] l = Cont.structs [.i64, .i64, .i64, .u64, .i64] l ∧ (Value.int .i64 f = Value.int .i64 f ∧ Value.int .i64 i = Value.int .i64 i ∧ Value.int .i64 a = Value.int .i64 a ∧
  Value.int .u64 q = Value.int .u64 q ∧ Value.int .i64 e = Value.int .i64 e) ∧ True)) False) False) False) (Value.int .i64 (iNeg 1) = Value.int .i64 (idxS (isC [f, i, a, q, e]) l) ∧
  True ∧ (Value.int .i64 f = Value.int .i64 f ∧ Value.int .i64 i = Value.int .i64 i ∧ Value.int .i64 a = Value.int .i64 a ∧ Value.int .u64 q = Value.int .u64 q ∧ Value.int .i64 e =
  Value.int .i64 e) ∧ True) := by
 simp only [Sx.app, Sx.nAdd, Sx.nSub, Sx.nMul, Sx.nPow, Sx.nDiv, Sx.nMod, Sx.iAdd, Sx.iSub, Sx.iMul, Sx.iNeg, Sx.iPow, Sx.iOf]
 have hm := Nat.le_of_ble_eq_true h1
 refine ⟨⟨0, ⟨Nat.zero_le _, fun k hk => absurd hk (Nat.not_succ_le_zero _)⟩, ⟨rfl, (by first | rfl | trivial)⟩, (by first | rfl | trivial)⟩, fun x hx => Sx.if_both (fun h => ?_) (fun h => ?_)⟩
 ·simp only [Sx.Bz, Sx.Cont.n] at h
  have hlt : x < l.length := by omega
  have hbl : x.blt l.length = true := by rw [Nat.blt_eq]; exact hlt
  simp only [Int.toNat_natCast]
  refine Sx.if_true (by simp only [Sx.Bz, Sx.Cont.n, hbl, and_true]; omega) (Sx.if_true (by rw [hbl]; rfl) (Sx.if_true (by rw [cnd_at g1 hlt, g2]; rfl) (Sx.if_both (fun hc => ?_) (fun hc => ?_))))
  ·have hc' : isC [f, i, a, q, e] (l.getD x []) = true := hc
   exact ⟨by rw [idxS_here hlt (fun k hk => hx.2 k hk) hc'], (by first | rfl | trivial)⟩
  ·have hc' : isC [f, i, a, q, e] (l.getD x []) = false := hc
   exact ⟨x + 1, ⟨hlt, fun k hk => by
    rcases Nat.lt_or_ge k x with h' | h'
    ·exact hx.2 k h'
    ·have : k = x := by omega
     rw [this]; exact hc'⟩, by omega, ⟨by rw [wrap_succ (by omega)], (by first | rfl | trivial)⟩, (by first | rfl | trivial)⟩
 ·simp only [Sx.Bz, Sx.Cont.n] at h
  have hx2 : x = l.length := by omega
  subst hx2
  exact ⟨by rw [idxS_none (fun k hk => hx.2 k hk)], (by first | rfl | trivial)⟩
theorem wpc_idxW (O : OO) (Y : OY) (l : List (List Int)) (f i a q e : Int) (F : FO O) (hy : Y = yO O) (h1 : Nat.ble l.length 1000 = true) (g1 : cnd l = true) (g2 : inU q 18446744073709551616 = true) : wpcI Tryz.prog (spS15 O Y) Tryz.f64.ntmps [⟨Nat, [0, 1, 7], [], fun B j => [(8, .v (.int .i64 (j : Int)))], fun B j => [], fun j => j ≤ l.length ∧ ∀ k, k < j → isC [f, i, a, q, e] (l.getD k []) = false, fun j => l.length - j, 0⟩] (bodyOf Tryz.f64) 0 64 (envP (mks [.roS [.i64, .i64, .i64, .u64, .i64], .fn 72 [.obj 62 [.v, .v, .v, .v, .v]]] [.structs l, .node [.node [.v (.int .i64 f), .v (.int .i64 i), .v (.int .i64 a), .v (.int .u64 q), .v (.int .i64 e)]]] 0).1 0) (mks [.roS [.i64, .i64, .i64, .u64, .i64], .fn 72 [.obj 62 [.v, .v, .v, .v, .v]]] [.structs l, .node [.node [.v (.int .i64 f), .v (.int .i64 i), .v (.int .i64 a), .v (.int .u64 q), .v (.int .i64 e)]]] 0).2 (retP Tryz.prog Tryz.f64.results.toList 2 (⟨[.v (.int .i64 (idxS (isC [f, i, a, q, e]) l))], [(1, .blk 62 [.v (.int .i64 f), .v (.int .i64 i), .v (.int .i64 a), .v (.int .u64 q), .v (.int .i64 e)])]⟩ : Post)) :=
 Eq.mpr (by kernel_rfl) (vc_idxW O Y l f i a q e F hy h1 g1 g2)
theorem ok_idxW (I : Sx.Interp) (O : OO) (hO : O = oo) (Y : OY) (hY : Y = yO O) : Sx.SpecOK I Tryz.prog 64 (pspec [.roS [.i64, .i64, .i64, .u64, .i64], .fn 72 [.obj 62 [.v, .v, .v, .v, .v]]] false (g_idxW O Y)) := by
 refine spec_patI (spS15_ok I O hO Y hY) (by kernel_rfl) (fun ds => match ds with | [.structs l, .node [.node [.v (.int .i64 f), .v (.int .i64 i), .v (.int .i64 a), .v (.int .u64 q), .v (.int .i64 e)]]] => [⟨Nat, [0, 1, 7], [], fun B j => [(8, .v (.int .i64 (j : Int)))], fun B j => [], fun j => j ≤ l.length ∧ ∀ k, k < j → isC [f, i, a, q, e] (l.getD k []) = false, fun j => l.length - j, 0⟩] | _ => []) Tryz.func64 (by kernel_rfl) (by kernel_rfl) rfl Tryz.ntmps64 (by decide) ?_ ?_
 ·intro ds p bs F h
  unfold g_idxW at h
  split at h
  ·simp only [Option.some.injEq, Prod.mk.injEq] at h
   obtain ⟨_, _, rfl⟩ := h
   kernel_rfl
  ·cases h
 ·intro ds bs F hl h
  unfold g_idxW at h
  split at h
  ·rename_i l f i a q e
   simp only [Option.some.injEq, Prod.mk.injEq, Bool.and_eq_true] at h
   obtain ⟨⟨⟨h1, g1⟩, g2⟩, _, rfl⟩ := h
   exact wpc_idxW O Y l f i a q e (fo_oo O hO) hY h1 g1 g2
  ·cases h
def spS16 (O : OO) (Y : OY) (f : FuncId) : Option Sx.Spec := match f with
 | 64 => some (altS (isFn2 72) (pspec [.roS [.i64, .i64, .i64, .u64, .i64], .fn 72 [.obj 62 [.v, .v, .v, .v, .v]]] false (g_idxW O Y)) (pspec [.roS [.i64, .i64, .i64, .u64, .i64], .fn 65 [.obj 3 [.v], .obj 3 [.v]]] false (g_idxCond O Y)))
 | f => spS15 O Y f
theorem spS16_ok (I : Sx.Interp) (O : OO) (hO : O = oo) (Y : OY) (hY : Y = yO O) : ∀ f s, spS16 O Y f = some s → Sx.SpecOK I Tryz.prog f s := by
 intro f s h
 unfold spS16 at h
 split at h
 · cases h; exact altS_ok (ok_idxW I O hO Y hY) (ok_idxCond I O hO Y hY)
 ·exact spS15_ok I O hO Y hY _ s h
def g_delF (O : OO) (Y : OY) (ds : List Dt) : Option (Bool × List Bool × (List Bool → Post)) := match ds with
 | [.structs l, .node [.node [.v (.int .i64 f), .v (.int .i64 i), .v (.int .i64 a), .v (.int .u64 q), .v (.int .i64 e)]]] => some ((Nat.ble l.length 1000) && (cnd l) && (inU q 18446744073709551616), [], fun _ => ⟨[.row 2], [(2, .ro (.structs [.i64, .i64, .i64, .u64, .i64] (remC [f, i, a, q, e] l))), (1, .blk 62 [.v (.int .i64 f), .v (.int .i64 i), .v (.int .i64 a), .v (.int .u64 q), .v (.int .i64 e)])]⟩)
 | _ => none
set_option maxHeartbeats 4000000 in
theorem vc_delF (O : OO) (Y : OY) (l : List (List Int)) (f i a q e : Int) (F : FO O) (hy : Y = yO O) (h1 : Nat.ble l.length 1000 = true) (g1 : cnd l = true) (g2 : inU q 18446744073709551616 = true) :
 If (l.length.ble 1000 && cnd l && inU q 18446744073709551616) (If (iBeq (idxS (isC [f, i, a, q, e]) l) (iNeg 1)) (True ∧ Cont.structs [.i64, .i64, .i64, .u64, .i64] l = Cont.structs
  [.i64, .i64, .i64, .u64, .i64] (remC [f, i, a, q, e] l) ∧ (Value.int .i64 f = Value.int .i64 f ∧ Value.int .i64 i = Value.int .i64 i ∧ Value.int .i64 a = Value.int .i64 a ∧
  Value.int .u64 q = Value.int .u64 q ∧ Value.int .i64 e = Value.int .i64 e) ∧ True) ((∃ (x : Nat × Nat × List (List Int)), (x.1.succ ≤ x.2.1 ∧ x.2.1 ≤ l.length ∧ x.2.2.length =
  l.length ∧ EqII (List.take x.1 x.2.2) (remC [f, i, a, q, e] (List.take x.2.1 l)) ∧ EqII (List.drop x.2.1 x.2.2) (List.drop x.2.1 l)) ∧ (Value.int .i64 (idxS (isC [f, i, a, q, e]) l)
  = Value.int .i64 (iOf x.1) ∧ Value.int .i64 (IntKind.i64.wrap (iAdd (idxS (isC [f, i, a, q, e]) l) 1)) = Value.int .i64 (iOf x.2.1) ∧ SV.fn (Fn.func 72)
  [SV.ptr 1 0] = SV.fn (Fn.func 72) [SV.ptr 1 0] ∧ True) ∧ Cont.structs [.i64, .i64, .i64, .u64, .i64] l = Cont.structs [.i64, .i64, .i64, .u64, .i64] x.2.2
  ∧ (Value.int .i64 f = Value.int .i64 f ∧ Value.int .i64 i = Value.int .i64 i ∧ Value.int .i64 a = Value.int .i64 a ∧ Value.int .u64 q = Value.int .u64 q ∧ Value.int .i64 e =
  Value.int .i64 e) ∧ True) ∧ ∀ (x : Nat × Nat × List (List Int)), x.1.succ ≤ x.2.1 ∧ x.2.1 ≤ l.length ∧ x.2.2.length = l.length ∧ EqII (List.take x.1 x.2.2) (remC [f, i, a, q, e]
  (List.take x.2.1 l)) ∧ EqII (List.drop x.2.1 x.2.2) (List.drop x.2.1 l) → If (iLt (iOf x.snd.fst) (iOf (Cont.structs [.i64, .i64, .i64, .u64, .i64] x.snd.snd).n)) (If (iLe 0 (iOf
  x.snd.fst) && (iOf x.2.1).toNat.blt x.2.2.length) (If (true && Nat.beq 5 5 && (iOf x.2.1).toNat.blt x.2.2.length) (If (inU ((x.2.2.getD (iOf x.2.1).toNat []).getD 3 0)
  18446744073709551616 && inU q 18446744073709551616) (If (!isC [f, i, a, q, e] [(x.2.2.getD (iOf x.2.1).toNat []).getD 0 0, (x.2.2.getD (iOf x.2.1).toNat []).getD 1 0, (x.2.2.getD
  (iOf x.2.1).toNat []).getD 2 0, (x.2.2.getD (iOf x.2.1).toNat []).getD 3 0, (x.2.2.getD (iOf x.2.1).toNat []).getD 4 0]) (If (iLe 0 (iOf x.fst) && (iOf x.1).toNat.blt x.2.2.length)
  (If ((iOf x.1).toNat.blt x.2.2.length) (∃ (x' : Nat × Nat × List (List Int)), (x'.1.succ ≤ x'.2.1 ∧ x'.2.1 ≤ l.length ∧ x'.2.2.length = l.length ∧ EqII (List.take x'.1 x'.2.2) (remC
  [f, i, a, q, e] (List.take x'.2.1 l)) ∧ EqII (List.drop x'.2.1 x'.2.2) (List.drop x'.2.1 l)) ∧ (nSub l.length x'.2.1).succ ≤ nSub l.length x.2.1 ∧ (Value.int .i64 (IntKind.i64.wrap
  (iAdd (iOf x.1) 1)) = Value.int .i64 (iOf x'.1) ∧ Value.int .i64 (IntKind.i64.wrap (iAdd (iOf x.2.1) 1)) = Value.int .i64 (iOf x'.2.1) ∧ SV.fn (Fn.func 72)
  [SV.ptr 1 0] = SV.fn (Fn.func 72) [SV.ptr 1 0] ∧ True) ∧ Cont.structs [.i64, .i64, .i64, .u64, .i64] (x.2.2.set (iOf x.1).toNat [(x.2.2.getD (iOf
  x.2.1).toNat []).getD 0 0, (x.2.2.getD (iOf x.2.1).toNat []).getD 1 0, (x.2.2.getD (iOf x.2.1).toNat []).getD 2 0, (x.2.2.getD (iOf x.2.1).toNat []).getD 3 0, (x.2.2.getD (iOf
  x.2.1).toNat []).getD 4 0]) = Cont.structs [.i64, .i64, .i64, .u64, .i64] x'.2.2 ∧ (Value.int .i64 f = Value.int .i64 f ∧ Value.int .i64 i = Value.int .i64 i ∧ Value.int .i64 a =
  Value.int .i64 a ∧ Value.int .u64 q = Value.int .u64 q ∧ Value.int .i64 e = Value.int .i64 e) ∧ True) False) False) (∃ (x' : Nat × Nat × List (List Int)), (x'.1.succ ≤ x'.2.1 ∧
  x'.2.1 ≤ l.length ∧ x'.2.2.length = l.length ∧ EqII (List.take x'.1 x'.2.2) (remC [f, i, a, q, e] (List.take x'.2.1 l)) ∧ EqII (List.drop x'.2.1 x'.2.2) (List.drop x'.2.1 l)) ∧
  (nSub l.length x'.2.1).succ ≤ nSub l.length x.2.1 ∧ (Value.int .i64 (iOf x.1) = Value.int .i64 (iOf x'.1) ∧ Value.int .i64 (IntKind.i64.wrap (iAdd (iOf x.2.1) 1)) = Value.int .i64
  (iOf x'.2.1) ∧ SV.fn (Fn.func 72) [SV.ptr 1 0] = SV.fn (Fn.func 72) [SV.ptr 1 0] ∧ True) ∧ Cont.structs [.i64, .i64, .i64, .u64,
  .i64] x.2.2 = Cont.structs [.i64, .i64, .i64, .u64, .i64] x'.2.2 ∧ (Value.int .i64 f = Value.int .i64 f ∧ Value.int .i64 i = Value.int .i64 i ∧ Value.int .i64 a = Value.int .i64 a ∧
  Value.int .u64 q = Value.int .u64 q ∧ Value.int .i64 e = Value.int .i64 e) ∧ True)) False) False) False) (If (iLe 0 (iOf x.fst) && iLe (iOf x.fst) (iOf (Cont.structs [.i64, .i64,
  .i64, .u64, .i64] x.snd.snd).n)) (If ((nAdd (iOf x.1).toNat (nSub x.2.2.length (iOf x.1).toNat)).beq x.2.2.length) (If (iLe 0 0 && iLe 0 (iOf x.fst) && iLe (iOf x.fst) (iOf
  (Cont.structs [.i64, .i64, .i64, .u64, .i64] (app (List.take (iOf x.fst).toNat x.snd.snd) (List.replicate (nSub (Cont.structs [.i64, .i64, .i64, .u64, .i64] x.snd.snd).n (iOf
  x.fst).toNat) [0, 0, 0, 0, 0]))).n)) (True ∧ Cont.structs [.i64, .i64, .i64, .u64, .i64] (List.take (nSub (iOf x.1).toNat 0) (List.drop 0 (app (List.take (iOf x.1).toNat x.2.2)
  (List.replicate (nSub x.2.2.length (iOf x.1).toNat) [0, 0, 0, 0, 0])))) = Cont.structs [.i64, .i64, .i64, .u64, .i64] (remC [f, i, a, q, e] l) ∧ (Value.int .i64 f = Value.int .i64 f
  ∧ Value.int .i64 i = Value.int .i64 i ∧ Value.int .i64 a = Value.int .i64 a ∧ Value.int .u64 q = Value.int .u64 q ∧ Value.int .i64 e = Value.int .i64 e) ∧ True) False) False)
  False))) False := by
 simp only [Sx.app, Sx.nAdd, Sx.nSub, Sx.nMul, Sx.nPow, Sx.nDiv, Sx.nMod, Sx.iAdd, Sx.iSub, Sx.iMul, Sx.iNeg, Sx.iPow, Sx.iOf]
 have hm := Nat.le_of_ble_eq_true h1
 refine Sx.if_true (by rw [h1, g1, g2]; rfl) (Sx.if_both (fun h => ⟨trivial, by rw [rem_none h], (by first | rfl | trivial)⟩) (fun h => ?_))
 obtain ⟨k, ek, hk, hk2⟩ := rem_some h
 refine ⟨⟨(k, k + 1, l), ⟨Nat.le_refl _, hk, rfl, hk2, rfl⟩, ⟨by rw [ek], by rw [ek, wrap_succ (by omega)], (by first | rfl | trivial)⟩, rfl, (by first | rfl | trivial)⟩, fun x hx => ?_⟩
 obtain ⟨x1, x2, x3, x4, x5⟩ := hx
 have x4 : x.2.2.take x.1 = remC [f, i, a, q, e] (l.take x.2.1) := x4
 have x5 : x.2.2.drop x.2.1 = l.drop x.2.1 := x5
 have tk : (x.2.2.take x.1).length = x.1 := by rw [List.length_take]; omega
 refine Sx.if_both (fun hj => ?_) (fun hj => ?_)
 ·simp only [Sx.Bz, Sx.Cont.n] at hj
  have hlt : x.2.1 < l.length := by omega
  have hbl : x.2.1.blt x.2.2.length = true := by rw [Nat.blt_eq]; omega
  have hb2 : x.1.blt x.2.2.length = true := by rw [Nat.blt_eq]; omega
  have hel : x.2.2.getD x.2.1 [] = l.getD x.2.1 [] := by
   have := congrArg (fun t : List (List Int) => t[0]?) x5
   simp only [List.getElem?_drop, Nat.add_zero] at this
   rw [List.getD_eq_getElem?_getD, List.getD_eq_getElem?_getD, this]
  have hd : x.2.2.drop (x.2.1 + 1) = l.drop (x.2.1 + 1) := by
   rw [← List.drop_drop, ← List.drop_drop, x5]
  simp only [Int.toNat_natCast, hel]
  refine Sx.if_true (by simp only [Sx.Bz, Sx.Cont.n, hbl, and_true]; omega) (Sx.if_true (by rw [hbl]; rfl) (Sx.if_true (by rw [cnd_at g1 hlt, g2]; rfl) (Sx.if_both (fun c => ?_) (fun c => ?_))))
  ·have hc : isC [f, i, a, q, e] (l.getD x.2.1 []) = false := by
    rw [cnd_five g1 hlt] at c
    simpa using c
   have hv := cnd_five g1 hlt
   refine Sx.if_true (by simp only [Sx.Bz, Sx.Cont.n, hb2, and_true]; omega) (Sx.if_true hb2 ⟨(x.1 + 1, x.2.1 + 1, x.2.2.set x.1 (l.getD x.2.1 [])), ⟨by simp only; omega, hlt, by simp only [List.length_set]; exact x3, ?_, ?_⟩, by simp only; omega, ⟨by rw [wrap_succ (by omega)], by rw [wrap_succ (by omega)], (by first | rfl | trivial)⟩, ?_, (by first | rfl | trivial)⟩)
   ·show (x.2.2.set x.1 (l.getD x.2.1 [])).take (x.1 + 1) = remC [f, i, a, q, e] (l.take (x.2.1 + 1))
    rw [rem_snoc [f, i, a, q, e] hlt, hc, List.set_eq_take_append_cons_drop, if_pos (by omega), List.take_append, List.take_of_length_le (by rw [tk]; omega), tk, show x.1 + 1 - x.1 = 1 by omega, x4]
    rfl
   ·show (x.2.2.set x.1 (l.getD x.2.1 [])).drop (x.2.1 + 1) = l.drop (x.2.1 + 1)
    rw [List.drop_set_of_lt (by omega), hd]
   ·show Cont.structs _ (x.2.2.set x.1 [(l.getD x.2.1 []).getD 0 0, (l.getD x.2.1 []).getD 1 0, (l.getD x.2.1 []).getD 2 0, (l.getD x.2.1 []).getD 3 0, (l.getD x.2.1 []).getD 4 0]) = _
    rw [hv]
  ·have hc : isC [f, i, a, q, e] (l.getD x.2.1 []) = true := by
    rw [cnd_five g1 hlt] at c
    simpa using c
   refine ⟨(x.1, x.2.1 + 1, x.2.2), ⟨by simp only; omega, hlt, x3, ?_, hd⟩, by simp only; omega, ⟨rfl, by rw [wrap_succ (by omega)], (by first | rfl | trivial)⟩, rfl, (by first | rfl | trivial)⟩
   show x.2.2.take x.1 = remC [f, i, a, q, e] (l.take (x.2.1 + 1))
   rw [rem_snoc [f, i, a, q, e] hlt, hc, x4]
   simp
 ·simp only [Sx.Bz, Sx.Cont.n] at hj
  have hj2 : x.2.1 = l.length := by omega
  simp only [Int.toNat_natCast]
  refine Sx.if_true (by simp only [Sx.Bz, Sx.Cont.n]; omega) (Sx.if_true (by simp only [Sx.Bz, Sx.Cont.n]; omega) (Sx.if_true (by simp only [Sx.Bz, Sx.Cont.n, List.length_append, List.length_take, List.length_replicate]; omega) ⟨trivial, ?_, (by first | rfl | trivial)⟩))
  rw [hj2, List.take_of_length_le (Nat.le_refl _)] at x4
  rw [← x4, List.drop_zero, Nat.sub_zero, List.take_left' tk]
theorem wpc_delF (O : OO) (Y : OY) (l : List (List Int)) (f i a q e : Int) (F : FO O) (hy : Y = yO O) (h1 : Nat.ble l.length 1000 = true) (g1 : cnd l = true) (g2 : inU q 18446744073709551616 = true) : wpcI Tryz.prog (spS16 O Y) Tryz.f71.ntmps [⟨Nat × Nat × List (List Int), [0, 1], [], fun B x => [(5, .v (.int .i64 (x.1 : Int))), (6, .v (.int .i64 (x.2.1 : Int)))], fun B x => [(0, .own 62 (.structs [.i64, .i64, .i64, .u64, .i64] x.2.2))], fun x => x.1 < x.2.1 ∧ x.2.1 ≤ l.length ∧ x.2.2.length = l.length ∧ x.2.2.take x.1 = remC [f, i, a, q, e] (l.take x.2.1) ∧ x.2.2.drop x.2.1 = l.drop x.2.1, fun x => l.length - x.2.1, 0⟩] (bodyOf Tryz.f71) 0 64 (envP (mks [.ownS 62 [.i64, .i64, .i64, .u64, .i64], .fn 72 [.obj 62 [.v, .v, .v, .v, .v]]] [.structs l, .node [.node [.v (.int .i64 f), .v (.int .i64 i), .v (.int .i64 a), .v (.int .u64 q), .v (.int .i64 e)]]] 0).1 0) (mks [.ownS 62 [.i64, .i64, .i64, .u64, .i64], .fn 72 [.obj 62 [.v, .v, .v, .v, .v]]] [.structs l, .node [.node [.v (.int .i64 f), .v (.int .i64 i), .v (.int .i64 a), .v (.int .u64 q), .v (.int .i64 e)]]] 0).2 (retP Tryz.prog Tryz.f71.results.toList 2 (⟨[.row 2], [(2, .ro (.structs [.i64, .i64, .i64, .u64, .i64] (remC [f, i, a, q, e] l))), (1, .blk 62 [.v (.int .i64 f), .v (.int .i64 i), .v (.int .i64 a), .v (.int .u64 q), .v (.int .i64 e)])]⟩ : Post)) :=
 Eq.mpr (by kernel_rfl) (vc_delF O Y l f i a q e F hy h1 g1 g2)
theorem ok_delF (I : Sx.Interp) (O : OO) (hO : O = oo) (Y : OY) (hY : Y = yO O) : Sx.SpecOK I Tryz.prog 71 (pspec [.ownS 62 [.i64, .i64, .i64, .u64, .i64], .fn 72 [.obj 62 [.v, .v, .v, .v, .v]]] true (g_delF O Y)) := by
 refine spec_patI (spS16_ok I O hO Y hY) (by kernel_rfl) (fun ds => match ds with | [.structs l, .node [.node [.v (.int .i64 f), .v (.int .i64 i), .v (.int .i64 a), .v (.int .u64 q), .v (.int .i64 e)]]] => [⟨Nat × Nat × List (List Int), [0, 1], [], fun B x => [(5, .v (.int .i64 (x.1 : Int))), (6, .v (.int .i64 (x.2.1 : Int)))], fun B x => [(0, .own 62 (.structs [.i64, .i64, .i64, .u64, .i64] x.2.2))], fun x => x.1 < x.2.1 ∧ x.2.1 ≤ l.length ∧ x.2.2.length = l.length ∧ x.2.2.take x.1 = remC [f, i, a, q, e] (l.take x.2.1) ∧ x.2.2.drop x.2.1 = l.drop x.2.1, fun x => l.length - x.2.1, 0⟩] | _ => []) Tryz.func71 (by kernel_rfl) (by kernel_rfl) rfl Tryz.ntmps71 (by decide) ?_ ?_
 ·intro ds p bs F h
  unfold g_delF at h
  split at h
  ·simp only [Option.some.injEq, Prod.mk.injEq] at h
   obtain ⟨_, _, rfl⟩ := h
   kernel_rfl
  ·cases h
 ·intro ds bs F hl h
  unfold g_delF at h
  split at h
  ·rename_i l f i a q e
   simp only [Option.some.injEq, Prod.mk.injEq, Bool.and_eq_true] at h
   obtain ⟨⟨⟨h1, g1⟩, g2⟩, _, rfl⟩ := h
   exact wpc_delF O Y l f i a q e (fo_oo O hO) hY h1 g1 g2
  ·cases h
def spS17 (O : OO) (Y : OY) (f : FuncId) : Option Sx.Spec := match f with
 | 71 => some (pspec [.ownS 62 [.i64, .i64, .i64, .u64, .i64], .fn 72 [.obj 62 [.v, .v, .v, .v, .v]]] true (g_delF O Y))
 | 67 => some (pspec [.ownS 62 [.i64, .i64, .i64, .u64, .i64], .v, .lit 62 1 [.v, .v, .v, .v, .v]] false g_ins)
 | f => spS16 O Y f
theorem spS17_ok (I : Sx.Interp) (O : OO) (hO : O = oo) (Y : OY) (hY : Y = yO O) : ∀ f s, spS17 O Y f = some s → Sx.SpecOK I Tryz.prog f s := by
 intro f s h
 unfold spS17 at h
 split at h
 · cases h; exact ok_delF I O hO Y hY
 · cases h; exact ok_ins I
 ·exact spS16_ok I O hO Y hY _ s h
def g_with (O : OO) (Y : OY) (ds : List Dt) : Option (Bool × List Bool × (List Bool → Post)) := match ds with
 | [.node [.v (.int .i64 no), .v (.int .i64 h0), .v (.int .i64 h1), .structs l, .v (.int .i64 rt)], .v (.agg ⟨[.int .i64 f, .int .i64 i, .int .i64 a, .int .u64 q, .int .i64 e]⟩)] => some ((Nat.ble l.length 1000) && (cnd l) && (inU q 18446744073709551616) && (bsB [f, i, a, q, e] l), [], fun _ => ⟨[.agg [.v (.int .i64 no), .v (.int .i64 h0), .v (.int .i64 h1), .row 1, .v (.int .i64 rt)]], [(1, .own 62 (.structs [.i64, .i64, .i64, .u64, .i64] (insC [f, i, a, q, e] l)))]⟩)
 | _ => none
set_option maxHeartbeats 4000000 in
theorem vc_with (O : OO) (Y : OY) (no h0 h1 rt : Int) (l : List (List Int)) (f i a q e : Int) (F : FO O) (hy : Y = yO O) (g0 : Nat.ble l.length 1000 = true) (g1 : cnd l = true) (g2 : inU q 18446744073709551616 = true) (g3 : bsB [f, i, a, q, e] l = true) :
 If (l.length.ble 1000 && cnd l && inU q 18446744073709551616 && bsB [f, i, a, q, e] l) (If (l.length.ble 1000) (If (l.length.ble 1000 && (iLe 0 (iOf (cntA [f, i, a, q, e] l)) && iLe
  (iOf (cntA [f, i, a, q, e] l)) (iOf l.length))) ((Value.int .i64 no = Value.int .i64 no ∧ Value.int .i64 h0 = Value.int .i64 h0 ∧ Value.int .i64 h1 = Value.int .i64 h1 ∧ Value.int
  .i64 rt = Value.int .i64 rt) ∧ True ∧ Cont.structs [.i64, .i64, .i64, .u64, .i64] (app (app (List.take (iOf (cntA [f, i, a, q, e] l)).toNat l) [[f, i, a, q, e]]) (List.drop (iOf
  (cntA [f, i, a, q, e] l)).toNat l)) = Cont.structs [.i64, .i64, .i64, .u64, .i64] (insC [f, i, a, q, e] l) ∧ True) False) False) False := by
 have hcn := cnt_le [f, i, a, q, e] l
 exact Sx.if_true (by rw [g0, g1, g2, g3]; rfl) (Sx.if_true g0 (Sx.if_true (by rw [g0, Bool.true_and]; simp only [iOf, Sx.Bz, Sx.Cont.n]; omega) ⟨⟨rfl, rfl, rfl, rfl⟩, trivial, rfl, trivial⟩))
theorem wpc_with (O : OO) (Y : OY) (no h0 h1 rt : Int) (l : List (List Int)) (f i a q e : Int) (F : FO O) (hy : Y = yO O) (g0 : Nat.ble l.length 1000 = true) (g1 : cnd l = true) (g2 : inU q 18446744073709551616 = true) (g3 : bsB [f, i, a, q, e] l = true) : wpcI Tryz.prog (spS17 O Y) Tryz.f34.ntmps [] (bodyOf Tryz.f34) 0 64 (envP (mks [.agg [.v, .v, .v, .roS [.i64, .i64, .i64, .u64, .i64], .v], .v] [.node [.v (.int .i64 no), .v (.int .i64 h0), .v (.int .i64 h1), .structs l, .v (.int .i64 rt)], .v (.agg ⟨[.int .i64 f, .int .i64 i, .int .i64 a, .int .u64 q, .int .i64 e]⟩)] 0).1 0) (mks [.agg [.v, .v, .v, .roS [.i64, .i64, .i64, .u64, .i64], .v], .v] [.node [.v (.int .i64 no), .v (.int .i64 h0), .v (.int .i64 h1), .structs l, .v (.int .i64 rt)], .v (.agg ⟨[.int .i64 f, .int .i64 i, .int .i64 a, .int .u64 q, .int .i64 e]⟩)] 0).2 (retP Tryz.prog Tryz.f34.results.toList 1 (⟨[.agg [.v (.int .i64 no), .v (.int .i64 h0), .v (.int .i64 h1), .row 1, .v (.int .i64 rt)]], [(1, .own 62 (.structs [.i64, .i64, .i64, .u64, .i64] (insC [f, i, a, q, e] l)))]⟩ : Post)) :=
 Eq.mpr (by kernel_rfl) (vc_with O Y no h0 h1 rt l f i a q e F hy g0 g1 g2 g3)
theorem ok_with (I : Sx.Interp) (O : OO) (hO : O = oo) (Y : OY) (hY : Y = yO O) : Sx.SpecOK I Tryz.prog 34 (pspec [.agg [.v, .v, .v, .roS [.i64, .i64, .i64, .u64, .i64], .v], .v] false (g_with O Y)) := by
 refine spec_patI (spS17_ok I O hO Y hY) (by kernel_rfl) (fun ds => match ds with | [.node [.v (.int .i64 no), .v (.int .i64 h0), .v (.int .i64 h1), .structs l, .v (.int .i64 rt)], .v (.agg ⟨[.int .i64 f, .int .i64 i, .int .i64 a, .int .u64 q, .int .i64 e]⟩)] => [] | _ => []) Tryz.func34 (by kernel_rfl) (by kernel_rfl) rfl Tryz.ntmps34 (by decide) ?_ ?_
 ·intro ds p bs F h
  unfold g_with at h
  split at h
  ·simp only [Option.some.injEq, Prod.mk.injEq] at h
   obtain ⟨_, _, rfl⟩ := h
   kernel_rfl
  ·cases h
 ·intro ds bs F hl h
  unfold g_with at h
  split at h
  ·rename_i no h0 h1 l rt f i a q e
   simp only [Option.some.injEq, Prod.mk.injEq, Bool.and_eq_true] at h
   obtain ⟨⟨⟨⟨g0, g1⟩, g2⟩, g3⟩, _, rfl⟩ := h
   exact wpc_with O Y no h0 h1 rt l f i a q e (fo_oo O hO) hY g0 g1 g2 g3
  ·cases h
def g_without (O : OO) (Y : OY) (ds : List Dt) : Option (Bool × List Bool × (List Bool → Post)) := match ds with
 | [.node [.v (.int .i64 no), .v (.int .i64 h0), .v (.int .i64 h1), .structs l, .v (.int .i64 rt)], .v (.agg ⟨[.int .i64 f, .int .i64 i, .int .i64 a, .int .u64 q, .int .i64 e]⟩), .v (.int .i64 side)] => some ((Nat.ble l.length 1000) && (cnd l) && (inU q 18446744073709551616) && (allW 0 1 [side]), [], fun _ => ⟨[.agg [.v (.int .i64 no), .v (.int .i64 (bif iBeq side 0 then IntKind.i64.wrap (h0 + a) else h0)), .v (.int .i64 (bif iBeq side 0 then h1 else IntKind.i64.wrap (h1 + a))), .row 1, .v (.int .i64 rt)]], [(1, .ro (.structs [.i64, .i64, .i64, .u64, .i64] (remC [f, i, a, q, e] l)))]⟩)
 | _ => none
set_option maxHeartbeats 4000000 in
theorem vc_without (O : OO) (Y : OY) (no h0 h1 rt : Int) (l : List (List Int)) (f i a q e side : Int) (F : FO O) (hy : Y = yO O) (g0 : Nat.ble l.length 1000 = true) (g1 : cnd l = true) (g2 : inU q 18446744073709551616 = true) (g3 : allW 0 1 [side] = true) :
 If (l.length.ble 1000) (If (l.length.ble 1000 && cnd l && inU q 18446744073709551616) (If (iEq side (iOf 0)) (If (iEq side (iOf 0)) ((Value.int .i64 no = Value.int .i64 no ∧
  Value.int .i64 (IntKind.i64.wrap (iAdd h0 a)) = Value.int .i64 (bif iBeq side 0 then IntKind.i64.wrap (iAdd h0 a) else h0) ∧ Value.int .i64 h1 = Value.int .i64 (bif iBeq side 0 then
  h1 else IntKind.i64.wrap (iAdd h1 a)) ∧ Value.int .i64 rt = Value.int .i64 rt) ∧ True ∧ Cont.structs [.i64, .i64, .i64, .u64, .i64] (remC [f, i, a, q, e] l) = Cont.structs [.i64,
  .i64, .i64, .u64, .i64] (remC [f, i, a, q, e] l) ∧ True) (If (iEq side (iOf (nAdd 0 1))) ((Value.int .i64 no = Value.int .i64 no ∧ Value.int .i64 h0 = Value.int .i64 (bif iBeq side
  0 then IntKind.i64.wrap (iAdd h0 a) else h0) ∧ Value.int .i64 (IntKind.i64.wrap (iAdd h0 a)) = Value.int .i64 (bif iBeq side 0 then h1 else IntKind.i64.wrap (iAdd h1 a)) ∧ Value.int
  .i64 rt = Value.int .i64 rt) ∧ True ∧ Cont.structs [.i64, .i64, .i64, .u64, .i64] (remC [f, i, a, q, e] l) = Cont.structs [.i64, .i64, .i64, .u64, .i64] (remC [f, i, a, q, e] l) ∧
  True) False)) (If (iEq side (iOf (nAdd 0 1))) (If (iEq side (iOf 0)) ((Value.int .i64 no = Value.int .i64 no ∧ Value.int .i64 (IntKind.i64.wrap (iAdd h1 a)) = Value.int .i64 (bif
  iBeq side 0 then IntKind.i64.wrap (iAdd h0 a) else h0) ∧ Value.int .i64 h1 = Value.int .i64 (bif iBeq side 0 then h1 else IntKind.i64.wrap (iAdd h1 a)) ∧ Value.int .i64 rt =
  Value.int .i64 rt) ∧ True ∧ Cont.structs [.i64, .i64, .i64, .u64, .i64] (remC [f, i, a, q, e] l) = Cont.structs [.i64, .i64, .i64, .u64, .i64] (remC [f, i, a, q, e] l) ∧ True) (If
  (iEq side (iOf (nAdd 0 1))) ((Value.int .i64 no = Value.int .i64 no ∧ Value.int .i64 h0 = Value.int .i64 (bif iBeq side 0 then IntKind.i64.wrap (iAdd h0 a) else h0) ∧ Value.int .i64
  (IntKind.i64.wrap (iAdd h1 a)) = Value.int .i64 (bif iBeq side 0 then h1 else IntKind.i64.wrap (iAdd h1 a)) ∧ Value.int .i64 rt = Value.int .i64 rt) ∧ True ∧ Cont.structs [.i64,
  .i64, .i64, .u64, .i64] (remC [f, i, a, q, e] l) = Cont.structs [.i64, .i64, .i64, .u64, .i64] (remC [f, i, a, q, e] l) ∧ True) False)) False)) False) False := by
 refine Sx.if_true g0 (Sx.if_true (by rw [g0, g1, g2]; rfl) (Sx.if_both (fun e1 => Sx.if_true e1 ?_) (fun e1 => Sx.if_true (side01 g3 e1) (Sx.if_false e1 (Sx.if_true (side01 g3 e1) ?_)))))
 ·have : side = 0 := of_decide_eq_true e1
  subst this
  exact ⟨⟨rfl, rfl, rfl, rfl⟩, trivial, rfl, trivial⟩
 ·have hs : iBeq side 0 = false := by
   rw [iBeq_f]
   exact of_decide_eq_false e1
  rw [hs]
  exact ⟨⟨rfl, rfl, rfl, rfl⟩, trivial, rfl, trivial⟩
theorem wpc_without (O : OO) (Y : OY) (no h0 h1 rt : Int) (l : List (List Int)) (f i a q e side : Int) (F : FO O) (hy : Y = yO O) (g0 : Nat.ble l.length 1000 = true) (g1 : cnd l = true) (g2 : inU q 18446744073709551616 = true) (g3 : allW 0 1 [side] = true) : wpcI Tryz.prog (spS17 O Y) Tryz.f37.ntmps [] (bodyOf Tryz.f37) 0 64 (envP (mks [.agg [.v, .v, .v, .roS [.i64, .i64, .i64, .u64, .i64], .v], .v, .v] [.node [.v (.int .i64 no), .v (.int .i64 h0), .v (.int .i64 h1), .structs l, .v (.int .i64 rt)], .v (.agg ⟨[.int .i64 f, .int .i64 i, .int .i64 a, .int .u64 q, .int .i64 e]⟩), .v (.int .i64 side)] 0).1 0) (mks [.agg [.v, .v, .v, .roS [.i64, .i64, .i64, .u64, .i64], .v], .v, .v] [.node [.v (.int .i64 no), .v (.int .i64 h0), .v (.int .i64 h1), .structs l, .v (.int .i64 rt)], .v (.agg ⟨[.int .i64 f, .int .i64 i, .int .i64 a, .int .u64 q, .int .i64 e]⟩), .v (.int .i64 side)] 0).2 (retP Tryz.prog Tryz.f37.results.toList 1 (⟨[.agg [.v (.int .i64 no), .v (.int .i64 (bif iBeq side 0 then IntKind.i64.wrap (h0 + a) else h0)), .v (.int .i64 (bif iBeq side 0 then h1 else IntKind.i64.wrap (h1 + a))), .row 1, .v (.int .i64 rt)]], [(1, .ro (.structs [.i64, .i64, .i64, .u64, .i64] (remC [f, i, a, q, e] l)))]⟩ : Post)) :=
 Eq.mpr (by kernel_rfl) (vc_without O Y no h0 h1 rt l f i a q e side F hy g0 g1 g2 g3)
theorem ok_without (I : Sx.Interp) (O : OO) (hO : O = oo) (Y : OY) (hY : Y = yO O) : Sx.SpecOK I Tryz.prog 37 (pspec [.agg [.v, .v, .v, .roS [.i64, .i64, .i64, .u64, .i64], .v], .v, .v] true (g_without O Y)) := by
 refine spec_patI (spS17_ok I O hO Y hY) (by kernel_rfl) (fun ds => match ds with | [.node [.v (.int .i64 no), .v (.int .i64 h0), .v (.int .i64 h1), .structs l, .v (.int .i64 rt)], .v (.agg ⟨[.int .i64 f, .int .i64 i, .int .i64 a, .int .u64 q, .int .i64 e]⟩), .v (.int .i64 side)] => [] | _ => []) Tryz.func37 (by kernel_rfl) (by kernel_rfl) rfl Tryz.ntmps37 (by decide) ?_ ?_
 ·intro ds p bs F h
  unfold g_without at h
  split at h
  ·simp only [Option.some.injEq, Prod.mk.injEq] at h
   obtain ⟨_, _, rfl⟩ := h
   kernel_rfl
  ·cases h
 ·intro ds bs F hl h
  unfold g_without at h
  split at h
  ·rename_i no h0 h1 l rt f i a q e side
   simp only [Option.some.injEq, Prod.mk.injEq, Bool.and_eq_true] at h
   obtain ⟨⟨⟨⟨g0, g1⟩, g2⟩, g3⟩, _, rfl⟩ := h
   exact wpc_without O Y no h0 h1 rt l f i a q e side (fo_oo O hO) hY g0 g1 g2 g3
  ·cases h
end Go.Proofs.YtcdmmfelagbpdaaGreat
