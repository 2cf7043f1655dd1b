/- Sheet: the library's functions on conditions, with and without a condition (printed by genSh.py; VCs by VcTool). -/
import Derived.Test.YtgekiddgdjeaiaaGreatSh4
import Derived.Test.YtgekiddgdjeaiaaGreatIn
namespace Go.Proofs.YtgekiddgdjeaiaaGreat
open Go.RowKit Go.Lib Ckp Cfd Cpd Sx
open IntKind (i64 u64 u8 i32 u32)
set_option linter.unusedVariables false
set_option linter.unusedSimpArgs false
set_option maxRecDepth 1000000
set_option maxHeartbeats 4000000
def auf (a b : List Int) : Int := orZ (qx (a.getD 0 0) (b.getD 0 0)) (qx (a.getD 1 0) (b.getD 1 0))
def pA (q x : List Int) : Bool := iLt (auf x q) 0
def qy (q : List Int) (l : List (List Int)) : Nat := l.countP (pA q)
def bsB (q : List Int) (l : List (List Int)) : Bool := (List.range l.length).all fun k => Nat.blt k (qy q l) == pA q (l.getD k [])
def apw (q : List Int) (l : List (List Int)) : Bool := bif iLt (qy q l : Int) (l.length : Int) then ax (auf (l.getD (qy q l) []) q) 0 else false
def isC (q x : List Int) : Bool := ax (auf x q) 0
def mg (q : List Int) (l : List (List Int)) : List (List Int) := l.filter fun x => !(isC q x)
def bn (q : List Int) (l : List (List Int)) : List (List Int) := l.take (qy q l) ++ [q] ++ l.drop (qy q l)
def bpv (g : FuncId) (args : List SV) : Bool := match args with
 | [_, .fn (.func h) _] => Nat.beq h g
 | _ => false
theorem a3a {q : List Int} {l : List (List Int)} (h : bsB q l = true) {k : Nat} (hk : k < l.length) : (pA q (l.getD k []) = true ↔ k < qy q l) := by
 unfold bsB at h
 have := List.all_eq_true.1 h k (List.mem_range.2 hk)
 rw [beq_iff_eq] at this
 rw [← this, Nat.blt_eq]
theorem aoa (q : List Int) {l : List (List Int)} {j : Nat} (h : j < l.length) : mg q (l.take (j + 1)) = mg q (l.take j) ++ (bif isC q (l.getD j []) then [] else [l.getD j []]) := by
 unfold mg
 rw [List.take_add_one, List.getElem?_eq_getElem h, List.filter_append]
 have e : l.getD j [] = l[j] := by rw [List.getD_eq_getElem?_getD, List.getElem?_eq_getElem h]; rfl
 rw [e]
 cases hc : isC q l[j] <;> simp [hc]
theorem ban {q : List Int} {l : List (List Int)} (h : ax (ed (isC q) l) (-1) = true) : mg q l = l := by
 have e : ed (isC q) l = -1 := by rw [ab9] at h; exact h
 unfold ed at e
 cases hf : l.findIdx? (isC q) with
 | none =>
  rw [List.findIdx?_eq_none_iff] at hf
  unfold mg
  rw [List.filter_eq_self]
  intro x hx
  rw [hf x hx]; rfl
 | some i => rw [hf] at e; simp only at e; omega
theorem bdo {q : List Int} {l : List (List Int)} (h : ax (ed (isC q) l) (-1) = false) : ∃ k : Nat, ed (isC q) l = (k : Int) ∧ k < l.length ∧ l.take k = mg q (l.take (k + 1)) := by
 have e : ¬ ed (isC q) l = -1 := by rw [akg] at h; exact h
 unfold ed at e ⊢
 cases hf : l.findIdx? (isC q) with
 | none => rw [hf] at e; exact absurd rfl e
 | some k =>
  rw [List.findIdx?_eq_some_iff_getElem] at hf
  obtain ⟨hk, h1, h2⟩ := hf
  refine ⟨k, rfl, hk, ?_⟩
  have ek : l.getD k [] = l[k] := by rw [List.getD_eq_getElem?_getD, List.getElem?_eq_getElem hk]; rfl
  rw [aoa q hk, ek, h1]
  simp only [cond_true, List.append_nil]
  unfold mg
  symm
  rw [List.filter_eq_self]
  intro x hx
  obtain ⟨j, hj, rfl⟩ := List.getElem_of_mem hx
  simp only [List.length_take] at hj
  rw [List.getElem_take]
  have := h2 j (by omega)
  simpa using this
theorem cnt_le (q : List Int) (l : List (List Int)) : qy q l ≤ l.length := List.countP_le_length
theorem ayj {i j : Nat} (h : i + j ≤ 4000) : i64.wrap ((u64.wrap (i64.wrap ((i : Int) + (j : Int)))).fdiv (2 ^ min (1 : Int).toNat u64.bits)) = (((i + j) / 2 : Nat) : Int) := by
 rw [IntWalk.i64_in ((i : Int) + (j : Int)) (by omega), IntKind.wrap_u64]
 have e : (2 : Int) ^ min (1 : Int).toNat u64.bits = 2 := by rfl
 rw [e, Int.fdiv_eq_ediv_of_nonneg _ (by decide), IntWalk.i64_in _ (by omega)]
 omega
theorem a4z {i j : Nat} (h : i + j ≤ 4000) : i64.wrap ((u64.wrap (i64.wrap ((i : Int) + (j : Int)))).fdiv (2 ^ 1)) = (((i + j) / 2 : Nat) : Int) := ayj h
def a9p (O : OO) (Y : OY) (f : FuncId) : Option Sx.Spec := match f with
 | 21 => some (au [.v, .agg [.v, .v, .v, .roS [.i64, .i64, .i64, .u64, .i64], .v]] false (ajh O Y))
 | f => bcv O Y f
theorem ajb (I : Sx.Interp) (O : OO) (hO : O = oo) (Y : OY) (hY : Y = yO O) : ∀ f s, a9p O Y f = some s → ag I Tryz.prog f s := by
 intro f s h
 unfold a9p at h
 split at h
 · cases h; exact a7s I O hO Y hY
 ·exact ax9 I O hO Y hY _ s h
def aiz (O : OO) (Y : OY) (ds : List Dt) : zG := match ds with
 | [.structs l] => some ((Nat.ble l.length 1000), [], fun _ => ⟨[.row 1], [(1, .own 41 (.structs [.i64, .i64, .i64, .u64, .i64] l))]⟩)
 | _ => none
theorem a6t (O : OO) (Y : OY) (l : List (List Int)) (F : FO O) (hy : Y = yO O) (g0 : Nat.ble l.length 1000 = true) :
 If (l.length.beq 0) (True ∧ cS [] = cS l ∧ True) True ∧ If ((jd l.length 40).ble 140737488355328 && l.length.ble 9223372036854775807) (True ∧ cS l = cS l ∧ True) False := by
 have hm := zbL g0
 exact ⟨ae (fun h => ⟨trivial, by rw [List.eq_nil_of_length_eq_zero (zbE h)], trivial⟩) (fun _ => trivial), ziT (by simp only [zUn, zaT, Nat.ble_eq]; omega) ⟨trivial, rfl, trivial⟩⟩
theorem a7d (I : Sx.Interp) (O : OO) (hO : O = oo) (Y : OY) (hY : Y = yO O) : ag I Tryz.prog 44 (au [.roS [.i64, .i64, .i64, .u64, .i64]] false (aiz O Y)) := by
 refine yc (ajb I O hO Y hY) (by kernel_rfl) (fun _ => []) (fun ds => match ds with | [.structs l] => [(2, 41, .structs [.i64, .i64, .i64, .u64, .i64] [])] | _ => []) Tryz.func44 (by kernel_rfl) (by kernel_rfl) rfl Tryz.ntmps44 (by decide) ?_ ?_
 ·intro ds p bs F h
  unfold aiz at h
  split at h
  ·simp only [zsI, zpI] at h
   obtain ⟨_, _, rfl⟩ := h
   kernel_rfl
  ·cases h
 ·intro ds bs F hl h
  unfold aiz at h
  split at h
  ·rename_i l
   simp only [zsI, zpI, zaT] at h
   obtain ⟨g0, _, rfl⟩ := h
   exact Eq.mpr (by kernel_rfl) (a6t O Y l (dn O hO) hY g0)
  ·cases h
def ahb (O : OO) (Y : OY) (ds : List Dt) : zG := match ds with
 | [.structs l, .v (.agg ⟨[.int .i64 f, .int .i64 i, .int .i64 a, .int .u64 q, .int .i64 e]⟩), .node []] => some ((Nat.ble l.length 1000) && (cnd l) && (inU q 18446744073709551616) && (bsB [f, i, a, q, e] l), [], fun _ => ⟨[.v (.int .i64 (qy [f, i, a, q, e] l : Nat)), .v (.bool (apw [f, i, a, q, e] l))], []⟩)
 | _ => none
theorem a03 (O : OO) (Y : OY) (l : List (List Int)) (f i a q e : Int) (F : FO O) (hy : Y = yO O) (g0 : Nat.ble l.length 1000 = true) (g1 : cnd l = true) (g2 : inU q 18446744073709551616 = true) (g3 : bsB [f, i, a, q, e] l = true) :
 let T1 := df 2 (min (Int.toNat 1) u64.bits); (∃ (x : Nat × Nat), (x.1 ≤ qy [f, i, a, q, e] l ∧ qy [f, i, a, q, e] l ≤ x.2 ∧ x.2 ≤ l.length) ∧ (vI 0 = vI (iOf x.1) ∧ vI
  (iOf l.length) = vI (iOf x.2) ∧ SV.fn (Fn.func 59) [] = SV.fn (Fn.func 59) [] ∧ vI (iOf l.length) = vI (iOf l.length) ∧ True) ∧ Array.mk
  [vI f, vI i, vI a, Value.int .u64 q, vI e] = Array.mk [vI f, vI i, vI a, Value.int .u64 q, vI e] ∧ cS l = cS l ∧ True) ∧ ∀ (x : Nat × Nat), let T2 := i64.wrap ((u64.wrap (i64.wrap (dh (iOf x.1) (iOf x.2)))).fdiv (df 2 1));
  let T3 := i64.wrap ((u64.wrap (i64.wrap (dh (iOf x.fst) (iOf x.snd)))).fdiv T1); x.1 ≤ qy [f, i, a, q, e] l ∧ qy [f, i, a, q, e] l ≤ x.2 ∧ x.2 ≤
  l.length → If (iLt (iOf x.fst) (iOf x.snd)) (If (iLe 0 T3 && T2.toNat.blt l.length) (If (true && Nat.beq 5 5 && T2.toNat.blt l.length) (If (inU ((l.getD T2.toNat []).getD 3 0)
  18446744073709551616 && inU q 18446744073709551616) (If (iLt (orZ (qx ((l.getD T3.toNat []).getD 0 0) f) (qx ((l.getD T3.toNat []).getD (ay 0 1) 0) i)) 0) (∃ (x' : Nat × Nat),
  (x'.1 ≤ qy [f, i, a, q, e] l ∧ qy [f, i, a, q, e] l ≤ x'.2 ∧ x'.2 ≤ l.length) ∧ (iy x'.2 x'.1).succ ≤ iy x.2 x.1 ∧ (vI (i64.wrap (dh T2 1)) = vI (iOf x'.1) ∧ vI
  (iOf x.2) = vI (iOf x'.2) ∧ SV.fn (Fn.func 59) [] = SV.fn (Fn.func 59) [] ∧ vI (iOf l.length) = vI (iOf l.length) ∧ True) ∧ Array.mk [vI
  f, vI i, vI a, Value.int .u64 q, vI e] = Array.mk [vI f, vI i, vI a, Value.int .u64 q, vI e] ∧ cS l = cS l ∧ True) (∃ (x' : Nat × Nat), (x'.1 ≤ qy [f, i, a, q, e] l ∧ qy [f, i,
  a, q, e] l ≤ x'.2 ∧ x'.2 ≤ l.length) ∧ (iy x'.2 x'.1).succ ≤ iy x.2 x.1 ∧ (vI (iOf x.1) = vI (iOf x'.1) ∧ vI T2 = vI (iOf x'.2) ∧ SV.fn (Fn.func 59) [] =
  SV.fn (Fn.func 59) [] ∧ vI (iOf l.length) = vI (iOf l.length) ∧ True) ∧ Array.mk [vI f, vI i, vI a, Value.int .u64 q, vI e] = Array.mk [vI f, vI i, vI a,
  Value.int .u64 q, vI e] ∧ cS l = cS l ∧ True)) False) False) False) (If (iLt (iOf x.fst) (iOf (cS l).n)) (If (iLe 0 (iOf x.fst) && (iOf x.1).toNat.blt l.length) (If (true && Nat.beq
  5 5 && (iOf x.1).toNat.blt l.length) (If (inU ((l.getD (iOf x.1).toNat []).getD 3 0) 18446744073709551616 && inU q 18446744073709551616) ((vI (iOf x.1) = vI (iOf (qy [f, i, a, q,
  e] l)) ∧ vB (ax (orZ (qx ((l.getD (iOf x.1).toNat []).getD 0 0) f) (qx ((l.getD (iOf x.1).toNat []).getD 1 0) i)) 0) = vB (apw [f, i, a, q, e] l)) ∧ True ∧ True) False)
  False) False) ((vI (iOf x.1) = vI (iOf (qy [f, i, a, q, e] l)) ∧ vB false = vB (apw [f, i, a, q, e] l)) ∧ True ∧ True)) := by
 conv => zeta
 simp only [zUn]
 have hm := zbL g0
 have hcn := cnt_le [f, i, a, q, e] l
 refine ⟨⟨(0, l.length), ⟨Nat.zero_le _, hcn, Nat.le_refl _⟩, ⟨rfl, (by first | rfl | trivial)⟩, (by first | rfl | trivial)⟩, fun x hx => ae (fun h => ?_) (fun h => ?_)⟩
 ·simp only [Bz, Sx.af.n] at h
  have hxy : x.1 < x.2 := by omega
  have hlt : (x.1 + x.2) / 2 < l.length := by omega
  have hbl : ((x.1 + x.2) / 2).blt l.length = true := by rw [Nat.blt_eq]; exact hlt
  simp only [ayj (i := x.1) (j := x.2) (by omega), a4z (i := x.1) (j := x.2) (by omega), ztN]
  refine ziT (by simp only [Bz, Sx.af.n, hbl, and_true]; omega) (ziT (by rw [hbl]; rfl) (ziT (by rw [aaz g1 hlt, g2]; rfl) (ae (fun c => ?_) (fun c => ?_))))
  ·have hc := (a3a g3 hlt).1 c
   exact ⟨((x.1 + x.2) / 2 + 1, x.2), ⟨hc, hx.2⟩, by omega, ⟨by rw [wrap_succ (by omega)], (by first | rfl | trivial)⟩, (by first | rfl | trivial)⟩
  ·have hc : ¬ (x.1 + x.2) / 2 < qy [f, i, a, q, e] l := fun h' => by
    have := (a3a g3 hlt).2 h'
    rw [show pA [f, i, a, q, e] (l.getD ((x.1 + x.2) / 2) []) = false from c] at this
    cases this
   exact ⟨(x.1, (x.1 + x.2) / 2), ⟨hx.1, by omega, by omega⟩, by omega, ⟨rfl, (by first | rfl | trivial)⟩, (by first | rfl | trivial)⟩
 ·simp only [Bz, Sx.af.n] at h
  have hx1 : x.1 = qy [f, i, a, q, e] l := by omega
  rw [hx1]
  refine ae (fun h' => ?_) (fun h' => ?_)
  ·have hlt : qy [f, i, a, q, e] l < l.length := by simp only [Bz, Sx.af.n] at h'; omega
   have hbl : (qy [f, i, a, q, e] l).blt l.length = true := by rw [Nat.blt_eq]; exact hlt
   simp only [ztN]
   refine ziT (by simp only [Bz, Sx.af.n, hbl, and_true]; omega) (ziT (by rw [hbl]; rfl) (ziT (by rw [aaz g1 hlt, g2]; rfl) ⟨⟨(by first | rfl | trivial), ?_⟩, (by first | rfl | trivial)⟩))
   unfold apw
   rw [show iLt (qy [f, i, a, q, e] l : Int) (l.length : Int) = true from h']
   rfl
  ·refine ⟨⟨rfl, ?_⟩, (by first | rfl | trivial)⟩
   unfold apw
   rw [show iLt (qy [f, i, a, q, e] l : Int) (l.length : Int) = false from h']
   rfl
theorem azu (I : Sx.Interp) (O : OO) (hO : O = oo) (Y : OY) (hY : Y = yO O) : ag I Tryz.prog 71 (au [.roS [.i64, .i64, .i64, .u64, .i64], .v, .fn 59 []] false (ahb O Y)) := by
 refine jb (ajb I O hO Y hY) (by kernel_rfl) (fun ds => match ds with | [.structs l, .v (.agg ⟨[.int .i64 f, .int .i64 i, .int .i64 a, .int .u64 q, .int .i64 e]⟩), .node []] => [⟨Nat × Nat, [0, 2, 4, 8], [], fun B x => [(9, .v (.int .i64 (x.1 : Int))), (10, .v (.int .i64 (x.2 : Int)))], fun B x => [], fun x => x.1 ≤ qy [f, i, a, q, e] l ∧ qy [f, i, a, q, e] l ≤ x.2 ∧ x.2 ≤ l.length, fun x => x.2 - x.1, 0⟩] | _ => []) Tryz.func71 (by kernel_rfl) (by kernel_rfl) rfl Tryz.ntmps71 (by decide) ?_ ?_
 ·intro ds p bs F h
  unfold ahb at h
  split at h
  ·simp only [zsI, zpI] at h
   obtain ⟨_, _, rfl⟩ := h
   kernel_rfl
  ·cases h
 ·intro ds bs F hl h
  unfold ahb at h
  split at h
  ·rename_i l f i a q e
   simp only [zsI, zpI, zaT] at h
   obtain ⟨⟨⟨⟨g0, g1⟩, g2⟩, g3⟩, _, rfl⟩ := h
   exact Eq.mpr (by kernel_rfl) (a03 O Y l f i a q e (dn O hO) hY g0 g1 g2 g3)
  ·cases h
def a2j (O : OO) (Y : OY) (ds : List Dt) : zG := match ds with
 | [.v (.agg ⟨[.int .i64 xf, .int .i64 xi, .int .i64 xa, .int .u64 xq, .int .i64 xe]⟩), .node [.v (.int .i64 f), .v (.int .i64 i), .v (.int .i64 a), .v (.int .u64 q), .v (.int .i64 e)]] => some ((inU xq 18446744073709551616) && (inU q 18446744073709551616), [], fun _ => ⟨[.v (.bool (isC [f, i, a, q, e] [xf, xi, xa, xq, xe]))], [(0, .blk 41 [.v (.int .i64 f), .v (.int .i64 i), .v (.int .i64 a), .v (.int .u64 q), .v (.int .i64 e)])]⟩)
 | _ => none
theorem bk8 (O : OO) (Y : OY) (xf xi xa xq xe f i a q e : Int) (F : FO O) (hy : Y = yO O) (g1 : inU xq 18446744073709551616 = true) (g2 : inU q 18446744073709551616 = true) :
 If (inU xq 18446744073709551616 && inU q 18446744073709551616) (vB (ax (orZ (qx xf f) (qx xi i)) 0) = vB (isC [f, i, a, q, e] [xf, xi, xa, xq, xe]) ∧ True ∧ (vI f = vI f ∧ vI i = vI i ∧ vI a = vI a ∧ Value.int .u64 q = Value.int .u64 q ∧ vI e = vI e) ∧ True) False := by
 exact ziT (by rw [g1, g2]; rfl) ⟨rfl, (by first | rfl | trivial)⟩
theorem bll (I : Sx.Interp) (O : OO) (hO : O = oo) (Y : OY) (hY : Y = yO O) : ag I Tryz.prog 75 (au [.v, .obj 41 [.v, .v, .v, .v, .v]] false (a2j O Y)) := by
 refine jb (ajb I O hO Y hY) (by kernel_rfl) (fun _ => []) Tryz.func75 (by kernel_rfl) (by kernel_rfl) rfl Tryz.ntmps75 (by decide) ?_ ?_
 ·intro ds p bs F h
  unfold a2j at h
  split at h
  ·simp only [zsI, zpI] at h
   obtain ⟨_, _, rfl⟩ := h
   kernel_rfl
  ·cases h
 ·intro ds bs F hl h
  unfold a2j at h
  split at h
  ·rename_i xf xi xa xq xe f i a q e
   simp only [zsI, zpI, zaT] at h
   obtain ⟨⟨g1, g2⟩, _, rfl⟩ := h
   exact Eq.mpr (by kernel_rfl) (bk8 O Y xf xi xa xq xe f i a q e (dn O hO) hY g1 g2)
  ·cases h
def bay (O : OO) (Y : OY) (f : FuncId) : Option Sx.Spec := match f with
 | 44 => some (au [.roS [.i64, .i64, .i64, .u64, .i64]] false (aiz O Y))
 | 71 => some (au [.roS [.i64, .i64, .i64, .u64, .i64], .v, .fn 59 []] false (ahb O Y))
 | 75 => some (au [.v, .obj 41 [.v, .v, .v, .v, .v]] false (a2j O Y))
 | f => a9p O Y f
theorem awu (I : Sx.Interp) (O : OO) (hO : O = oo) (Y : OY) (hY : Y = yO O) : ∀ f s, bay O Y f = some s → ag I Tryz.prog f s := by
 intro f s h
 unfold bay at h
 split at h
 · cases h; exact a7d I O hO Y hY
 · cases h; exact azu I O hO Y hY
 · cases h; exact bll I O hO Y hY
 ·exact ajb I O hO Y hY _ s h
def atf (O : OO) (Y : OY) (ds : List Dt) : zG := match ds with
 | [.structs l, .node [.node [.v (.int .i64 f), .v (.int .i64 i), .v (.int .i64 a), .v (.int .u64 q), .v (.int .i64 e)]]] => some ((Nat.ble l.length 1000) && (cnd l) && (inU q 18446744073709551616), [], fun _ => ⟨[.v (.int .i64 (ed (isC [f, i, a, q, e]) l))], [(1, .blk 41 [.v (.int .i64 f), .v (.int .i64 i), .v (.int .i64 a), .v (.int .u64 q), .v (.int .i64 e)])]⟩)
 | _ => none
theorem bfz (O : OO) (Y : OY) (l : List (List Int)) (f i a q e : Int) (F : FO O) (hy : Y = yO O) (h1 : Nat.ble l.length 1000 = true) (g1 : cnd l = true) (g2 : inU q 18446744073709551616 = true) :
 let T1 := vI f = vI f ∧ vI i = vI i ∧ vI a = vI a ∧ Value.int .u64 q = Value.int .u64 q ∧ vI e = vI e; (∃ (x : Nat), (x ≤ l.length ∧ ∀ (k : Nat), k.succ ≤ x → isC [f, i, a, q, e]
  (l.getD k []) = false) ∧ (vI 0 = vI (iOf x) ∧ SV.fn (Fn.func 75) [SV.ptr 1 0] = SV.fn (Fn.func 75) [SV.ptr 1 0] ∧ vI (iOf
  l.length) = vI (iOf l.length) ∧ True) ∧ cS l = cS l ∧ T1 ∧ True) ∧ ∀ (x : Nat), (x ≤ l.length ∧ ∀ (k : Nat), k.succ ≤ x → isC [f, i, a, q, e] (l.getD k []) = false) → If (iLt (iOf
  x) (iOf (cS l).n)) (If (iLe 0 (iOf x) && (iOf x).toNat.blt l.length) (If (true && Nat.beq 5 5 && (iOf x).toNat.blt l.length) (If (inU ((l.getD (iOf x).toNat []).getD 3 0)
  18446744073709551616 && inU q 18446744073709551616) (If (isC [f, i, a, q, e] [(l.getD (iOf x).toNat []).getD 0 0, (l.getD (iOf x).toNat []).getD 1 0, (l.getD (iOf x).toNat []).getD
  2 0, (l.getD (iOf x).toNat []).getD 3 0, (l.getD (iOf x).toNat []).getD 4 0]) (vI (iOf x) = vI (ed (isC [f, i, a, q, e]) l) ∧ True ∧ T1 ∧ True) (∃ (x' : Nat), (x' ≤ l.length ∧ ∀
  (k : Nat), k.succ ≤ x' → isC [f, i, a, q, e] (l.getD k []) = false) ∧ (iy l.length x').succ ≤ iy l.length x ∧ (vI (i64.wrap (dh (iOf x) 1)) = vI (iOf x') ∧ SV.fn
  (Fn.func 75) [SV.ptr 1 0] = SV.fn (Fn.func 75) [SV.ptr 1 0] ∧ vI (iOf l.length) = vI (iOf l.length) ∧ True) ∧ cS l = cS l ∧ T1 ∧
  True)) False) False) False) (vI (abn 1) = vI (ed (isC [f, i, a, q, e]) l) ∧ True ∧ T1 ∧ True) := by
 conv => zeta
 simp only [zUn]
 have hm := zbL h1
 refine ⟨⟨0, ⟨Nat.zero_le _, fun k hk => absurd hk (Nat.not_succ_le_zero _)⟩, ⟨rfl, (by first | rfl | trivial)⟩, (by first | rfl | trivial)⟩, fun x hx => ae (fun h => ?_) (fun h => ?_)⟩
 ·simp only [Bz, Sx.af.n] at h
  have hlt : x < l.length := by omega
  have hbl : x.blt l.length = true := by rw [Nat.blt_eq]; exact hlt
  simp only [ztN]
  refine ziT (by simp only [Bz, Sx.af.n, hbl, and_true]; omega) (ziT (by rw [hbl]; rfl) (ziT (by rw [aaz g1 hlt, g2]; rfl) (ae (fun hc => ?_) (fun hc => ?_))))
  ·have hc' : isC [f, i, a, q, e] (l.getD x []) = true := hc
   exact ⟨by rw [akx hlt (fun k hk => hx.2 k hk) hc'], (by first | rfl | trivial)⟩
  ·have hc' : isC [f, i, a, q, e] (l.getD x []) = false := hc
   exact ⟨x + 1, ⟨hlt, fun k hk => by
    rcases Nat.lt_or_ge k x with h' | h'
    ·exact hx.2 k h'
    ·have : k = x := by omega
     rw [this]; exact hc'⟩, by omega, ⟨by rw [wrap_succ (by omega)], (by first | rfl | trivial)⟩, (by first | rfl | trivial)⟩
 ·simp only [Bz, Sx.af.n] at h
  have hx2 : x = l.length := by omega
  subst hx2
  exact ⟨by rw [aky (fun k hk => hx.2 k hk)], (by first | rfl | trivial)⟩
theorem bgx (I : Sx.Interp) (O : OO) (hO : O = oo) (Y : OY) (hY : Y = yO O) : ag I Tryz.prog 54 (au [.roS [.i64, .i64, .i64, .u64, .i64], .fn 75 [.obj 41 [.v, .v, .v, .v, .v]]] false (atf O Y)) := by
 refine jb (awu I O hO Y hY) (by kernel_rfl) (fun ds => match ds with | [.structs l, .node [.node [.v (.int .i64 f), .v (.int .i64 i), .v (.int .i64 a), .v (.int .u64 q), .v (.int .i64 e)]]] => [⟨Nat, [0, 1, 7], [], fun B j => [(8, .v (.int .i64 (j : Int)))], fun B j => [], fun j => j ≤ l.length ∧ ∀ k, k < j → isC [f, i, a, q, e] (l.getD k []) = false, fun j => l.length - j, 0⟩] | _ => []) Tryz.func54 (by kernel_rfl) (by kernel_rfl) rfl Tryz.ntmps54 (by decide) ?_ ?_
 ·intro ds p bs F h
  unfold atf at h
  split at h
  ·simp only [zsI, zpI] at h
   obtain ⟨_, _, rfl⟩ := h
   kernel_rfl
  ·cases h
 ·intro ds bs F hl h
  unfold atf at h
  split at h
  ·rename_i l f i a q e
   simp only [zsI, zpI, zaT] at h
   obtain ⟨⟨⟨h1, g1⟩, g2⟩, _, rfl⟩ := h
   exact Eq.mpr (by kernel_rfl) (bfz O Y l f i a q e (dn O hO) hY h1 g1 g2)
  ·cases h
def bd6 (O : OO) (Y : OY) (f : FuncId) : Option Sx.Spec := match f with
 | 54 => some (asy (bpv 75) (au [.roS [.i64, .i64, .i64, .u64, .i64], .fn 75 [.obj 41 [.v, .v, .v, .v, .v]]] false (atf O Y)) (au [.roS [.i64, .i64, .i64, .u64, .i64], .fn 55 [.obj 3 [.v], .obj 3 [.v]]] false (aek O Y)))
 | f => bay O Y f
theorem axg (I : Sx.Interp) (O : OO) (hO : O = oo) (Y : OY) (hY : Y = yO O) : ∀ f s, bd6 O Y f = some s → ag I Tryz.prog f s := by
 intro f s h
 unfold bd6 at h
 split at h
 · cases h; exact a3j (bgx I O hO Y hY) (aof I O hO Y hY)
 ·exact awu I O hO Y hY _ s h
def au4 (O : OO) (Y : OY) (ds : List Dt) : zG := match ds with
 | [.structs l, .node [.node [.v (.int .i64 f), .v (.int .i64 i), .v (.int .i64 a), .v (.int .u64 q), .v (.int .i64 e)]]] => some ((Nat.ble l.length 1000) && (cnd l) && (inU q 18446744073709551616), [], fun _ => ⟨[.row 2], [(2, .ro (.structs [.i64, .i64, .i64, .u64, .i64] (mg [f, i, a, q, e] l))), (1, .blk 41 [.v (.int .i64 f), .v (.int .i64 i), .v (.int .i64 a), .v (.int .u64 q), .v (.int .i64 e)])]⟩)
 | _ => none
theorem bfs (O : OO) (Y : OY) (l : List (List Int)) (f i a q e : Int) (F : FO O) (hy : Y = yO O) (h1 : Nat.ble l.length 1000 = true) (g1 : cnd l = true) (g2 : inU q 18446744073709551616 = true) :
 let T1 := vI f = vI f ∧ vI i = vI i ∧ vI a = vI a ∧ Value.int .u64 q = Value.int .u64 q ∧ vI e = vI e; If (l.length.ble 1000 && cnd l && inU q 18446744073709551616) (If (ax (ed
  (isC [f, i, a, q, e]) l) (abn 1)) (True ∧ cS l = cS (mg [f, i, a, q, e] l) ∧ T1 ∧ True) ((∃ (x : Nat × Nat × List (List Int)), (x.1.succ ≤ x.2.1 ∧ x.2.1 ≤ l.length ∧ x.2.2.length
  = l.length ∧ anx (List.take x.1 x.2.2) (mg [f, i, a, q, e] (List.take x.2.1 l)) ∧ anx (List.drop x.2.1 x.2.2) (List.drop x.2.1 l)) ∧ (vI (ed (isC [f, i, a, q, e]) l) = vI (iOf
  x.1) ∧ vI (i64.wrap (dh (ed (isC [f, i, a, q, e]) l) 1)) = vI (iOf x.2.1) ∧ SV.fn (Fn.func 75) [SV.ptr 1 0] = SV.fn (Fn.func
  75) [SV.ptr 1 0] ∧ True) ∧ cS l = cS x.2.2 ∧ T1 ∧ True) ∧ ∀ (x : Nat × Nat × List (List Int)), x.1.succ ≤ x.2.1 ∧ x.2.1 ≤ l.length ∧ x.2.2.length =
  l.length ∧ anx (List.take x.1 x.2.2) (mg [f, i, a, q, e] (List.take x.2.1 l)) ∧ anx (List.drop x.2.1 x.2.2) (List.drop x.2.1 l) → If (iLt (iOf x.snd.fst) (iOf (cS x.snd.snd).n))
  (If (iLe 0 (iOf x.snd.fst) && (iOf x.2.1).toNat.blt x.2.2.length) (If (true && Nat.beq 5 5 && (iOf x.2.1).toNat.blt x.2.2.length) (If (inU ((x.2.2.getD (iOf x.2.1).toNat []).getD 3
  0) 18446744073709551616 && inU q 18446744073709551616) (If (!isC [f, i, a, q, e] [(x.2.2.getD (iOf x.2.1).toNat []).getD 0 0, (x.2.2.getD (iOf x.2.1).toNat []).getD 1 0, (x.2.2.getD
  (iOf x.2.1).toNat []).getD 2 0, (x.2.2.getD (iOf x.2.1).toNat []).getD 3 0, (x.2.2.getD (iOf x.2.1).toNat []).getD 4 0]) (If (iLe 0 (iOf x.fst) && (iOf x.1).toNat.blt x.2.2.length)
  (If ((iOf x.1).toNat.blt x.2.2.length) (∃ (x' : Nat × Nat × List (List Int)), (x'.1.succ ≤ x'.2.1 ∧ x'.2.1 ≤ l.length ∧ x'.2.2.length = l.length ∧ anx (List.take x'.1 x'.2.2) (mg
  [f, i, a, q, e] (List.take x'.2.1 l)) ∧ anx (List.drop x'.2.1 x'.2.2) (List.drop x'.2.1 l)) ∧ (iy l.length x'.2.1).succ ≤ iy l.length x.2.1 ∧ (vI (i64.wrap (dh (iOf
  x.1) 1)) = vI (iOf x'.1) ∧ vI (i64.wrap (dh (iOf x.2.1) 1)) = vI (iOf x'.2.1) ∧ SV.fn (Fn.func 75) [SV.ptr 1 0] = SV.fn (Fn.func
  75) [SV.ptr 1 0] ∧ True) ∧ cS (x.2.2.set (iOf x.1).toNat [(x.2.2.getD (iOf x.2.1).toNat []).getD 0 0, (x.2.2.getD (iOf x.2.1).toNat []).getD 1 0,
  (x.2.2.getD (iOf x.2.1).toNat []).getD 2 0, (x.2.2.getD (iOf x.2.1).toNat []).getD 3 0, (x.2.2.getD (iOf x.2.1).toNat []).getD 4 0]) = cS x'.2.2 ∧ T1 ∧ True) False) False) (∃ (x' :
  Nat × Nat × List (List Int)), (x'.1.succ ≤ x'.2.1 ∧ x'.2.1 ≤ l.length ∧ x'.2.2.length = l.length ∧ anx (List.take x'.1 x'.2.2) (mg [f, i, a, q, e] (List.take x'.2.1 l)) ∧ anx
  (List.drop x'.2.1 x'.2.2) (List.drop x'.2.1 l)) ∧ (iy l.length x'.2.1).succ ≤ iy l.length x.2.1 ∧ (vI (iOf x.1) = vI (iOf x'.1) ∧ vI (i64.wrap (dh (iOf x.2.1) 1)) = vI
  (iOf x'.2.1) ∧ SV.fn (Fn.func 75) [SV.ptr 1 0] = SV.fn (Fn.func 75) [SV.ptr 1 0] ∧ True) ∧ cS x.2.2 = cS x'.2.2 ∧ T1 ∧ True))
  False) False) False) (If (iLe 0 (iOf x.fst) && iLe (iOf x.fst) (iOf (cS x.snd.snd).n)) (If ((ay (iOf x.1).toNat (iy x.2.2.length (iOf x.1).toNat)).beq x.2.2.length) (If (iLe 0 0
  && iLe 0 (iOf x.fst) && iLe (iOf x.fst) (iOf (cS (app (List.take (iOf x.fst).toNat x.snd.snd) (List.replicate (iy (cS x.snd.snd).n (iOf x.fst).toNat) [0, 0, 0, 0, 0]))).n)) (True
  ∧ cS (List.take (iy (iOf x.1).toNat 0) (List.drop 0 (app (List.take (iOf x.1).toNat x.2.2) (List.replicate (iy x.2.2.length (iOf x.1).toNat) [0, 0, 0, 0, 0])))) = cS (mg [f,
  i, a, q, e] l) ∧ T1 ∧ True) False) False) False))) False := by
 conv => zeta
 simp only [zUn]
 have hm := zbL h1
 refine ziT (by rw [h1, g1, g2]; rfl) (ae (fun h => ⟨trivial, by rw [ban h], (by first | rfl | trivial)⟩) (fun h => ?_))
 obtain ⟨k, ek, hk, hk2⟩ := bdo h
 refine ⟨⟨(k, k + 1, l), ⟨Nat.le_refl _, hk, rfl, hk2, rfl⟩, ⟨by rw [ek], by rw [ek, wrap_succ (by omega)], (by first | rfl | trivial)⟩, rfl, (by first | rfl | trivial)⟩, fun x hx => ?_⟩
 obtain ⟨x1, x2, x3, x4, x5⟩ := hx
 have x4 : x.2.2.take x.1 = mg [f, i, a, q, e] (l.take x.2.1) := x4
 have x5 : x.2.2.drop x.2.1 = l.drop x.2.1 := x5
 have tk : (x.2.2.take x.1).length = x.1 := by rw [List.length_take]; omega
 refine ae (fun hj => ?_) (fun hj => ?_)
 ·simp only [Bz, Sx.af.n] at hj
  have hlt : x.2.1 < l.length := by omega
  have hbl : x.2.1.blt x.2.2.length = true := by rw [Nat.blt_eq]; omega
  have hb2 : x.1.blt x.2.2.length = true := by rw [Nat.blt_eq]; omega
  have hel : x.2.2.getD x.2.1 [] = l.getD x.2.1 [] := by
   have := congrArg (fun t : List (List Int) => t[0]?) x5
   simp only [List.getElem?_drop, Nat.add_zero] at this
   rw [List.getD_eq_getElem?_getD, List.getD_eq_getElem?_getD, this]
  have hd : x.2.2.drop (x.2.1 + 1) = l.drop (x.2.1 + 1) := by
   rw [← List.drop_drop, ← List.drop_drop, x5]
  simp only [ztN, hel]
  refine ziT (by simp only [Bz, Sx.af.n, hbl, and_true]; omega) (ziT (by rw [hbl]; rfl) (ziT (by rw [aaz g1 hlt, g2]; rfl) (ae (fun c => ?_) (fun c => ?_))))
  ·have hc : isC [f, i, a, q, e] (l.getD x.2.1 []) = false := by
    rw [aea g1 hlt] at c
    simpa using c
   have hv := aea g1 hlt
   refine ziT (by simp only [Bz, Sx.af.n, hb2, and_true]; omega) (ziT hb2 ⟨(x.1 + 1, x.2.1 + 1, x.2.2.set x.1 (l.getD x.2.1 [])), ⟨by simp only; omega, hlt, by simp only [List.length_set]; exact x3, ?_, ?_⟩, by simp only; omega, ⟨by rw [wrap_succ (by omega)], by rw [wrap_succ (by omega)], (by first | rfl | trivial)⟩, ?_, (by first | rfl | trivial)⟩)
   ·show (x.2.2.set x.1 (l.getD x.2.1 [])).take (x.1 + 1) = mg [f, i, a, q, e] (l.take (x.2.1 + 1))
    rw [aoa [f, i, a, q, e] hlt, hc, List.set_eq_take_append_cons_drop, if_pos (by omega), List.take_append, List.take_of_length_le (by rw [tk]; omega), tk, show x.1 + 1 - x.1 = 1 by omega, x4]
    rfl
   ·show (x.2.2.set x.1 (l.getD x.2.1 [])).drop (x.2.1 + 1) = l.drop (x.2.1 + 1)
    rw [List.drop_set_of_lt (by omega), hd]
   ·show af.structs _ (x.2.2.set x.1 [(l.getD x.2.1 []).getD 0 0, (l.getD x.2.1 []).getD 1 0, (l.getD x.2.1 []).getD 2 0, (l.getD x.2.1 []).getD 3 0, (l.getD x.2.1 []).getD 4 0]) = _
    rw [hv]
  ·have hc : isC [f, i, a, q, e] (l.getD x.2.1 []) = true := by
    rw [aea g1 hlt] at c
    simpa using c
   refine ⟨(x.1, x.2.1 + 1, x.2.2), ⟨by simp only; omega, hlt, x3, ?_, hd⟩, by simp only; omega, ⟨rfl, by rw [wrap_succ (by omega)], (by first | rfl | trivial)⟩, rfl, (by first | rfl | trivial)⟩
   show x.2.2.take x.1 = mg [f, i, a, q, e] (l.take (x.2.1 + 1))
   rw [aoa [f, i, a, q, e] hlt, hc, x4]
   simp
 ·simp only [Bz, Sx.af.n] at hj
  have hj2 : x.2.1 = l.length := by omega
  simp only [ztN]
  refine ziT (by simp only [Bz, Sx.af.n]; omega) (ziT (by simp only [Bz, Sx.af.n]; omega) (ziT (by simp only [Bz, Sx.af.n, zlA, List.length_take, List.length_replicate]; omega) ⟨trivial, ?_, (by first | rfl | trivial)⟩))
  rw [hj2, List.take_of_length_le (Nat.le_refl _)] at x4
  rw [← x4, List.drop_zero, Nat.sub_zero, List.take_left' tk]
theorem bf6 (I : Sx.Interp) (O : OO) (hO : O = oo) (Y : OY) (hY : Y = yO O) : ag I Tryz.prog 74 (au [.ownS 41 [.i64, .i64, .i64, .u64, .i64], .fn 75 [.obj 41 [.v, .v, .v, .v, .v]]] true (au4 O Y)) := by
 refine jb (axg I O hO Y hY) (by kernel_rfl) (fun ds => match ds with | [.structs l, .node [.node [.v (.int .i64 f), .v (.int .i64 i), .v (.int .i64 a), .v (.int .u64 q), .v (.int .i64 e)]]] => [⟨Nat × Nat × List (List Int), [0, 1], [], fun B x => [(5, .v (.int .i64 (x.1 : Int))), (6, .v (.int .i64 (x.2.1 : Int)))], fun B x => [(0, .own 41 (.structs [.i64, .i64, .i64, .u64, .i64] x.2.2))], fun x => x.1 < x.2.1 ∧ x.2.1 ≤ l.length ∧ x.2.2.length = l.length ∧ x.2.2.take x.1 = mg [f, i, a, q, e] (l.take x.2.1) ∧ x.2.2.drop x.2.1 = l.drop x.2.1, fun x => l.length - x.2.1, 0⟩] | _ => []) Tryz.func74 (by kernel_rfl) (by kernel_rfl) rfl Tryz.ntmps74 (by decide) ?_ ?_
 ·intro ds p bs F h
  unfold au4 at h
  split at h
  ·simp only [zsI, zpI] at h
   obtain ⟨_, _, rfl⟩ := h
   kernel_rfl
  ·cases h
 ·intro ds bs F hl h
  unfold au4 at h
  split at h
  ·rename_i l f i a q e
   simp only [zsI, zpI, zaT] at h
   obtain ⟨⟨⟨h1, g1⟩, g2⟩, _, rfl⟩ := h
   exact Eq.mpr (by kernel_rfl) (bfs O Y l f i a q e (dn O hO) hY h1 g1 g2)
  ·cases h
def bag (O : OO) (Y : OY) (f : FuncId) : Option Sx.Spec := match f with
 | 74 => some (au [.ownS 41 [.i64, .i64, .i64, .u64, .i64], .fn 75 [.obj 41 [.v, .v, .v, .v, .v]]] true (au4 O Y))
 | 72 => some (au [.ownS 41 [.i64, .i64, .i64, .u64, .i64], .v, .lit 41 1 [.v, .v, .v, .v, .v]] false a2f)
 | f => bd6 O Y f
theorem ank (I : Sx.Interp) (O : OO) (hO : O = oo) (Y : OY) (hY : Y = yO O) : ∀ f s, bag O Y f = some s → ag I Tryz.prog f s := by
 intro f s h
 unfold bag at h
 split at h
 · cases h; exact bf6 I O hO Y hY
 · cases h; exact bmp I
 ·exact axg I O hO Y hY _ s h
def aut (O : OO) (Y : OY) (ds : List Dt) : zG := match ds with
 | [.node [.v (.int .i64 no), .v (.int .i64 h0), .v (.int .i64 h1), .structs l, .v (.int .i64 rt)], .v (.agg ⟨[.int .i64 f, .int .i64 i, .int .i64 a, .int .u64 q, .int .i64 e]⟩)] => some ((Nat.ble l.length 1000) && (cnd l) && (inU q 18446744073709551616) && (bsB [f, i, a, q, e] l), [], fun _ => ⟨[.agg [.v (.int .i64 no), .v (.int .i64 h0), .v (.int .i64 h1), .row 1, .v (.int .i64 rt)]], [(1, .own 41 (.structs [.i64, .i64, .i64, .u64, .i64] (bn [f, i, a, q, e] l)))]⟩)
 | _ => none
theorem bgv (O : OO) (Y : OY) (no h0 h1 rt : Int) (l : List (List Int)) (f i a q e : Int) (F : FO O) (hy : Y = yO O) (g0 : Nat.ble l.length 1000 = true) (g1 : cnd l = true) (g2 : inU q 18446744073709551616 = true) (g3 : bsB [f, i, a, q, e] l = true) :
 If (l.length.ble 1000 && cnd l && inU q 18446744073709551616 && bsB [f, i, a, q, e] l) (If (l.length.ble 1000) (If (l.length.ble 1000 && (iLe 0 (iOf (qy [f, i, a, q, e] l)) && iLe (iOf (qy [f, i, a, q, e] l)) (iOf l.length))) ((vI no = vI no ∧ vI h0 = vI h0 ∧ vI h1 = vI h1 ∧ vI rt = vI rt) ∧ True ∧ cS (app (app (List.take (iOf (qy [f, i, a, q, e] l)).toNat l) [[f, i, a, q, e]]) (List.drop (iOf (qy [f, i, a, q, e] l)).toNat l)) = cS (bn [f, i, a, q, e] l) ∧ True) False) False) False := by
 have hcn := cnt_le [f, i, a, q, e] l
 exact ziT (by rw [g0, g1, g2, g3]; rfl) (ziT g0 (ziT (by rw [g0, Bool.true_and]; simp only [iOf, Bz, Sx.af.n]; omega) ⟨⟨rfl, rfl, rfl, rfl⟩, trivial, rfl, trivial⟩))
theorem bi6 (I : Sx.Interp) (O : OO) (hO : O = oo) (Y : OY) (hY : Y = yO O) : ag I Tryz.prog 34 (au [.agg [.v, .v, .v, .roS [.i64, .i64, .i64, .u64, .i64], .v], .v] false (aut O Y)) := by
 refine jb (ank I O hO Y hY) (by kernel_rfl) (fun _ => []) Tryz.func34 (by kernel_rfl) (by kernel_rfl) rfl Tryz.ntmps34 (by decide) ?_ ?_
 ·intro ds p bs F h
  unfold aut at h
  split at h
  ·simp only [zsI, zpI] at h
   obtain ⟨_, _, rfl⟩ := h
   kernel_rfl
  ·cases h
 ·intro ds bs F hl h
  unfold aut at h
  split at h
  ·rename_i no h0 h1 l rt f i a q e
   simp only [zsI, zpI, zaT] at h
   obtain ⟨⟨⟨⟨g0, g1⟩, g2⟩, g3⟩, _, rfl⟩ := h
   exact Eq.mpr (by kernel_rfl) (bgv O Y no h0 h1 rt l f i a q e (dn O hO) hY g0 g1 g2 g3)
  ·cases h
def ahj (O : OO) (Y : OY) (ds : List Dt) : zG := match ds with
 | [.node [.v (.int .i64 no), .v (.int .i64 h0), .v (.int .i64 h1), .structs l, .v (.int .i64 rt)], .v (.agg ⟨[.int .i64 f, .int .i64 i, .int .i64 a, .int .u64 q, .int .i64 e]⟩), .v (.int .i64 side)] => some ((Nat.ble l.length 1000) && (cnd l) && (inU q 18446744073709551616) && (jy 0 1 [side]), [], fun _ => ⟨[.agg [.v (.int .i64 no), .v (.int .i64 (bif ax side 0 then i64.wrap (h0 + a) else h0)), .v (.int .i64 (bif ax side 0 then h1 else i64.wrap (h1 + a))), .row 1, .v (.int .i64 rt)]], [(1, .ro (.structs [.i64, .i64, .i64, .u64, .i64] (mg [f, i, a, q, e] l)))]⟩)
 | _ => none
theorem a0w (O : OO) (Y : OY) (no h0 h1 rt : Int) (l : List (List Int)) (f i a q e side : Int) (F : FO O) (hy : Y = yO O) (g0 : Nat.ble l.length 1000 = true) (g1 : cnd l = true) (g2 : inU q 18446744073709551616 = true) (g3 : jy 0 1 [side] = true) :
 let T1 := bif ax side 0 then i64.wrap (dh h0 a) else h0; let T2 := bif ax side 0 then h1 else i64.wrap (dh h1 a); If (l.length.ble 1000) (If (l.length.ble
  1000 && cnd l && inU q 18446744073709551616) (If (iEq side (iOf 0)) (If (iEq side (iOf 0)) ((vI no = vI no ∧ vI (i64.wrap (dh h0 a)) = vI T1 ∧ vI h1 = vI T2 ∧ vI rt = vI
  rt) ∧ True ∧ cS (mg [f, i, a, q, e] l) = cS (mg [f, i, a, q, e] l) ∧ True) (If (iEq side (iOf (ay 0 1))) ((vI no = vI no ∧ vI h0 = vI T1 ∧ vI (i64.wrap (dh h0 a)) =
  vI T2 ∧ vI rt = vI rt) ∧ True ∧ cS (mg [f, i, a, q, e] l) = cS (mg [f, i, a, q, e] l) ∧ True) False)) (If (iEq side (iOf (ay 0 1))) (If (iEq side (iOf 0)) ((vI no = vI no ∧ vI
  (i64.wrap (dh h1 a)) = vI T1 ∧ vI h1 = vI T2 ∧ vI rt = vI rt) ∧ True ∧ cS (mg [f, i, a, q, e] l) = cS (mg [f, i, a, q, e] l) ∧ True) (If (iEq side (iOf (ay 0 1)))
  ((vI no = vI no ∧ vI h0 = vI T1 ∧ vI (i64.wrap (dh h1 a)) = vI T2 ∧ vI rt = vI rt) ∧ True ∧ cS (mg [f, i, a, q, e] l) = cS (mg [f, i, a, q, e] l) ∧ True) False))
  False)) False) False := by
 conv => zeta
 refine ziT g0 (ziT (by rw [g0, g1, g2]; rfl) (ae (fun e1 => ziT e1 ?_) (fun e1 => ziT (ad1 g3 e1) (Sx.if_false e1 (ziT (ad1 g3 e1) ?_)))))
 ·have : side = 0 := of_decide_eq_true e1
  subst this
  exact ⟨⟨rfl, rfl, rfl, rfl⟩, trivial, rfl, trivial⟩
 ·have hs : ax side 0 = false := by
   rw [akg]
   exact of_decide_eq_false e1
  rw [hs]
  exact ⟨⟨rfl, rfl, rfl, rfl⟩, trivial, rfl, trivial⟩
theorem ay3 (I : Sx.Interp) (O : OO) (hO : O = oo) (Y : OY) (hY : Y = yO O) : ag I Tryz.prog 40 (au [.agg [.v, .v, .v, .roS [.i64, .i64, .i64, .u64, .i64], .v], .v, .v] true (ahj O Y)) := by
 refine jb (ank I O hO Y hY) (by kernel_rfl) (fun _ => []) Tryz.func40 (by kernel_rfl) (by kernel_rfl) rfl Tryz.ntmps40 (by decide) ?_ ?_
 ·intro ds p bs F h
  unfold ahj at h
  split at h
  ·simp only [zsI, zpI] at h
   obtain ⟨_, _, rfl⟩ := h
   kernel_rfl
  ·cases h
 ·intro ds bs F hl h
  unfold ahj at h
  split at h
  ·rename_i no h0 h1 l rt f i a q e side
   simp only [zsI, zpI, zaT] at h
   obtain ⟨⟨⟨⟨g0, g1⟩, g2⟩, g3⟩, _, rfl⟩ := h
   exact Eq.mpr (by kernel_rfl) (a0w O Y no h0 h1 rt l f i a q e side (dn O hO) hY g0 g1 g2 g3)
  ·cases h
end Go.Proofs.YtgekiddgdjeaiaaGreat
