/- Sheet, the lowest functions: bounds, what is compared, terms (printed by genSh.py; VCs by VcTool). -/
import Derived.Test.YtcdmmfelagbpdaaGreatKy2
import Derived.Test.YtcdmmfelagbpdaaGreatRowS
namespace Go.Proofs.YtcdmmfelagbpdaaGreat
open Go.RowKit Go.Lib Ckp Cfd Cpd Sx
set_option linter.unusedVariables false
set_option linter.unusedSimpArgs false
set_option maxRecDepth 1000000
def outB (lo hi n : Int) : Bool := bif iLt n lo then true else iLt hi n
def idxP (p : Int → Bool) (l : List Int) : Int := match l.findIdx? p with
 | some i => (i : Int)
 | none => -1
def allW (lo hi : Int) (l : List Int) : Bool := l.all fun n => !(outB lo hi n)
def wrongP (O : OO) (p : Int) : Bool := bif iBeq p 1 then true else !(O.pright p)
def cmpI (x y : Int) : Int := bif iLt x y then -1 else bif iLt y x then 1 else 0
def orZ (a b : Int) : Int := bif iBne a 0 then a else b
def fineO (O : OO) (f i a q e : Int) : Bool := bif (bif (bif (bif (bif allW 0 1 [f] then allW 1 1048576 [i] else false) then allW 1 1125899906842624 [a] else false) then allW 1 1048576 [e] else false) then O.pright q else false) then iBne q 1 else false
def wgt (n : Int) : Int := bif (bif iLt n 0 then true else iLt 16 n) then 0 else IntKind.i64.wrap (68 + IntKind.i64.wrap (8 * n))
def feeT (r n : Int) : Int := bif (bif iLt r 0 then true else iLt 1000 r) then 0 else IntKind.i64.wrap (r * wgt n)
def ptsO (O : OO) (l : List Int) : Bool := l.all fun p => !(wrongP O p)
def inB (n lo hi : Int) : Bool := bif iLe lo n then iLe n hi else false
def naddB (x y : Int) : Bool := bif (bif (bif !(inB x 0 1125899906842624) then true else !(inB y 0 1125899906842624)) then true else iLt (IntKind.i64.wrap (1125899906842624 - y)) x) then false else true
def naddV (x y : Int) : Int := bif naddB x y then IntKind.i64.wrap (x + y) else 0
def tRightO (d r l c a m : Int) : Bool := bif (bif (bif (bif (bif inB d 0 65536 then inB l 1 4096 else false) then inB c 0 16 else false) then inB r d 1125899906842624 else false) then inB a 1 1125899906842624 else false) then inB m 0 1125899906842624 else false
theorem spec_patI {I : Sx.Interp} {P : Program} {sp : FuncId → Option Sx.Spec} (hsp : ∀ f s, sp f = some s → Sx.SpecOK I P f s) (hm : P.follows .mixedOrders = true) (an : List Dt → List Ann) {f : FuncId} {fn : Func} {c : Code} {N : Nat}
  (hf : P.funcs[f]? = some fn) (hname : (fn.name == "runtime.NumGoroutine") = false) (hb' : fn.body.isSome = true) (hc : bodyOf fn = c) (hN : fn.ntmps = N) {ps : List Pat} {al : Bool} {g : List Dt → Option (Bool × List Bool × (List Bool → Post))} (hn : ps.length ≤ N ∧ Pat.sizes ps ≤ 64)
  (hpo : ∀ ds p bs F, g ds = some (p, bs, F) → postOk ps al (F bs) = true)
  (h : ∀ ds bs F, ds.length = ps.length → g ds = some (true, bs, F) → wpcI P sp N (an ds) c 0 64 (envP (mks ps ds 0).1 0) (mks ps ds 0).2 (retP P fn.results.toList (Pat.sizes ps) (F bs))) : Sx.SpecOK I P f (pspec ps al g) :=
 spec_pat hsp hm an hf hname hb' hc hN hn hpo fun ds bs F hl hg => wpcI_of (h ds bs F hl hg)
theorem spec_patAI {I : Sx.Interp} {P : Program} {sp : FuncId → Option Sx.Spec} (hsp : ∀ f s, sp f = some s → Sx.SpecOK I P f s) (hm : P.follows .mixedOrders = true) (an : List Dt → List Ann) (ad : List Dt → List (Nat × TypeId × Sx.Cont)) {f : FuncId} {fn : Func} {c : Code} {N : Nat}
  (hf : P.funcs[f]? = some fn) (hname : (fn.name == "runtime.NumGoroutine") = false) (hb' : fn.body.isSome = true) (hc : bodyOf fn = c) (hN : fn.ntmps = N) {ps : List Pat} {al : Bool} {g : List Dt → Option (Bool × List Bool × (List Bool → Post))} (hn : ps.length ≤ N ∧ Pat.sizes ps ≤ 64)
  (hpo : ∀ ds p bs F, g ds = some (p, bs, F) → postOk ps al (F bs) = true)
  (h : ∀ ds bs F, ds.length = ps.length → g ds = some (true, bs, F) → wpcI P sp N (an ds) c 0 64 (envP (mks ps ds 0).1 0) (mks ps ds 0).2 (retPA (ad ds) P fn.results.toList (Pat.sizes ps) (F bs))) : Sx.SpecOK I P f (pspec ps al g) :=
 spec_patA hsp hm an ad hf hname hb' hc hN hn hpo fun ds bs F hl hg => wpcI_of (h ds bs F hl hg)
theorem idx_here {p : Int → Bool} {l : List Int} {x : Nat} (hx : x < l.length) (hb : ∀ k, k < x → p (l.getD k 0) = false) (h : p (l.getD x 0) = true) : idxP p l = (x : Int) := by
 have e : l.findIdx? p = some x := by
  rw [List.findIdx?_eq_some_iff_getElem]
  refine ⟨hx, ?_, fun j hj => ?_⟩
  ·rw [List.getD_eq_getElem?_getD, List.getElem?_eq_getElem hx] at h; exact h
  ·have := hb j hj
   rw [List.getD_eq_getElem?_getD, List.getElem?_eq_getElem (by omega)] at this
   simpa using this
 unfold idxP
 rw [e]
theorem idx_none {p : Int → Bool} {l : List Int} (hb : ∀ k, k < l.length → p (l.getD k 0) = false) : idxP p l = -1 := by
 have e : l.findIdx? p = none := by
  rw [List.findIdx?_eq_none_iff]
  intro x hx
  obtain ⟨k, hk, rfl⟩ := List.getElem_of_mem hx
  have := hb k hk
  rw [List.getD_eq_getElem?_getD, List.getElem?_eq_getElem hk] at this
  exact this
 unfold idxP
 rw [e]
theorem idx_allP (p : Int → Bool) (l : List Int) : (!(iLe 0 (idxP p l))) = l.all fun n => !(p n) := by
 unfold idxP
 cases h : l.findIdx? p with
 | none =>
  rw [List.findIdx?_eq_none_iff] at h
  symm
  show _ = true
  rw [List.all_eq_true]
  intro x hx
  rw [h x hx]; rfl
 | some i =>
  rw [List.findIdx?_eq_some_iff_getElem] at h
  obtain ⟨hi', h1, _⟩ := h
  have e : iLe 0 (i : Int) = true := by simp only [Sx.Bz, Sx.Cont.n]; omega
  simp only [e, Bool.not_true]
  symm
  rw [Bool.eq_false_iff]
  intro hc
  have := List.all_eq_true.1 hc _ (List.getElem_mem hi')
  rw [h1] at this
  cases this
theorem idx_all (lo hi : Int) (l : List Int) : (!(iLe 0 (idxP (outB lo hi) l))) = allW lo hi l := idx_allP (outB lo hi) l
theorem wrap_succ {x : Nat} (h : x ≤ 1000000) : IntKind.i64.wrap ((x : Int) + 1) = ((x + 1 : Nat) : Int) := by rw [IntWalk.i64_in _ (by omega)]; omega
theorem inUs_at {b : Nat} {l : List Int} (hl : inUs b l = true) {x : Nat} (hx : x < l.length) : inU (l.getD x 0) b = true := by
 rw [List.getD_eq_getElem?_getD, List.getElem?_eq_getElem hx]
 exact List.all_eq_true.1 hl _ (List.getElem_mem hx)
def g_within1 (O : OO) (Y : OY) (ds : List Dt) : Option (Bool × List Bool × (List Bool → Post)) := match ds with
 | [.v (.int .i64 n), .node [.v (.int .i64 lo)], .node [.v (.int .i64 hi)]] => some (true, [], fun _ => ⟨[.v (.bool (outB lo hi n))], [(0, .blk 3 [.v (.int .i64 lo)]), (1, .blk 3 [.v (.int .i64 hi)])]⟩)
 | _ => none
set_option maxHeartbeats 4000000 in
theorem vc_within1 (O : OO) (Y : OY) (n lo hi : Int) (F : FO O) (hy : Y = yO O) :
 If (iLt n lo) (Value.bool true = Value.bool (outB lo hi n) ∧ True ∧ Value.int .i64 lo = Value.int .i64 lo ∧ Value.int .i64 hi = Value.int .i64 hi ∧ True) (Value.bool (iLt hi n) =
  Value.bool (outB lo hi n) ∧ True ∧ Value.int .i64 lo = Value.int .i64 lo ∧ Value.int .i64 hi = Value.int .i64 hi ∧ True) := by
 unfold outB
 exact Sx.if_both (fun h => ⟨by rw [h]; rfl, (by first | rfl | trivial)⟩) (fun h => ⟨by rw [h]; rfl, (by first | rfl | trivial)⟩)
theorem wpc_within1 (O : OO) (Y : OY) (n lo hi : Int) (F : FO O) (hy : Y = yO O) : wpcI Tryz.prog (spY5 O Y) Tryz.f70.ntmps [] (bodyOf Tryz.f70) 0 64 (envP (mks [.v, .obj 3 [.v], .obj 3 [.v]] [.v (.int .i64 n), .node [.v (.int .i64 lo)], .node [.v (.int .i64 hi)]] 0).1 0) (mks [.v, .obj 3 [.v], .obj 3 [.v]] [.v (.int .i64 n), .node [.v (.int .i64 lo)], .node [.v (.int .i64 hi)]] 0).2 (retP Tryz.prog Tryz.f70.results.toList 2 (⟨[.v (.bool (outB lo hi n))], [(0, .blk 3 [.v (.int .i64 lo)]), (1, .blk 3 [.v (.int .i64 hi)])]⟩ : Post)) :=
 Eq.mpr (by kernel_rfl) (vc_within1 O Y n lo hi F hy)
theorem ok_within1 (I : Sx.Interp) (O : OO) (hO : O = oo) (Y : OY) (hY : Y = yO O) : Sx.SpecOK I Tryz.prog 70 (pspec [.v, .obj 3 [.v], .obj 3 [.v]] false (g_within1 O Y)) := by
 refine spec_patI (spY5_ok I O hO Y hY) (by kernel_rfl) (fun ds => match ds with | [.v (.int .i64 n), .node [.v (.int .i64 lo)], .node [.v (.int .i64 hi)]] => [] | _ => []) Tryz.func70 (by kernel_rfl) (by kernel_rfl) rfl Tryz.ntmps70 (by decide) ?_ ?_
 ·intro ds p bs F h
  unfold g_within1 at h
  split at h
  ·simp only [Option.some.injEq, Prod.mk.injEq] at h
   obtain ⟨_, _, rfl⟩ := h
   kernel_rfl
  ·cases h
 ·intro ds bs F hl h
  unfold g_within1 at h
  split at h
  ·rename_i n lo hi
   simp only [Option.some.injEq, Prod.mk.injEq, Bool.and_eq_true] at h
   obtain ⟨_, _, rfl⟩ := h
   exact wpc_within1 O Y n lo hi (fo_oo O hO) hY 
  ·cases h
def spS0 (O : OO) (Y : OY) (f : FuncId) : Option Sx.Spec := match f with
 | 70 => some (pspec [.v, .obj 3 [.v], .obj 3 [.v]] false (g_within1 O Y))
 | f => spY5 O Y f
theorem spS0_ok (I : Sx.Interp) (O : OO) (hO : O = oo) (Y : OY) (hY : Y = yO O) : ∀ f s, spS0 O Y f = some s → Sx.SpecOK I Tryz.prog f s := by
 intro f s h
 unfold spS0 at h
 split at h
 · cases h; exact ok_within1 I O hO Y hY
 ·exact spY5_ok I O hO Y hY _ s h
def g_idxInt (O : OO) (Y : OY) (ds : List Dt) : Option (Bool × List Bool × (List Bool → Post)) := match ds with
 | [.ints l, .node [.node [.v (.int .i64 lo)], .node [.v (.int .i64 hi)]]] => some ((Nat.ble l.length 1000), [], fun _ => ⟨[.v (.int .i64 (idxP (outB lo hi) l))], [(1, .blk 3 [.v (.int .i64 lo)]), (2, .blk 3 [.v (.int .i64 hi)])]⟩)
 | _ => none
set_option maxHeartbeats 4000000 in
theorem vc_idxInt (O : OO) (Y : OY) (l : List Int) (lo hi : Int) (F : FO O) (hy : Y = yO O) (h1 : Nat.ble l.length 1000 = true) :
 (∃ (x : Nat), (x ≤ l.length ∧ ∀ (k : Nat), k.succ ≤ x → outB lo hi (l.getD k 0) = false) ∧ (Value.int .i64 0 = Value.int .i64 (iOf x) ∧ SV.fn (Fn.func 70)
  [SV.ptr 1 0, SV.ptr 2 0] = SV.fn (Fn.func 70) [SV.ptr 1 0, SV.ptr 2 0] ∧ Value.int .i64 (iOf l.length) = Value.int .i64 (iOf l.length) ∧ True) ∧ EqI l l ∧
  Value.int .i64 lo = Value.int .i64 lo ∧ Value.int .i64 hi = Value.int .i64 hi ∧ True) ∧ ∀ (x : Nat), (x ≤ l.length ∧ ∀ (k : Nat), k.succ ≤ x → outB lo hi (l.getD k 0) = false) → If
  (iLt (iOf x) (iOf (Cont.ints .i64 l).n)) (If (iLe 0 (iOf x) && (iOf x).toNat.blt l.length) (If (true && Nat.beq 1 1 && (iOf x).toNat.blt l.length) (If (outB lo hi (l.getD (iOf
  x).toNat 0)) (Value.int .i64 (iOf x) = Value.int .i64 (idxP (outB lo hi) l) ∧ True ∧ Value.int .i64 lo = Value.int .i64 lo ∧ Value.int .i64 hi = Value.int .i64 hi ∧ True) (∃ (x' :
  Nat), (x' ≤ l.length ∧ ∀ (k : Nat), k.succ ≤ x' → outB lo hi (l.getD k 0) = false) ∧ (nSub l.length x').succ ≤ nSub l.length x ∧ (Value.int .i64 (IntKind.i64.wrap (iAdd (iOf x) 1))
  = Value.int .i64 (iOf x') ∧ SV.fn (Fn.func 70) [SV.ptr 1 0, SV.ptr 2 0] = SV.fn (Fn.func 70) [SV.ptr 1 0, SV.ptr 2 0] ∧ Value.int
  .i64 (iOf l.length) = Value.int .i64 (iOf l.length) ∧ True) ∧ EqI l l ∧ Value.int .i64 lo = Value.int .i64 lo ∧ Value.int .i64 hi = Value.int .i64 hi ∧ True)) False) False)
  (Value.int .i64 (iNeg 1) = Value.int .i64 (idxP (outB lo hi) l) ∧ True ∧ Value.int .i64 lo = Value.int .i64 lo ∧ Value.int .i64 hi = Value.int .i64 hi ∧ True) := by
 simp only [Sx.app, Sx.nAdd, Sx.nSub, Sx.nMul, Sx.nPow, Sx.nDiv, Sx.nMod, Sx.iAdd, Sx.iSub, Sx.iMul, Sx.iNeg, Sx.iPow, Sx.iOf]
 have hm := Nat.le_of_ble_eq_true h1
 refine ⟨⟨0, ⟨Nat.zero_le _, fun k hk => absurd hk (Nat.not_succ_le_zero _)⟩, ⟨rfl, (by first | rfl | trivial)⟩, (by first | rfl | trivial)⟩, fun x hx => Sx.if_both (fun h => ?_) (fun h => ?_)⟩
 ·simp only [Sx.Bz, Sx.Cont.n] at h
  have hlt : x < l.length := by omega
  have hbl : x.blt l.length = true := by rw [Nat.blt_eq]; exact hlt
  refine Sx.if_true (by simp only [Sx.Bz, Sx.Cont.n, hbl, and_true, Int.toNat_natCast]; omega) (Sx.if_true (by simp only [hbl, Int.toNat_natCast]; rfl) (Sx.if_both (fun hc => ?_) (fun hc => ?_)))
  ·simp only [Int.toNat_natCast] at hc
   exact ⟨by rw [idx_here hlt (fun k hk => hx.2 k hk) hc], (by first | rfl | trivial)⟩
  ·simp only [Int.toNat_natCast] at hc
   exact ⟨x + 1, ⟨hlt, fun k hk => by
    rcases Nat.lt_or_ge k x with h' | h'
    ·exact hx.2 k h'
    ·have : k = x := by omega
     rw [this]; exact hc⟩, by omega, ⟨by rw [wrap_succ (by omega)], (by first | rfl | trivial)⟩, (by first | rfl | trivial)⟩
 ·simp only [Sx.Bz, Sx.Cont.n] at h
  have hx2 : x = l.length := by omega
  subst hx2
  exact ⟨by rw [idx_none (fun k hk => hx.2 k hk)], (by first | rfl | trivial)⟩
theorem wpc_idxInt (O : OO) (Y : OY) (l : List Int) (lo hi : Int) (F : FO O) (hy : Y = yO O) (h1 : Nat.ble l.length 1000 = true) : wpcI Tryz.prog (spS0 O Y) Tryz.f92.ntmps [⟨Nat, [0, 1, 7], [], fun B j => [(8, .v (.int .i64 (j : Int)))], fun B j => [], fun j => j ≤ l.length ∧ ∀ k, k < j → outB lo hi (l.getD k 0) = false, fun j => l.length - j, 0⟩] (bodyOf Tryz.f92) 0 64 (envP (mks [.ro .i64, .fn 70 [.obj 3 [.v], .obj 3 [.v]]] [.ints l, .node [.node [.v (.int .i64 lo)], .node [.v (.int .i64 hi)]]] 0).1 0) (mks [.ro .i64, .fn 70 [.obj 3 [.v], .obj 3 [.v]]] [.ints l, .node [.node [.v (.int .i64 lo)], .node [.v (.int .i64 hi)]]] 0).2 (retP Tryz.prog Tryz.f92.results.toList 3 (⟨[.v (.int .i64 (idxP (outB lo hi) l))], [(1, .blk 3 [.v (.int .i64 lo)]), (2, .blk 3 [.v (.int .i64 hi)])]⟩ : Post)) :=
 Eq.mpr (by kernel_rfl) (vc_idxInt O Y l lo hi F hy h1)
theorem ok_idxInt (I : Sx.Interp) (O : OO) (hO : O = oo) (Y : OY) (hY : Y = yO O) : Sx.SpecOK I Tryz.prog 92 (pspec [.ro .i64, .fn 70 [.obj 3 [.v], .obj 3 [.v]]] false (g_idxInt O Y)) := by
 refine spec_patI (spS0_ok I O hO Y hY) (by kernel_rfl) (fun ds => match ds with | [.ints l, .node [.node [.v (.int .i64 lo)], .node [.v (.int .i64 hi)]]] => [⟨Nat, [0, 1, 7], [], fun B j => [(8, .v (.int .i64 (j : Int)))], fun B j => [], fun j => j ≤ l.length ∧ ∀ k, k < j → outB lo hi (l.getD k 0) = false, fun j => l.length - j, 0⟩] | _ => []) Tryz.func92 (by kernel_rfl) (by kernel_rfl) rfl Tryz.ntmps92 (by decide) ?_ ?_
 ·intro ds p bs F h
  unfold g_idxInt at h
  split at h
  ·simp only [Option.some.injEq, Prod.mk.injEq] at h
   obtain ⟨_, _, rfl⟩ := h
   kernel_rfl
  ·cases h
 ·intro ds bs F hl h
  unfold g_idxInt at h
  split at h
  ·rename_i l lo hi
   simp only [Option.some.injEq, Prod.mk.injEq, Bool.and_eq_true] at h
   obtain ⟨h1, _, rfl⟩ := h
   exact wpc_idxInt O Y l lo hi (fo_oo O hO) hY h1
  ·cases h
def spS1 (O : OO) (Y : OY) (f : FuncId) : Option Sx.Spec := match f with
 | 92 => some (pspec [.ro .i64, .fn 70 [.obj 3 [.v], .obj 3 [.v]]] false (g_idxInt O Y))
 | f => spS0 O Y f
theorem spS1_ok (I : Sx.Interp) (O : OO) (hO : O = oo) (Y : OY) (hY : Y = yO O) : ∀ f s, spS1 O Y f = some s → Sx.SpecOK I Tryz.prog f s := by
 intro f s h
 unfold spS1 at h
 split at h
 · cases h; exact ok_idxInt I O hO Y hY
 ·exact spS0_ok I O hO Y hY _ s h
def g_hasInt (O : OO) (Y : OY) (ds : List Dt) : Option (Bool × List Bool × (List Bool → Post)) := match ds with
 | [.ints l, .node [.node [.v (.int .i64 lo)], .node [.v (.int .i64 hi)]]] => some ((Nat.ble l.length 1000), [], fun _ => ⟨[.v (.bool (iLe 0 (idxP (outB lo hi) l)))], [(1, .blk 3 [.v (.int .i64 lo)]), (2, .blk 3 [.v (.int .i64 hi)])]⟩)
 | _ => none
set_option maxHeartbeats 4000000 in
theorem vc_hasInt (O : OO) (Y : OY) (l : List Int) (lo hi : Int) (F : FO O) (hy : Y = yO O) (h1 : Nat.ble l.length 1000 = true) :
 If (l.length.ble 1000) (Value.bool (iLe 0 (idxP (outB lo hi) l)) = Value.bool (iLe 0 (idxP (outB lo hi) l)) ∧ True ∧ Value.int .i64 lo = Value.int .i64 lo ∧ Value.int .i64 hi =
  Value.int .i64 hi ∧ True) False := by
 exact Sx.if_true h1 ⟨rfl, (by first | rfl | trivial)⟩
theorem wpc_hasInt (O : OO) (Y : OY) (l : List Int) (lo hi : Int) (F : FO O) (hy : Y = yO O) (h1 : Nat.ble l.length 1000 = true) : wpcI Tryz.prog (spS1 O Y) Tryz.f69.ntmps [] (bodyOf Tryz.f69) 0 64 (envP (mks [.ro .i64, .fn 70 [.obj 3 [.v], .obj 3 [.v]]] [.ints l, .node [.node [.v (.int .i64 lo)], .node [.v (.int .i64 hi)]]] 0).1 0) (mks [.ro .i64, .fn 70 [.obj 3 [.v], .obj 3 [.v]]] [.ints l, .node [.node [.v (.int .i64 lo)], .node [.v (.int .i64 hi)]]] 0).2 (retP Tryz.prog Tryz.f69.results.toList 3 (⟨[.v (.bool (iLe 0 (idxP (outB lo hi) l)))], [(1, .blk 3 [.v (.int .i64 lo)]), (2, .blk 3 [.v (.int .i64 hi)])]⟩ : Post)) :=
 Eq.mpr (by kernel_rfl) (vc_hasInt O Y l lo hi F hy h1)
theorem ok_hasInt (I : Sx.Interp) (O : OO) (hO : O = oo) (Y : OY) (hY : Y = yO O) : Sx.SpecOK I Tryz.prog 69 (pspec [.ro .i64, .fn 70 [.obj 3 [.v], .obj 3 [.v]]] false (g_hasInt O Y)) := by
 refine spec_patI (spS1_ok I O hO Y hY) (by kernel_rfl) (fun ds => match ds with | [.ints l, .node [.node [.v (.int .i64 lo)], .node [.v (.int .i64 hi)]]] => [] | _ => []) Tryz.func69 (by kernel_rfl) (by kernel_rfl) rfl Tryz.ntmps69 (by decide) ?_ ?_
 ·intro ds p bs F h
  unfold g_hasInt at h
  split at h
  ·simp only [Option.some.injEq, Prod.mk.injEq] at h
   obtain ⟨_, _, rfl⟩ := h
   kernel_rfl
  ·cases h
 ·intro ds bs F hl h
  unfold g_hasInt at h
  split at h
  ·rename_i l lo hi
   simp only [Option.some.injEq, Prod.mk.injEq, Bool.and_eq_true] at h
   obtain ⟨h1, _, rfl⟩ := h
   exact wpc_hasInt O Y l lo hi (fo_oo O hO) hY h1
  ·cases h
def spS2 (O : OO) (Y : OY) (f : FuncId) : Option Sx.Spec := match f with
 | 69 => some (pspec [.ro .i64, .fn 70 [.obj 3 [.v], .obj 3 [.v]]] false (g_hasInt O Y))
 | f => spS1 O Y f
theorem spS2_ok (I : Sx.Interp) (O : OO) (hO : O = oo) (Y : OY) (hY : Y = yO O) : ∀ f s, spS2 O Y f = some s → Sx.SpecOK I Tryz.prog f s := by
 intro f s h
 unfold spS2 at h
 split at h
 · cases h; exact ok_hasInt I O hO Y hY
 ·exact spS1_ok I O hO Y hY _ s h
def g_within (O : OO) (Y : OY) (xs : List Arg) : Option (Bool × List Ret) := match xs with
 | [.v (.int .i64 lo), .v (.int .i64 hi), .ints l] => some ((Nat.ble l.length 1000), [.v (.bool (allW lo hi l))])
 | _ => none
set_option maxHeartbeats 4000000 in
theorem vc_within (O : OO) (Y : OY) (lo hi : Int) (l : List Int) (F : FO O) (hy : Y = yO O) (h1 : Nat.ble l.length 1000 = true) :
 If (l.length.ble 1000) ((Value.bool !iLe 0 (idxP (outB lo hi) l)) = Value.bool (allW lo hi l) ∧ True) False := by
 exact Sx.if_true h1 ⟨by rw [idx_all], trivial⟩
theorem wpc_within (O : OO) (Y : OY) (lo hi : Int) (l : List Int) (F : FO O) (hy : Y = yO O) (h1 : Nat.ble l.length 1000 = true) : wpcI Tryz.prog (spS2 O Y) Tryz.f36.ntmps [] (bodyOf Tryz.f36) 0 64 (envA [.v, .v, .ro .i64] [.v (.int .i64 lo), .v (.int .i64 hi), .ints l] 0) (memA [.v, .v, .ro .i64] [.v (.int .i64 lo), .v (.int .i64 hi), .ints l] 0) (retG Tryz.prog Tryz.f36.results.toList [.v (.bool (allW lo hi l))]) :=
 Eq.mpr (by kernel_rfl) (vc_within O Y lo hi l F hy h1)
theorem ok_within (I : Sx.Interp) (O : OO) (hO : O = oo) (Y : OY) (hY : Y = yO O) : Sx.SpecOK I Tryz.prog 36 (gspec [.v, .v, .ro .i64] (g_within O Y)) := by
 refine spec_gen (spS2_ok I O hO Y hY) (by kernel_rfl) [] Tryz.func36 (by kernel_rfl) (by kernel_rfl) rfl Tryz.ntmps36 (by decide) ?_ ?_
 ·intro xs p rs h; unfold g_within at h; split at h <;> first | (simp only [Option.some.injEq, Prod.mk.injEq] at h; rw [← h.2]; simp) | cases h
 ·intro xs rs hl h
  unfold g_within at h
  split at h
  ·simp only [Option.some.injEq, Prod.mk.injEq, Bool.and_eq_true] at h
   obtain ⟨h1, rfl⟩ := h
   exact wpcI_of (wpc_within O Y _ _ _ (fo_oo O hO) hY h1)
  ·cases h
def spS3 (O : OO) (Y : OY) (f : FuncId) : Option Sx.Spec := match f with
 | 36 => some (gspec [.v, .v, .ro .i64] (g_within O Y))
 | f => spS2 O Y f
theorem spS3_ok (I : Sx.Interp) (O : OO) (hO : O = oo) (Y : OY) (hY : Y = yO O) : ∀ f s, spS3 O Y f = some s → Sx.SpecOK I Tryz.prog f s := by
 intro f s h
 unfold spS3 at h
 split at h
 · cases h; exact ok_within I O hO Y hY
 ·exact spS2_ok I O hO Y hY _ s h
def g_fine (O : OO) (Y : OY) (l : List Value) : Option (Bool × Value) := match l with
 | [.agg ⟨[.int .i64 xf, .int .i64 xi, .int .i64 xa, .int .u64 xq, .int .i64 xe]⟩] => some ((inU xq 18446744073709551616), .bool (fineO O xf xi xa xq xe))
 | _ => none
set_option maxHeartbeats 4000000 in
theorem vc_fine (O : OO) (Y : OY) (xf xi xa xq xe : Int) (out : Value) (F : FO O) (hy : Y = yO O) (h0 : inU xq 18446744073709551616 = true) (ho : .bool (fineO O xf xi xa xq xe) = out) :
 If (allW 0 1 [xf]) (If (allW 1 1048576 [xi]) (If (allW 1 1125899906842624 [xa]) (If (allW 1 1048576 [xe]) (If (inU xq 18446744073709551616) (If (O.pright xq) (Value.bool (iBne xq 1)
  = out) (Value.bool false = out)) False) (Value.bool false = out)) (Value.bool false = out)) (Value.bool false = out)) (Value.bool false = out) := by
 subst ho
 unfold fineO
 generalize allW 0 1 [xf] = A
 generalize allW 1 1048576 [xi] = B
 generalize allW 1 1125899906842624 [xa] = C
 generalize allW 1 1048576 [xe] = D
 cases A <;> cases B <;> cases C <;> cases D <;> first | exact rfl | exact Sx.if_true rfl (Sx.if_true rfl (Sx.if_true rfl (Sx.if_true rfl (Sx.if_true h0 (Sx.if_both (fun e => by rw [e]; rfl) (fun e => by rw [e]; rfl))))))
theorem wpc_fine (O : OO) (Y : OY) (xf xi xa xq xe : Int) (out : Value) (F : FO O) (hy : Y = yO O) (h0 : inU xq 18446744073709551616 = true) (ho : .bool (fineO O xf xi xa xq xe) = out) : wpcI Tryz.prog (spS3 O Y) Tryz.f31.ntmps [] (bodyOf Tryz.f31) 0 0 (argEnv [.agg ⟨[.int .i64 xf, .int .i64 xi, .int .i64 xa, .int .u64 xq, .int .i64 xe]⟩] 0) [] (retK Tryz.prog Tryz.f31.results.toList out) :=
 Eq.mpr (by kernel_rfl) (vc_fine O Y xf xi xa xq xe out F hy h0 ho)
theorem ok_fine (I : Sx.Interp) (O : OO) (hO : O = oo) (Y : OY) (hY : Y = yO O) : Sx.SpecOK I Tryz.prog 31 (Sx.vspec (g_fine O Y)) := by
 refine spec_walk (n := 1) (spS3_ok I O hO Y hY) (by kernel_rfl) [] Tryz.func31 (by kernel_rfl) (by kernel_rfl) rfl Tryz.ntmps31 (by decide) ?_ ?_
 ·intro l p v hg; unfold g_fine at hg; split at hg <;> first | rfl | cases hg
 ·intro l v hg
  unfold g_fine at hg
  split at hg
  ·rename_i xf xi xa xq xe
   simp only [Option.some.injEq, Prod.mk.injEq, Bool.and_eq_true] at hg
   obtain ⟨q0, rfl⟩ := hg
   exact wpc_fine O Y xf xi xa xq xe  _ (fo_oo O hO) hY q0  rfl
  ·cases hg
def g_isNaN (O : OO) (Y : OY) (l : List Value) : Option (Bool × Value) := match l with
 | [.int .i64 x] => some (true, .bool false)
 | _ => none
set_option maxHeartbeats 4000000 in
theorem vc_isNaN (O : OO) (Y : OY) (x : Int) (out : Value) (F : FO O) (hy : Y = yO O)  (ho : .bool false = out) :
 Value.bool (iBne x x) = out := by
 subst ho
 rw [show iBne x x = false by simp only [Sx.Bz, Sx.Cont.n]]
theorem wpc_isNaN (O : OO) (Y : OY) (x : Int) (out : Value) (F : FO O) (hy : Y = yO O)  (ho : .bool false = out) : wpcI Tryz.prog (spS3 O Y) Tryz.f104.ntmps [] (bodyOf Tryz.f104) 0 0 (argEnv [.int .i64 x] 0) [] (retK Tryz.prog Tryz.f104.results.toList out) :=
 Eq.mpr (by kernel_rfl) (vc_isNaN O Y x out F hy  ho)
theorem ok_isNaN (I : Sx.Interp) (O : OO) (hO : O = oo) (Y : OY) (hY : Y = yO O) : Sx.SpecOK I Tryz.prog 104 (Sx.vspec (g_isNaN O Y)) := by
 refine spec_walk (n := 1) (spS3_ok I O hO Y hY) (by kernel_rfl) [] Tryz.func104 (by kernel_rfl) (by kernel_rfl) rfl Tryz.ntmps104 (by decide) ?_ ?_
 ·intro l p v hg; unfold g_isNaN at hg; split at hg <;> first | rfl | cases hg
 ·intro l v hg
  unfold g_isNaN at hg
  split at hg
  ·rename_i x
   simp only [Option.some.injEq, Prod.mk.injEq, Bool.and_eq_true] at hg
   obtain ⟨_, rfl⟩ := hg
   exact wpc_isNaN O Y x  _ (fo_oo O hO) hY   rfl
  ·cases hg
def spS4 (O : OO) (Y : OY) (f : FuncId) : Option Sx.Spec := match f with
 | 31 => some (Sx.vspec (g_fine O Y))
 | 104 => some (Sx.vspec (g_isNaN O Y))
 | f => spS3 O Y f
theorem spS4_ok (I : Sx.Interp) (O : OO) (hO : O = oo) (Y : OY) (hY : Y = yO O) : ∀ f s, spS4 O Y f = some s → Sx.SpecOK I Tryz.prog f s := by
 intro f s h
 unfold spS4 at h
 split at h
 · cases h; exact ok_fine I O hO Y hY
 · cases h; exact ok_isNaN I O hO Y hY
 ·exact spS3_ok I O hO Y hY _ s h
def g_cmpare (O : OO) (Y : OY) (l : List Value) : Option (Bool × Value) := match l with
 | [.int .i64 x, .int .i64 y] => some (true, .int .i64 (cmpI x y))
 | _ => none
set_option maxHeartbeats 4000000 in
theorem vc_cmpare (O : OO) (Y : OY) (x y : Int) (out : Value) (F : FO O) (hy : Y = yO O)  (ho : .int .i64 (cmpI x y) = out) :
 If (iLt x y) (Value.int .i64 (iNeg 1) = out) (If (iLt y x) (Value.int .i64 1 = out) (Value.int .i64 0 = out)) := by
 subst ho
 unfold cmpI
 exact Sx.if_both (fun h => by rw [h]; rfl) (fun h => Sx.if_both (fun h' => by rw [h, h']; rfl) (fun h' => by rw [h, h']; rfl))
theorem wpc_cmpare (O : OO) (Y : OY) (x y : Int) (out : Value) (F : FO O) (hy : Y = yO O)  (ho : .int .i64 (cmpI x y) = out) : wpcI Tryz.prog (spS4 O Y) Tryz.f88.ntmps [] (bodyOf Tryz.f88) 0 0 (argEnv [.int .i64 x, .int .i64 y] 0) [] (retK Tryz.prog Tryz.f88.results.toList out) :=
 Eq.mpr (by kernel_rfl) (vc_cmpare O Y x y out F hy  ho)
theorem ok_cmpare (I : Sx.Interp) (O : OO) (hO : O = oo) (Y : OY) (hY : Y = yO O) : Sx.SpecOK I Tryz.prog 88 (Sx.vspec (g_cmpare O Y)) := by
 refine spec_walk (n := 2) (spS4_ok I O hO Y hY) (by kernel_rfl) [] Tryz.func88 (by kernel_rfl) (by kernel_rfl) rfl Tryz.ntmps88 (by decide) ?_ ?_
 ·intro l p v hg; unfold g_cmpare at hg; split at hg <;> first | rfl | cases hg
 ·intro l v hg
  unfold g_cmpare at hg
  split at hg
  ·rename_i x y
   simp only [Option.some.injEq, Prod.mk.injEq, Bool.and_eq_true] at hg
   obtain ⟨_, rfl⟩ := hg
   exact wpc_cmpare O Y x y  _ (fo_oo O hO) hY   rfl
  ·cases hg
def g_cmpor (O : OO) (Y : OY) (xs : List Arg) : Option (Bool × List Ret) := match xs with
 | [.ints [a, b]] => some (true, [.v (.int .i64 (orZ a b))])
 | _ => none
set_option maxHeartbeats 4000000 in
theorem vc_cmpor (O : OO) (Y : OY) (a b : Int) (F : FO O) (hy : Y = yO O) :
 If (iBne ([a, b].getD 0 0) 0) (Value.int .i64 ([a, b].getD 0 0) = Value.int .i64 (orZ a b) ∧ True) (If (iBne ([a, b].getD 1 0) 0) (Value.int .i64 ([a, b].getD 1 0) = Value.int .i64
  (orZ a b) ∧ True) (Value.int .i64 0 = Value.int .i64 (orZ a b) ∧ True)) := by
 unfold orZ
 refine Sx.if_both (fun h => ⟨?_, trivial⟩) (fun h => Sx.if_both (fun h' => ⟨?_, trivial⟩) (fun h' => ⟨?_, trivial⟩))
 ·have e : iBne a 0 = true := h
  rw [e]; rfl
 ·have e : iBne a 0 = false := h
  rw [e]; rfl
 ·have e : iBne a 0 = false := h
  have e2 : iBne b 0 = false := h'
  simp only [Sx.Bz, Sx.Cont.n] at e2
  rw [e, e2]; rfl
theorem wpc_cmpor (O : OO) (Y : OY) (a b : Int) (F : FO O) (hy : Y = yO O) : wpcI Tryz.prog (spS4 O Y) Tryz.f87.ntmps [Ann.walk 3] (bodyOf Tryz.f87) 0 64 (envA [.ro .i64] [.ints [a, b]] 0) (memA [.ro .i64] [.ints [a, b]] 0) (retG Tryz.prog Tryz.f87.results.toList [.v (.int .i64 (orZ a b))]) :=
 Eq.mpr (by kernel_rfl) (vc_cmpor O Y a b F hy)
theorem ok_cmpor (I : Sx.Interp) (O : OO) (hO : O = oo) (Y : OY) (hY : Y = yO O) : Sx.SpecOK I Tryz.prog 87 (gspec [.ro .i64] (g_cmpor O Y)) := by
 refine spec_gen (spS4_ok I O hO Y hY) (by kernel_rfl) [Ann.walk 3] Tryz.func87 (by kernel_rfl) (by kernel_rfl) rfl Tryz.ntmps87 (by decide) ?_ ?_
 ·intro xs p rs h; unfold g_cmpor at h; split at h <;> first | (simp only [Option.some.injEq, Prod.mk.injEq] at h; rw [← h.2]; simp) | cases h
 ·intro xs rs hl h
  unfold g_cmpor at h
  split at h
  ·simp only [Option.some.injEq, Prod.mk.injEq, Bool.and_eq_true] at h
   obtain ⟨_, rfl⟩ := h
   exact wpcI_of (wpc_cmpor O Y _ _ (fo_oo O hO) hY )
  ·cases h
def spS5 (O : OO) (Y : OY) (f : FuncId) : Option Sx.Spec := match f with
 | 88 => some (Sx.vspec (g_cmpare O Y))
 | 87 => some (gspec [.ro .i64] (g_cmpor O Y))
 | f => spS4 O Y f
theorem spS5_ok (I : Sx.Interp) (O : OO) (hO : O = oo) (Y : OY) (hY : Y = yO O) : ∀ f s, spS5 O Y f = some s → Sx.SpecOK I Tryz.prog f s := by
 intro f s h
 unfold spS5 at h
 split at h
 · cases h; exact ok_cmpare I O hO Y hY
 · cases h; exact ok_cmpor I O hO Y hY
 ·exact spS4_ok I O hO Y hY _ s h
def g_ahead (O : OO) (Y : OY) (l : List Value) : Option (Bool × Value) := match l with
 | [.agg ⟨[.int .i64 xf, .int .i64 xi, .int .i64 xa, .int .u64 xq, .int .i64 xe]⟩, .agg ⟨[.int .i64 yf, .int .i64 yi, .int .i64 ya, .int .u64 yq, .int .i64 ye]⟩] => some ((inU xq 18446744073709551616) && (inU yq 18446744073709551616), .int .i64 (orZ (cmpI xf yf) (cmpI xi yi)))
 | _ => none
set_option maxHeartbeats 4000000 in
theorem vc_ahead (O : OO) (Y : OY) (xf xi xa xq xe yf yi ya yq ye : Int) (out : Value) (F : FO O) (hy : Y = yO O) (h0 : inU xq 18446744073709551616 = true) (h1 : inU yq 18446744073709551616 = true) (ho : .int .i64 (orZ (cmpI xf yf) (cmpI xi yi)) = out) :
 Value.int .i64 (orZ (cmpI xf yf) (cmpI xi yi)) = out := by
 exact ho
theorem wpc_ahead (O : OO) (Y : OY) (xf xi xa xq xe yf yi ya yq ye : Int) (out : Value) (F : FO O) (hy : Y = yO O) (h0 : inU xq 18446744073709551616 = true) (h1 : inU yq 18446744073709551616 = true) (ho : .int .i64 (orZ (cmpI xf yf) (cmpI xi yi)) = out) : wpcI Tryz.prog (spS5 O Y) Tryz.f60.ntmps [] (bodyOf Tryz.f60) 0 0 (argEnv [.agg ⟨[.int .i64 xf, .int .i64 xi, .int .i64 xa, .int .u64 xq, .int .i64 xe]⟩, .agg ⟨[.int .i64 yf, .int .i64 yi, .int .i64 ya, .int .u64 yq, .int .i64 ye]⟩] 0) [] (retK Tryz.prog Tryz.f60.results.toList out) :=
 Eq.mpr (by kernel_rfl) (vc_ahead O Y xf xi xa xq xe yf yi ya yq ye out F hy h0 h1 ho)
theorem ok_ahead (I : Sx.Interp) (O : OO) (hO : O = oo) (Y : OY) (hY : Y = yO O) : Sx.SpecOK I Tryz.prog 60 (Sx.vspec (g_ahead O Y)) := by
 refine spec_walk (n := 2) (spS5_ok I O hO Y hY) (by kernel_rfl) [] Tryz.func60 (by kernel_rfl) (by kernel_rfl) rfl Tryz.ntmps60 (by decide) ?_ ?_
 ·intro l p v hg; unfold g_ahead at hg; split at hg <;> first | rfl | cases hg
 ·intro l v hg
  unfold g_ahead at hg
  split at hg
  ·rename_i xf xi xa xq xe yf yi ya yq ye
   simp only [Option.some.injEq, Prod.mk.injEq, Bool.and_eq_true] at hg
   obtain ⟨⟨q0, q1⟩, rfl⟩ := hg
   exact wpc_ahead O Y xf xi xa xq xe yf yi ya yq ye  _ (fo_oo O hO) hY q0 q1  rfl
  ·cases hg
def g_weight (O : OO) (Y : OY) (l : List Value) : Option (Bool × Value) := match l with
 | [.int .i64 n] => some (true, .int .i64 (wgt n))
 | _ => none
set_option maxHeartbeats 4000000 in
theorem vc_weight (O : OO) (Y : OY) (n : Int) (out : Value) (F : FO O) (hy : Y = yO O)  (ho : .int .i64 (wgt n) = out) :
 If (iLt n 0) (Value.int .i64 0 = out) (If (iLt 16 n) (Value.int .i64 0 = out) (Value.int .i64 (IntKind.i64.wrap (iAdd 68 (IntKind.i64.wrap (iMul 8 n)))) = out)) := by
 subst ho
 unfold wgt
 exact Sx.if_both (fun h => by rw [h]; rfl) (fun h => Sx.if_both (fun h' => by rw [h, h']; rfl) (fun h' => by rw [h, h']; rfl))
theorem wpc_weight (O : OO) (Y : OY) (n : Int) (out : Value) (F : FO O) (hy : Y = yO O)  (ho : .int .i64 (wgt n) = out) : wpcI Tryz.prog (spS5 O Y) Tryz.f105.ntmps [] (bodyOf Tryz.f105) 0 0 (argEnv [.int .i64 n] 0) [] (retK Tryz.prog Tryz.f105.results.toList out) :=
 Eq.mpr (by kernel_rfl) (vc_weight O Y n out F hy  ho)
theorem ok_weight (I : Sx.Interp) (O : OO) (hO : O = oo) (Y : OY) (hY : Y = yO O) : Sx.SpecOK I Tryz.prog 105 (Sx.vspec (g_weight O Y)) := by
 refine spec_walk (n := 1) (spS5_ok I O hO Y hY) (by kernel_rfl) [] Tryz.func105 (by kernel_rfl) (by kernel_rfl) rfl Tryz.ntmps105 (by decide) ?_ ?_
 ·intro l p v hg; unfold g_weight at hg; split at hg <;> first | rfl | cases hg
 ·intro l v hg
  unfold g_weight at hg
  split at hg
  ·rename_i n
   simp only [Option.some.injEq, Prod.mk.injEq, Bool.and_eq_true] at hg
   obtain ⟨_, rfl⟩ := hg
   exact wpc_weight O Y n  _ (fo_oo O hO) hY   rfl
  ·cases hg
def g_tin (O : OO) (Y : OY) (l : List Value) : Option (Bool × Value) := match l with
 | [.int .i64 n, .int .i64 lo, .int .i64 hi] => some (true, .bool (inB n lo hi))
 | _ => none
set_option maxHeartbeats 4000000 in
theorem vc_tin (O : OO) (Y : OY) (n lo hi : Int) (out : Value) (F : FO O) (hy : Y = yO O)  (ho : .bool (inB n lo hi) = out) :
 If (iLe lo n) (Value.bool (iLe n hi) = out) (Value.bool false = out) := by
 subst ho
 unfold inB
 exact Sx.if_both (fun h => by rw [h]; rfl) (fun h => by rw [h]; rfl)
theorem wpc_tin (O : OO) (Y : OY) (n lo hi : Int) (out : Value) (F : FO O) (hy : Y = yO O)  (ho : .bool (inB n lo hi) = out) : wpcI Tryz.prog (spS5 O Y) Tryz.f101.ntmps [] (bodyOf Tryz.f101) 0 0 (argEnv [.int .i64 n, .int .i64 lo, .int .i64 hi] 0) [] (retK Tryz.prog Tryz.f101.results.toList out) :=
 Eq.mpr (by kernel_rfl) (vc_tin O Y n lo hi out F hy  ho)
theorem ok_tin (I : Sx.Interp) (O : OO) (hO : O = oo) (Y : OY) (hY : Y = yO O) : Sx.SpecOK I Tryz.prog 101 (Sx.vspec (g_tin O Y)) := by
 refine spec_walk (n := 3) (spS5_ok I O hO Y hY) (by kernel_rfl) [] Tryz.func101 (by kernel_rfl) (by kernel_rfl) rfl Tryz.ntmps101 (by decide) ?_ ?_
 ·intro l p v hg; unfold g_tin at hg; split at hg <;> first | rfl | cases hg
 ·intro l v hg
  unfold g_tin at hg
  split at hg
  ·rename_i n lo hi
   simp only [Option.some.injEq, Prod.mk.injEq, Bool.and_eq_true] at hg
   obtain ⟨_, rfl⟩ := hg
   exact wpc_tin O Y n lo hi  _ (fo_oo O hO) hY   rfl
  ·cases hg
def g_coins (O : OO) (Y : OY) (l : List Value) : Option (Bool × Value) := match l with
 | [.int .i64 n] => some (true, .bool (inB n 0 1125899906842624))
 | _ => none
set_option maxHeartbeats 4000000 in
theorem vc_coins (O : OO) (Y : OY) (n : Int) (out : Value) (F : FO O) (hy : Y = yO O)  (ho : .bool (inB n 0 1125899906842624) = out) :
 If (iLe 0 n) (Value.bool (iLe n 1125899906842624) = out) (Value.bool false = out) := by
 subst ho
 unfold inB
 exact Sx.if_both (fun h => by rw [h]; rfl) (fun h => by rw [h]; rfl)
theorem wpc_coins (O : OO) (Y : OY) (n : Int) (out : Value) (F : FO O) (hy : Y = yO O)  (ho : .bool (inB n 0 1125899906842624) = out) : wpcI Tryz.prog (spS5 O Y) Tryz.f56.ntmps [] (bodyOf Tryz.f56) 0 0 (argEnv [.int .i64 n] 0) [] (retK Tryz.prog Tryz.f56.results.toList out) :=
 Eq.mpr (by kernel_rfl) (vc_coins O Y n out F hy  ho)
theorem ok_coins (I : Sx.Interp) (O : OO) (hO : O = oo) (Y : OY) (hY : Y = yO O) : Sx.SpecOK I Tryz.prog 56 (Sx.vspec (g_coins O Y)) := by
 refine spec_walk (n := 1) (spS5_ok I O hO Y hY) (by kernel_rfl) [] Tryz.func56 (by kernel_rfl) (by kernel_rfl) rfl Tryz.ntmps56 (by decide) ?_ ?_
 ·intro l p v hg; unfold g_coins at hg; split at hg <;> first | rfl | cases hg
 ·intro l v hg
  unfold g_coins at hg
  split at hg
  ·rename_i n
   simp only [Option.some.injEq, Prod.mk.injEq, Bool.and_eq_true] at hg
   obtain ⟨_, rfl⟩ := hg
   exact wpc_coins O Y n  _ (fo_oo O hO) hY   rfl
  ·cases hg
def g_pts1 (O : OO) (Y : OY) (l : List Value) : Option (Bool × Value) := match l with
 | [.int .u64 p] => some ((inU p 18446744073709551616), .bool (wrongP O p))
 | _ => none
set_option maxHeartbeats 4000000 in
theorem vc_pts1 (O : OO) (Y : OY) (p : Int) (out : Value) (F : FO O) (hy : Y = yO O) (h0 : inU p 18446744073709551616 = true) (ho : .bool (wrongP O p) = out) :
 If (iBeq p 1) (Value.bool true = out) (If (inU p 18446744073709551616) ((Value.bool !O.pright p) = out) False) := by
 subst ho
 unfold wrongP
 exact Sx.if_both (fun h => by rw [h]; rfl) (fun h => Sx.if_true h0 (by rw [h]; rfl))
theorem wpc_pts1 (O : OO) (Y : OY) (p : Int) (out : Value) (F : FO O) (hy : Y = yO O) (h0 : inU p 18446744073709551616 = true) (ho : .bool (wrongP O p) = out) : wpcI Tryz.prog (spS5 O Y) Tryz.f102.ntmps [] (bodyOf Tryz.f102) 0 0 (argEnv [.int .u64 p] 0) [] (retK Tryz.prog Tryz.f102.results.toList out) :=
 Eq.mpr (by kernel_rfl) (vc_pts1 O Y p out F hy h0 ho)
theorem ok_pts1 (I : Sx.Interp) (O : OO) (hO : O = oo) (Y : OY) (hY : Y = yO O) : Sx.SpecOK I Tryz.prog 102 (Sx.vspec (g_pts1 O Y)) := by
 refine spec_walk (n := 1) (spS5_ok I O hO Y hY) (by kernel_rfl) [] Tryz.func102 (by kernel_rfl) (by kernel_rfl) rfl Tryz.ntmps102 (by decide) ?_ ?_
 ·intro l p v hg; unfold g_pts1 at hg; split at hg <;> first | rfl | cases hg
 ·intro l v hg
  unfold g_pts1 at hg
  split at hg
  ·rename_i p
   simp only [Option.some.injEq, Prod.mk.injEq, Bool.and_eq_true] at hg
   obtain ⟨q0, rfl⟩ := hg
   exact wpc_pts1 O Y p  _ (fo_oo O hO) hY q0  rfl
  ·cases hg
def spS6 (O : OO) (Y : OY) (f : FuncId) : Option Sx.Spec := match f with
 | 60 => some (Sx.vspec (g_ahead O Y))
 | 105 => some (Sx.vspec (g_weight O Y))
 | 101 => some (Sx.vspec (g_tin O Y))
 | 56 => some (Sx.vspec (g_coins O Y))
 | 102 => some (Sx.vspec (g_pts1 O Y))
 | f => spS5 O Y f
theorem spS6_ok (I : Sx.Interp) (O : OO) (hO : O = oo) (Y : OY) (hY : Y = yO O) : ∀ f s, spS6 O Y f = some s → Sx.SpecOK I Tryz.prog f s := by
 intro f s h
 unfold spS6 at h
 split at h
 · cases h; exact ok_ahead I O hO Y hY
 · cases h; exact ok_weight I O hO Y hY
 · cases h; exact ok_tin I O hO Y hY
 · cases h; exact ok_coins I O hO Y hY
 · cases h; exact ok_pts1 I O hO Y hY
 ·exact spS5_ok I O hO Y hY _ s h
def g_tfee (O : OO) (Y : OY) (l : List Value) : Option (Bool × Value) := match l with
 | [.int .i64 r, .int .i64 n] => some (true, .int .i64 (feeT r n))
 | _ => none
set_option maxHeartbeats 4000000 in
theorem vc_tfee (O : OO) (Y : OY) (r n : Int) (out : Value) (F : FO O) (hy : Y = yO O)  (ho : .int .i64 (feeT r n) = out) :
 If (iLt r 0) (Value.int .i64 0 = out) (If (iLt 1000 r) (Value.int .i64 0 = out) (Value.int .i64 (IntKind.i64.wrap (iMul r (wgt n))) = out)) := by
 subst ho
 unfold feeT
 exact Sx.if_both (fun h => by rw [h]; rfl) (fun h => Sx.if_both (fun h' => by rw [h, h']; rfl) (fun h' => by rw [h, h']; rfl))
theorem wpc_tfee (O : OO) (Y : OY) (r n : Int) (out : Value) (F : FO O) (hy : Y = yO O)  (ho : .int .i64 (feeT r n) = out) : wpcI Tryz.prog (spS6 O Y) Tryz.f89.ntmps [] (bodyOf Tryz.f89) 0 0 (argEnv [.int .i64 r, .int .i64 n] 0) [] (retK Tryz.prog Tryz.f89.results.toList out) :=
 Eq.mpr (by kernel_rfl) (vc_tfee O Y r n out F hy  ho)
theorem ok_tfee (I : Sx.Interp) (O : OO) (hO : O = oo) (Y : OY) (hY : Y = yO O) : Sx.SpecOK I Tryz.prog 89 (Sx.vspec (g_tfee O Y)) := by
 refine spec_walk (n := 2) (spS6_ok I O hO Y hY) (by kernel_rfl) [] Tryz.func89 (by kernel_rfl) (by kernel_rfl) rfl Tryz.ntmps89 (by decide) ?_ ?_
 ·intro l p v hg; unfold g_tfee at hg; split at hg <;> first | rfl | cases hg
 ·intro l v hg
  unfold g_tfee at hg
  split at hg
  ·rename_i r n
   simp only [Option.some.injEq, Prod.mk.injEq, Bool.and_eq_true] at hg
   obtain ⟨_, rfl⟩ := hg
   exact wpc_tfee O Y r n  _ (fo_oo O hO) hY   rfl
  ·cases hg
def g_tright (O : OO) (Y : OY) (l : List Value) : Option (Bool × Value) := match l with
 | [.agg ⟨[.int .i64 d, .int .i64 r, .int .i64 l, .int .i64 c, .int .i64 a, .int .i64 m]⟩] => some (true, .bool (tRightO d r l c a m))
 | _ => none
set_option maxHeartbeats 4000000 in
theorem vc_tright (O : OO) (Y : OY) (d r l c a m : Int) (out : Value) (F : FO O) (hy : Y = yO O)  (ho : .bool (tRightO d r l c a m) = out) :
 If (inB d 0 65536) (If (inB l 1 4096) (If (inB c 0 16) (If (inB r d 1125899906842624) (If (inB a 1 1125899906842624) (Value.bool (inB m 0 1125899906842624) = out) (Value.bool false
  = out)) (Value.bool false = out)) (Value.bool false = out)) (Value.bool false = out)) (Value.bool false = out) := by
 subst ho
 unfold tRightO
 generalize inB d 0 65536 = A
 generalize inB l 1 4096 = B
 generalize inB c 0 16 = C
 generalize inB r d 1125899906842624 = D
 generalize inB a 1 1125899906842624 = E
 cases A <;> cases B <;> cases C <;> cases D <;> cases E <;> exact rfl
theorem wpc_tright (O : OO) (Y : OY) (d r l c a m : Int) (out : Value) (F : FO O) (hy : Y = yO O)  (ho : .bool (tRightO d r l c a m) = out) : wpcI Tryz.prog (spS6 O Y) Tryz.f85.ntmps [] (bodyOf Tryz.f85) 0 0 (argEnv [.agg ⟨[.int .i64 d, .int .i64 r, .int .i64 l, .int .i64 c, .int .i64 a, .int .i64 m]⟩] 0) [] (retK Tryz.prog Tryz.f85.results.toList out) :=
 Eq.mpr (by kernel_rfl) (vc_tright O Y d r l c a m out F hy  ho)
theorem ok_tright (I : Sx.Interp) (O : OO) (hO : O = oo) (Y : OY) (hY : Y = yO O) : Sx.SpecOK I Tryz.prog 85 (Sx.vspec (g_tright O Y)) := by
 refine spec_walk (n := 1) (spS6_ok I O hO Y hY) (by kernel_rfl) [] Tryz.func85 (by kernel_rfl) (by kernel_rfl) rfl Tryz.ntmps85 (by decide) ?_ ?_
 ·intro l p v hg; unfold g_tright at hg; split at hg <;> first | rfl | cases hg
 ·intro l v hg
  unfold g_tright at hg
  split at hg
  ·rename_i d r l c a m
   simp only [Option.some.injEq, Prod.mk.injEq, Bool.and_eq_true] at hg
   obtain ⟨_, rfl⟩ := hg
   exact wpc_tright O Y d r l c a m  _ (fo_oo O hO) hY   rfl
  ·cases hg
def g_nadd (O : OO) (Y : OY) (l : List Value) : Option (Bool × Value) := match l with
 | [.int .i64 x, .int .i64 y] => some (true, .tuple #[.int .i64 (naddV x y), .bool (naddB x y)])
 | _ => none
set_option maxHeartbeats 4000000 in
theorem vc_nadd (O : OO) (Y : OY) (x y : Int) (out : Value) (F : FO O) (hy : Y = yO O)  (ho : .tuple #[.int .i64 (naddV x y), .bool (naddB x y)] = out) :
 If (!inB x 0 1125899906842624) (Value.tuple (Array.mk [Value.int .i64 0, Value.bool false]) = out) (If (!inB y 0 1125899906842624) (Value.tuple (Array.mk [Value.int .i64 0,
  Value.bool false]) = out) (If (iLt (IntKind.i64.wrap (iSub 1125899906842624 y)) x) (Value.tuple (Array.mk [Value.int .i64 0, Value.bool false]) = out) (Value.tuple (Array.mk
  [Value.int .i64 (IntKind.i64.wrap (iAdd x y)), Value.bool true]) = out))) := by
 subst ho
 unfold naddV naddB
 exact Sx.if_both (fun h => by rw [h]; rfl) (fun h => Sx.if_both (fun h' => by rw [h, h']; rfl) (fun h' => Sx.if_both (fun h2 => by rw [h, h', show iLt (IntKind.i64.wrap (1125899906842624 - y)) x = true from h2]; rfl) (fun h2 => by rw [h, h', show iLt (IntKind.i64.wrap (1125899906842624 - y)) x = false from h2]; rfl)))
theorem wpc_nadd (O : OO) (Y : OY) (x y : Int) (out : Value) (F : FO O) (hy : Y = yO O)  (ho : .tuple #[.int .i64 (naddV x y), .bool (naddB x y)] = out) : wpcI Tryz.prog (spS6 O Y) Tryz.f25.ntmps [] (bodyOf Tryz.f25) 0 0 (argEnv [.int .i64 x, .int .i64 y] 0) [] (retK Tryz.prog Tryz.f25.results.toList out) :=
 Eq.mpr (by kernel_rfl) (vc_nadd O Y x y out F hy  ho)
theorem ok_nadd (I : Sx.Interp) (O : OO) (hO : O = oo) (Y : OY) (hY : Y = yO O) : Sx.SpecOK I Tryz.prog 25 (Sx.vspec (g_nadd O Y)) := by
 refine spec_walk (n := 2) (spS6_ok I O hO Y hY) (by kernel_rfl) [] Tryz.func25 (by kernel_rfl) (by kernel_rfl) rfl Tryz.ntmps25 (by decide) ?_ ?_
 ·intro l p v hg; unfold g_nadd at hg; split at hg <;> first | rfl | cases hg
 ·intro l v hg
  unfold g_nadd at hg
  split at hg
  ·rename_i x y
   simp only [Option.some.injEq, Prod.mk.injEq, Bool.and_eq_true] at hg
   obtain ⟨_, rfl⟩ := hg
   exact wpc_nadd O Y x y  _ (fo_oo O hO) hY   rfl
  ·cases hg
def g_idxPt (O : OO) (Y : OY) (ds : List Dt) : Option (Bool × List Bool × (List Bool → Post)) := match ds with
 | [.ints l, .node []] => some ((Nat.ble l.length 1000) && (inUs 18446744073709551616 l), [], fun _ => ⟨[.v (.int .i64 (idxP (wrongP O) l))], []⟩)
 | _ => none
set_option maxHeartbeats 4000000 in
theorem vc_idxPt (O : OO) (Y : OY) (l : List Int) (F : FO O) (hy : Y = yO O) (h1 : Nat.ble l.length 1000 = true) (h0 : inUs 18446744073709551616 l = true) :
 (∃ (x : Nat), (x ≤ l.length ∧ ∀ (k : Nat), k.succ ≤ x → wrongP O (l.getD k 0) = false) ∧ (Value.int .i64 0 = Value.int .i64 (iOf x) ∧ SV.fn (Fn.func 102) []
  = SV.fn (Fn.func 102) [] ∧ Value.int .i64 (iOf l.length) = Value.int .i64 (iOf l.length) ∧ True) ∧ EqI l l ∧ True) ∧ ∀ (x : Nat), (x ≤ l.length ∧ ∀ (k :
  Nat), k.succ ≤ x → wrongP O (l.getD k 0) = false) → If (iLt (iOf x) (iOf (Cont.ints .u64 l).n)) (If (iLe 0 (iOf x) && (iOf x).toNat.blt l.length) (If (true && Nat.beq 1 1 && (iOf
  x).toNat.blt l.length) (If (inU (l.getD (iOf x).toNat 0) 18446744073709551616) (If (wrongP O (l.getD (iOf x).toNat 0)) (Value.int .i64 (iOf x) = Value.int .i64 (idxP (wrongP O) l) ∧
  True ∧ True) (∃ (x' : Nat), (x' ≤ l.length ∧ ∀ (k : Nat), k.succ ≤ x' → wrongP O (l.getD k 0) = false) ∧ (nSub l.length x').succ ≤ nSub l.length x ∧ (Value.int .i64
  (IntKind.i64.wrap (iAdd (iOf x) 1)) = Value.int .i64 (iOf x') ∧ SV.fn (Fn.func 102) [] = SV.fn (Fn.func 102) [] ∧ Value.int .i64 (iOf
  l.length) = Value.int .i64 (iOf l.length) ∧ True) ∧ EqI l l ∧ True)) False) False) False) (Value.int .i64 (iNeg 1) = Value.int .i64 (idxP (wrongP O) l) ∧ True ∧ True) := by
 simp only [Sx.app, Sx.nAdd, Sx.nSub, Sx.nMul, Sx.nPow, Sx.nDiv, Sx.nMod, Sx.iAdd, Sx.iSub, Sx.iMul, Sx.iNeg, Sx.iPow, Sx.iOf]
 have hm := Nat.le_of_ble_eq_true h1
 refine ⟨⟨0, ⟨Nat.zero_le _, fun k hk => absurd hk (Nat.not_succ_le_zero _)⟩, ⟨rfl, (by first | rfl | trivial)⟩, (by first | rfl | trivial)⟩, fun x hx => Sx.if_both (fun h => ?_) (fun h => ?_)⟩
 ·simp only [Sx.Bz, Sx.Cont.n] at h
  have hlt : x < l.length := by omega
  have hbl : x.blt l.length = true := by rw [Nat.blt_eq]; exact hlt
  refine Sx.if_true (by simp only [Sx.Bz, Sx.Cont.n, hbl, and_true, Int.toNat_natCast]; omega) (Sx.if_true (by simp only [hbl, Int.toNat_natCast]; rfl) (Sx.if_true (by rw [Int.toNat_natCast]; exact inUs_at h0 hlt) (Sx.if_both (fun hc => ?_) (fun hc => ?_))))
  ·simp only [Int.toNat_natCast] at hc
   exact ⟨by rw [idx_here hlt (fun k hk => hx.2 k hk) hc], (by first | rfl | trivial)⟩
  ·simp only [Int.toNat_natCast] at hc
   exact ⟨x + 1, ⟨hlt, fun k hk => by
    rcases Nat.lt_or_ge k x with h' | h'
    ·exact hx.2 k h'
    ·have : k = x := by omega
     rw [this]; exact hc⟩, by omega, ⟨by rw [wrap_succ (by omega)], (by first | rfl | trivial)⟩, (by first | rfl | trivial)⟩
 ·simp only [Sx.Bz, Sx.Cont.n] at h
  have hx2 : x = l.length := by omega
  subst hx2
  exact ⟨by rw [idx_none (fun k hk => hx.2 k hk)], (by first | rfl | trivial)⟩
theorem wpc_idxPt (O : OO) (Y : OY) (l : List Int) (F : FO O) (hy : Y = yO O) (h1 : Nat.ble l.length 1000 = true) (h0 : inUs 18446744073709551616 l = true) : wpcI Tryz.prog (spS6 O Y) Tryz.f112.ntmps [⟨Nat, [0, 1, 7], [], fun B j => [(8, .v (.int .i64 (j : Int)))], fun B j => [], fun j => j ≤ l.length ∧ ∀ k, k < j → wrongP O (l.getD k 0) = false, fun j => l.length - j, 0⟩] (bodyOf Tryz.f112) 0 64 (envP (mks [.ro .u64, .fn 102 []] [.ints l, .node []] 0).1 0) (mks [.ro .u64, .fn 102 []] [.ints l, .node []] 0).2 (retP Tryz.prog Tryz.f112.results.toList 1 (⟨[.v (.int .i64 (idxP (wrongP O) l))], []⟩ : Post)) :=
 Eq.mpr (by kernel_rfl) (vc_idxPt O Y l F hy h1 h0)
theorem ok_idxPt (I : Sx.Interp) (O : OO) (hO : O = oo) (Y : OY) (hY : Y = yO O) : Sx.SpecOK I Tryz.prog 112 (pspec [.ro .u64, .fn 102 []] false (g_idxPt O Y)) := by
 refine spec_patI (spS6_ok I O hO Y hY) (by kernel_rfl) (fun ds => match ds with | [.ints l, .node []] => [⟨Nat, [0, 1, 7], [], fun B j => [(8, .v (.int .i64 (j : Int)))], fun B j => [], fun j => j ≤ l.length ∧ ∀ k, k < j → wrongP O (l.getD k 0) = false, fun j => l.length - j, 0⟩] | _ => []) Tryz.func112 (by kernel_rfl) (by kernel_rfl) rfl Tryz.ntmps112 (by decide) ?_ ?_
 ·intro ds p bs F h
  unfold g_idxPt at h
  split at h
  ·simp only [Option.some.injEq, Prod.mk.injEq] at h
   obtain ⟨_, _, rfl⟩ := h
   kernel_rfl
  ·cases h
 ·intro ds bs F hl h
  unfold g_idxPt at h
  split at h
  ·rename_i l
   simp only [Option.some.injEq, Prod.mk.injEq, Bool.and_eq_true] at h
   obtain ⟨⟨h1, h0⟩, _, rfl⟩ := h
   exact wpc_idxPt O Y l (fo_oo O hO) hY h1 h0
  ·cases h
def spS7 (O : OO) (Y : OY) (f : FuncId) : Option Sx.Spec := match f with
 | 89 => some (Sx.vspec (g_tfee O Y))
 | 85 => some (Sx.vspec (g_tright O Y))
 | 25 => some (Sx.vspec (g_nadd O Y))
 | 112 => some (pspec [.ro .u64, .fn 102 []] false (g_idxPt O Y))
 | f => spS6 O Y f
theorem spS7_ok (I : Sx.Interp) (O : OO) (hO : O = oo) (Y : OY) (hY : Y = yO O) : ∀ f s, spS7 O Y f = some s → Sx.SpecOK I Tryz.prog f s := by
 intro f s h
 unfold spS7 at h
 split at h
 · cases h; exact ok_tfee I O hO Y hY
 · cases h; exact ok_tright I O hO Y hY
 · cases h; exact ok_nadd I O hO Y hY
 · cases h; exact ok_idxPt I O hO Y hY
 ·exact spS6_ok I O hO Y hY _ s h
def g_hasPt (O : OO) (Y : OY) (ds : List Dt) : Option (Bool × List Bool × (List Bool → Post)) := match ds with
 | [.ints l, .node []] => some ((Nat.ble l.length 1000) && (inUs 18446744073709551616 l), [], fun _ => ⟨[.v (.bool (iLe 0 (idxP (wrongP O) l)))], []⟩)
 | _ => none
set_option maxHeartbeats 4000000 in
theorem vc_hasPt (O : OO) (Y : OY) (l : List Int) (F : FO O) (hy : Y = yO O) (h1 : Nat.ble l.length 1000 = true) (h0 : inUs 18446744073709551616 l = true) :
 If (l.length.ble 1000 && inUs 18446744073709551616 l) (Value.bool (iLe 0 (idxP (wrongP O) l)) = Value.bool (iLe 0 (idxP (wrongP O) l)) ∧ True ∧ True) False := by
 exact Sx.if_true (by rw [h1, h0]; rfl) ⟨rfl, trivial, trivial⟩
theorem wpc_hasPt (O : OO) (Y : OY) (l : List Int) (F : FO O) (hy : Y = yO O) (h1 : Nat.ble l.length 1000 = true) (h0 : inUs 18446744073709551616 l = true) : wpcI Tryz.prog (spS7 O Y) Tryz.f103.ntmps [] (bodyOf Tryz.f103) 0 64 (envP (mks [.ro .u64, .fn 102 []] [.ints l, .node []] 0).1 0) (mks [.ro .u64, .fn 102 []] [.ints l, .node []] 0).2 (retP Tryz.prog Tryz.f103.results.toList 1 (⟨[.v (.bool (iLe 0 (idxP (wrongP O) l)))], []⟩ : Post)) :=
 Eq.mpr (by kernel_rfl) (vc_hasPt O Y l F hy h1 h0)
theorem ok_hasPt (I : Sx.Interp) (O : OO) (hO : O = oo) (Y : OY) (hY : Y = yO O) : Sx.SpecOK I Tryz.prog 103 (pspec [.ro .u64, .fn 102 []] false (g_hasPt O Y)) := by
 refine spec_patI (spS7_ok I O hO Y hY) (by kernel_rfl) (fun ds => match ds with | [.ints l, .node []] => [] | _ => []) Tryz.func103 (by kernel_rfl) (by kernel_rfl) rfl Tryz.ntmps103 (by decide) ?_ ?_
 ·intro ds p bs F h
  unfold g_hasPt at h
  split at h
  ·simp only [Option.some.injEq, Prod.mk.injEq] at h
   obtain ⟨_, _, rfl⟩ := h
   kernel_rfl
  ·cases h
 ·intro ds bs F hl h
  unfold g_hasPt at h
  split at h
  ·rename_i l
   simp only [Option.some.injEq, Prod.mk.injEq, Bool.and_eq_true] at h
   obtain ⟨⟨h1, h0⟩, _, rfl⟩ := h
   exact wpc_hasPt O Y l (fo_oo O hO) hY h1 h0
  ·cases h
def spS8 (O : OO) (Y : OY) (f : FuncId) : Option Sx.Spec := match f with
 | 103 => some (pspec [.ro .u64, .fn 102 []] false (g_hasPt O Y))
 | f => spS7 O Y f
theorem spS8_ok (I : Sx.Interp) (O : OO) (hO : O = oo) (Y : OY) (hY : Y = yO O) : ∀ f s, spS8 O Y f = some s → Sx.SpecOK I Tryz.prog f s := by
 intro f s h
 unfold spS8 at h
 split at h
 · cases h; exact ok_hasPt I O hO Y hY
 ·exact spS7_ok I O hO Y hY _ s h
def g_tpts (O : OO) (Y : OY) (l : List Value) : Option (Bool × Value) := match l with
 | [.agg ⟨[.int .u64 a, .int .u64 b, .int .u64 c, .int .u64 d, .int .u64 e]⟩] => some ((inU a 18446744073709551616) && (inU b 18446744073709551616) && (inU c 18446744073709551616) && (inU d 18446744073709551616) && (inU e 18446744073709551616), .bool (ptsO O [a, b, c, d, e]))
 | _ => none
set_option maxHeartbeats 4000000 in
theorem vc_tpts (O : OO) (Y : OY) (a b c d e : Int) (out : Value) (F : FO O) (hy : Y = yO O) (h0 : inU a 18446744073709551616 = true) (h1 : inU b 18446744073709551616 = true) (h2 : inU c 18446744073709551616 = true) (h3 : inU d 18446744073709551616 = true) (h4 : inU e 18446744073709551616 = true) (ho : .bool (ptsO O [a, b, c, d, e]) = out) :
 If ([a, b, c, d, e].length.ble 1000 && inUs 18446744073709551616 [a, b, c, d, e]) ((Value.bool !iLe 0 (idxP (wrongP O) [a, b, c, d, e])) = out) False := by
 subst ho
 exact Sx.if_true (by rw [show inUs 18446744073709551616 [a, b, c, d, e] = true by simp only [inUs, List.all_cons, List.all_nil, h0, h1, h2, h3, h4]; rfl]; rfl) (by rw [idx_allP]; rfl)
theorem wpc_tpts (O : OO) (Y : OY) (a b c d e : Int) (out : Value) (F : FO O) (hy : Y = yO O) (h0 : inU a 18446744073709551616 = true) (h1 : inU b 18446744073709551616 = true) (h2 : inU c 18446744073709551616 = true) (h3 : inU d 18446744073709551616 = true) (h4 : inU e 18446744073709551616 = true) (ho : .bool (ptsO O [a, b, c, d, e]) = out) : wpcI Tryz.prog (spS8 O Y) Tryz.f86.ntmps [] (bodyOf Tryz.f86) 0 0 (argEnv [.agg ⟨[.int .u64 a, .int .u64 b, .int .u64 c, .int .u64 d, .int .u64 e]⟩] 0) [] (retK Tryz.prog Tryz.f86.results.toList out) :=
 Eq.mpr (by kernel_rfl) (vc_tpts O Y a b c d e out F hy h0 h1 h2 h3 h4 ho)
theorem ok_tpts (I : Sx.Interp) (O : OO) (hO : O = oo) (Y : OY) (hY : Y = yO O) : Sx.SpecOK I Tryz.prog 86 (Sx.vspec (g_tpts O Y)) := by
 refine spec_walk (n := 1) (spS8_ok I O hO Y hY) (by kernel_rfl) [] Tryz.func86 (by kernel_rfl) (by kernel_rfl) rfl Tryz.ntmps86 (by decide) ?_ ?_
 ·intro l p v hg; unfold g_tpts at hg; split at hg <;> first | rfl | cases hg
 ·intro l v hg
  unfold g_tpts at hg
  split at hg
  ·rename_i a b c d e
   simp only [Option.some.injEq, Prod.mk.injEq, Bool.and_eq_true] at hg
   obtain ⟨⟨⟨⟨⟨q0, q1⟩, q2⟩, q3⟩, q4⟩, rfl⟩ := hg
   exact wpc_tpts O Y a b c d e  _ (fo_oo O hO) hY q0 q1 q2 q3 q4  rfl
  ·cases hg
def spS9 (O : OO) (Y : OY) (f : FuncId) : Option Sx.Spec := match f with
 | 86 => some (Sx.vspec (g_tpts O Y))
 | f => spS8 O Y f
theorem spS9_ok (I : Sx.Interp) (O : OO) (hO : O = oo) (Y : OY) (hY : Y = yO O) : ∀ f s, spS9 O Y f = some s → Sx.SpecOK I Tryz.prog f s := by
 intro f s h
 unfold spS9 at h
 split at h
 · cases h; exact ok_tpts I O hO Y hY
 ·exact spS8_ok I O hO Y hY _ s h
end Go.Proofs.YtcdmmfelagbpdaaGreat
