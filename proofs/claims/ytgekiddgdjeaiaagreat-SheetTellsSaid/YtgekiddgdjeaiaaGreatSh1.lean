/- Sheet, the lowest functions: bounds, what is compared, terms (printed by genSh.py; VCs by VcTool). -/
import Derived.Test.YtgekiddgdjeaiaaGreatKy2
import Derived.Test.YtgekiddgdjeaiaaGreatRowS
namespace Go.Proofs.YtgekiddgdjeaiaaGreat
open Go.RowKit Go.Lib Ckp Cfd Cpd Sx
open IntKind (i64 u64 u8 i32 u32)
set_option linter.unusedVariables false
set_option linter.unusedSimpArgs false
set_option maxRecDepth 1000000
set_option maxHeartbeats 4000000
def ad2 (lo hi n : Int) : Bool := bif iLt n lo then true else iLt hi n
def adw (p : Int → Bool) (l : List Int) : Int := match l.findIdx? p with
 | some i => (i : Int)
 | none => -1
def jy (lo hi : Int) (l : List Int) : Bool := l.all fun n => !(ad2 lo hi n)
def jc (O : OO) (p : Int) : Bool := bif ax p 1 then true else !(O.iw p)
def qx (x y : Int) : Int := bif iLt x y then -1 else bif iLt y x then 1 else 0
def orZ (a b : Int) : Int := bif qc a 0 then a else b
def yg (O : OO) (f i a q e : Int) : Bool := bif (bif (bif (bif (bif jy 0 1 [f] then jy 1 1048576 [i] else false) then jy 1 1125899906842624 [a] else false) then jy 1 1048576 [e] else false) then O.iw q else false) then qc q 1 else false
def wgt (n : Int) : Int := bif (bif iLt n 0 then true else iLt 16 n) then 0 else i64.wrap (68 + i64.wrap (8 * n))
def aqp (r n : Int) : Int := bif (bif iLt r 0 then true else iLt 1000 r) then 0 else i64.wrap (r * wgt n)
def a0m (O : OO) (l : List Int) : Bool := l.all fun p => !(jc O p)
def inB (n lo hi : Int) : Bool := bif iLe lo n then iLe n hi else false
def agd (x y : Int) : Bool := bif (bif (bif !(inB x 0 1125899906842624) then true else !(inB y 0 1125899906842624)) then true else iLt (i64.wrap (1125899906842624 - y)) x) then false else true
def ajl (x y : Int) : Int := bif agd x y then i64.wrap (x + y) else 0
def ou (d r l c a m : Int) : Bool := bif (bif (bif (bif (bif inB d 0 65536 then inB l 1 4096 else false) then inB c 0 16 else false) then inB r d 1125899906842624 else false) then inB a 1 1125899906842624 else false) then inB m 0 1125899906842624 else false
theorem jb {I : Sx.Interp} {P : Program} {sp : FuncId → Option Sx.Spec} (hsp : ∀ f s, sp f = some s → ag I P f s) (hm : P.follows .mixedOrders = true) (an : List Dt → List Ann) {f : FuncId} {fn : Func} {c : Code} {N : Nat}
  (hf : P.funcs[f]? = some fn) (hname : (fn.name == "runtime.NumGoroutine") = false) (hb' : fn.body.isSome = true) (hc : wu fn = c) (hN : fn.ntmps = N) {ps : List Pat} {al : Bool} {g : List Dt → Option (Bool × List Bool × (List Bool → Post))} (hn : ps.length ≤ N ∧ Pat.sizes ps ≤ 64)
  (hpo : ∀ ds p bs F, g ds = some (p, bs, F) → afj ps al (F bs) = true)
  (h : ∀ ds bs F, ds.length = ps.length → g ds = some (true, bs, F) → apt P sp N (an ds) c 0 64 (akn (mks ps ds 0).1 0) (mks ps ds 0).2 (a5h P fn.results.toList (Pat.sizes ps) (F bs))) : ag I P f (au ps al g) :=
 av5 hsp hm an hf hname hb' hc hN hn hpo fun ds bs F hl hg => acu (h ds bs F hl hg)
theorem yc {I : Sx.Interp} {P : Program} {sp : FuncId → Option Sx.Spec} (hsp : ∀ f s, sp f = some s → ag I P f s) (hm : P.follows .mixedOrders = true) (an : List Dt → List Ann) (ad : List Dt → List (Nat × TypeId × Sx.af)) {f : FuncId} {fn : Func} {c : Code} {N : Nat}
  (hf : P.funcs[f]? = some fn) (hname : (fn.name == "runtime.NumGoroutine") = false) (hb' : fn.body.isSome = true) (hc : wu fn = c) (hN : fn.ntmps = N) {ps : List Pat} {al : Bool} {g : List Dt → Option (Bool × List Bool × (List Bool → Post))} (hn : ps.length ≤ N ∧ Pat.sizes ps ≤ 64)
  (hpo : ∀ ds p bs F, g ds = some (p, bs, F) → afj ps al (F bs) = true)
  (h : ∀ ds bs F, ds.length = ps.length → g ds = some (true, bs, F) → apt P sp N (an ds) c 0 64 (akn (mks ps ds 0).1 0) (mks ps ds 0).2 (a3n (ad ds) P fn.results.toList (Pat.sizes ps) (F bs))) : ag I P f (au ps al g) :=
 aku hsp hm an ad hf hname hb' hc hN hn hpo fun ds bs F hl hg => acu (h ds bs F hl hg)
theorem aw3 {p : Int → Bool} {l : List Int} {x : Nat} (hx : x < l.length) (hb : ∀ k, k < x → p (l.getD k 0) = false) (h : p (l.getD x 0) = true) : adw p l = (x : Int) := by
 have e : l.findIdx? p = some x := by
  rw [List.findIdx?_eq_some_iff_getElem]
  refine ⟨hx, ?_, fun j hj => ?_⟩
  ·rw [List.getD_eq_getElem?_getD, List.getElem?_eq_getElem hx] at h; exact h
  ·have := hb j hj
   rw [List.getD_eq_getElem?_getD, List.getElem?_eq_getElem (by omega)] at this
   simpa using this
 unfold adw
 rw [e]
theorem av9 {p : Int → Bool} {l : List Int} (hb : ∀ k, k < l.length → p (l.getD k 0) = false) : adw p l = -1 := by
 have e : l.findIdx? p = none := by
  rw [List.findIdx?_eq_none_iff]
  intro x hx
  obtain ⟨k, hk, rfl⟩ := List.getElem_of_mem hx
  have := hb k hk
  rw [List.getD_eq_getElem?_getD, List.getElem?_eq_getElem hk] at this
  exact this
 unfold adw
 rw [e]
theorem av8 (p : Int → Bool) (l : List Int) : (!(iLe 0 (adw p l))) = l.all fun n => !(p n) := by
 unfold adw
 cases h : l.findIdx? p with
 | none =>
  rw [List.findIdx?_eq_none_iff] at h
  symm
  show _ = true
  rw [List.all_eq_true]
  intro x hx
  rw [h x hx]; rfl
 | some i =>
  rw [List.findIdx?_eq_some_iff_getElem] at h
  obtain ⟨hi', h1, _⟩ := h
  have e : iLe 0 (i : Int) = true := by simp only [Bz, Sx.af.n]; omega
  simp only [e, Bool.not_true]
  symm
  rw [Bool.eq_false_iff]
  intro hc
  have := List.all_eq_true.1 hc _ (List.getElem_mem hi')
  rw [h1] at this
  cases this
theorem bgm (lo hi : Int) (l : List Int) : (!(iLe 0 (adw (ad2 lo hi) l))) = jy lo hi l := av8 (ad2 lo hi) l
theorem wrap_succ {x : Nat} (h : x ≤ 1000000) : i64.wrap ((x : Int) + 1) = ((x + 1 : Nat) : Int) := by rw [IntWalk.i64_in _ (by omega)]; omega
theorem bgn {b : Nat} {l : List Int} (hl : aqg b l = true) {x : Nat} (hx : x < l.length) : inU (l.getD x 0) b = true := by
 rw [List.getD_eq_getElem?_getD, List.getElem?_eq_getElem hx]
 exact List.all_eq_true.1 hl _ (List.getElem_mem hx)
def aho (O : OO) (Y : OY) (ds : List Dt) : zG := match ds with
 | [.v (.int .i64 n), .node [.v (.int .i64 lo)], .node [.v (.int .i64 hi)]] => some (true, [], fun _ => ⟨[.v (.bool (ad2 lo hi n))], [(0, .blk 3 [.v (.int .i64 lo)]), (1, .blk 3 [.v (.int .i64 hi)])]⟩)
 | _ => none
theorem azh (O : OO) (Y : OY) (n lo hi : Int) (F : FO O) (hy : Y = yO O) :
 If (iLt n lo) (vB true = vB (ad2 lo hi n) ∧ True ∧ vI lo = vI lo ∧ vI hi = vI hi ∧ True) (vB (iLt hi n) = vB (ad2 lo hi n) ∧ True ∧ vI lo = vI lo ∧ vI hi = vI hi ∧ True) := by
 unfold ad2
 exact ae (fun h => ⟨by rw [h]; rfl, (by first | rfl | trivial)⟩) (fun h => ⟨by rw [h]; rfl, (by first | rfl | trivial)⟩)
theorem azw (I : Sx.Interp) (O : OO) (hO : O = oo) (Y : OY) (hY : Y = yO O) : ag I Tryz.prog 78 (au [.v, .obj 3 [.v], .obj 3 [.v]] false (aho O Y)) := by
 refine jb (a2e I O hO Y hY) (by kernel_rfl) (fun _ => []) Tryz.func78 (by kernel_rfl) (by kernel_rfl) rfl Tryz.ntmps78 (by decide) ?_ ?_
 ·intro ds p bs F h
  unfold aho at h
  split at h
  ·simp only [zsI, zpI] at h
   obtain ⟨_, _, rfl⟩ := h
   kernel_rfl
  ·cases h
 ·intro ds bs F hl h
  unfold aho at h
  split at h
  ·rename_i n lo hi
   simp only [zsI, zpI, zaT] at h
   obtain ⟨_, _, rfl⟩ := h
   exact Eq.mpr (by kernel_rfl) (azh O Y n lo hi (dn O hO) hY )
  ·cases h
def bof (O : OO) (Y : OY) (f : FuncId) : Option Sx.Spec := match f with
 | 78 => some (au [.v, .obj 3 [.v], .obj 3 [.v]] false (aho O Y))
 | f => bok O Y f
theorem a13 (I : Sx.Interp) (O : OO) (hO : O = oo) (Y : OY) (hY : Y = yO O) : ∀ f s, bof O Y f = some s → ag I Tryz.prog f s := by
 intro f s h
 unfold bof at h
 split at h
 · cases h; exact azw I O hO Y hY
 ·exact a2e I O hO Y hY _ s h
def aiy (O : OO) (Y : OY) (ds : List Dt) : zG := match ds with
 | [.ints l, .node [.node [.v (.int .i64 lo)], .node [.v (.int .i64 hi)]]] => some ((Nat.ble l.length 1000), [], fun _ => ⟨[.v (.int .i64 (adw (ad2 lo hi) l))], [(1, .blk 3 [.v (.int .i64 lo)]), (2, .blk 3 [.v (.int .i64 hi)])]⟩)
 | _ => none
theorem a7j (O : OO) (Y : OY) (l : List Int) (lo hi : Int) (F : FO O) (hy : Y = yO O) (h1 : Nat.ble l.length 1000 = true) :
 (∃ (x : Nat), (x ≤ l.length ∧ ∀ (k : Nat), k.succ ≤ x → ad2 lo hi (l.getD k 0) = false) ∧ (vI 0 = vI (iOf x) ∧ SV.fn (Fn.func 78) [SV.ptr 1 0, SV.ptr 2 0] = SV.fn (Fn.func 78) [SV.ptr 1 0, SV.ptr 2 0] ∧ vI (iOf l.length) = vI (iOf l.length) ∧ True) ∧ EqI l l ∧ vI lo = vI lo ∧ vI hi = vI hi ∧ True) ∧ ∀ (x : Nat), (x ≤ l.length ∧ ∀ (k : Nat), k.succ ≤ x → ad2 lo hi (l.getD k 0) = false) → If (iLt (iOf x) (iOf (af.ints .i64 l).n)) (If (iLe 0 (iOf x) && (iOf x).toNat.blt l.length) (If (true && Nat.beq 1 1 && (iOf x).toNat.blt l.length) (If (ad2 lo hi (l.getD (iOf x).toNat 0)) (vI (iOf x) = vI (adw (ad2 lo hi) l) ∧ True ∧ vI lo = vI lo ∧ vI hi = vI hi ∧ True) (∃ (x' : Nat), (x' ≤ l.length ∧ ∀ (k : Nat), k.succ ≤ x' → ad2 lo hi (l.getD k 0) = false) ∧ (iy l.length x').succ ≤ iy l.length x ∧ (vI (i64.wrap (dh (iOf x) 1)) = vI (iOf x') ∧ SV.fn (Fn.func 78) [SV.ptr 1 0, SV.ptr 2 0] = SV.fn (Fn.func 78) [SV.ptr 1 0, SV.ptr 2 0] ∧ vI (iOf l.length) = vI (iOf l.length) ∧ True) ∧ EqI l l ∧ vI lo = vI lo ∧ vI hi = vI hi ∧ True)) False) False) (vI (abn 1) = vI (adw (ad2 lo hi) l) ∧ True ∧ vI lo = vI lo ∧ vI hi = vI hi ∧ True) := by
 simp only [zUn]
 have hm := zbL h1
 refine ⟨⟨0, ⟨Nat.zero_le _, fun k hk => absurd hk (Nat.not_succ_le_zero _)⟩, ⟨rfl, (by first | rfl | trivial)⟩, (by first | rfl | trivial)⟩, fun x hx => ae (fun h => ?_) (fun h => ?_)⟩
 ·simp only [Bz, Sx.af.n] at h
  have hlt : x < l.length := by omega
  have hbl : x.blt l.length = true := by rw [Nat.blt_eq]; exact hlt
  refine ziT (by simp only [Bz, Sx.af.n, hbl, and_true, ztN]; omega) (ziT (by simp only [hbl, ztN]; rfl) (ae (fun hc => ?_) (fun hc => ?_)))
  ·simp only [ztN] at hc
   exact ⟨by rw [aw3 hlt (fun k hk => hx.2 k hk) hc], (by first | rfl | trivial)⟩
  ·simp only [ztN] at hc
   exact ⟨x + 1, ⟨hlt, fun k hk => by
    rcases Nat.lt_or_ge k x with h' | h'
    ·exact hx.2 k h'
    ·have : k = x := by omega
     rw [this]; exact hc⟩, by omega, ⟨by rw [wrap_succ (by omega)], (by first | rfl | trivial)⟩, (by first | rfl | trivial)⟩
 ·simp only [Bz, Sx.af.n] at h
  have hx2 : x = l.length := by omega
  subst hx2
  exact ⟨by rw [av9 (fun k hk => hx.2 k hk)], (by first | rfl | trivial)⟩
theorem a6b (I : Sx.Interp) (O : OO) (hO : O = oo) (Y : OY) (hY : Y = yO O) : ag I Tryz.prog 106 (au [.ro .i64, .fn 78 [.obj 3 [.v], .obj 3 [.v]]] false (aiy O Y)) := by
 refine jb (a13 I O hO Y hY) (by kernel_rfl) (fun ds => match ds with | [.ints l, .node [.node [.v (.int .i64 lo)], .node [.v (.int .i64 hi)]]] => [⟨Nat, [0, 1, 7], [], fun B j => [(8, .v (.int .i64 (j : Int)))], fun B j => [], fun j => j ≤ l.length ∧ ∀ k, k < j → ad2 lo hi (l.getD k 0) = false, fun j => l.length - j, 0⟩] | _ => []) Tryz.func106 (by kernel_rfl) (by kernel_rfl) rfl Tryz.ntmps106 (by decide) ?_ ?_
 ·intro ds p bs F h
  unfold aiy at h
  split at h
  ·simp only [zsI, zpI] at h
   obtain ⟨_, _, rfl⟩ := h
   kernel_rfl
  ·cases h
 ·intro ds bs F hl h
  unfold aiy at h
  split at h
  ·rename_i l lo hi
   simp only [zsI, zpI, zaT] at h
   obtain ⟨h1, _, rfl⟩ := h
   exact Eq.mpr (by kernel_rfl) (a7j O Y l lo hi (dn O hO) hY h1)
  ·cases h
def bmd (O : OO) (Y : OY) (f : FuncId) : Option Sx.Spec := match f with
 | 106 => some (au [.ro .i64, .fn 78 [.obj 3 [.v], .obj 3 [.v]]] false (aiy O Y))
 | f => bof O Y f
theorem a1x (I : Sx.Interp) (O : OO) (hO : O = oo) (Y : OY) (hY : Y = yO O) : ∀ f s, bmd O Y f = some s → ag I Tryz.prog f s := by
 intro f s h
 unfold bmd at h
 split at h
 · cases h; exact a6b I O hO Y hY
 ·exact a13 I O hO Y hY _ s h
def aji (O : OO) (Y : OY) (ds : List Dt) : zG := match ds with
 | [.ints l, .node [.node [.v (.int .i64 lo)], .node [.v (.int .i64 hi)]]] => some ((Nat.ble l.length 1000), [], fun _ => ⟨[.v (.bool (iLe 0 (adw (ad2 lo hi) l)))], [(1, .blk 3 [.v (.int .i64 lo)]), (2, .blk 3 [.v (.int .i64 hi)])]⟩)
 | _ => none
theorem a7a (O : OO) (Y : OY) (l : List Int) (lo hi : Int) (F : FO O) (hy : Y = yO O) (h1 : Nat.ble l.length 1000 = true) :
 If (l.length.ble 1000) (vB (iLe 0 (adw (ad2 lo hi) l)) = vB (iLe 0 (adw (ad2 lo hi) l)) ∧ True ∧ vI lo = vI lo ∧ vI hi = vI hi ∧ True) False := by
 exact ziT h1 ⟨rfl, (by first | rfl | trivial)⟩
theorem a7x (I : Sx.Interp) (O : OO) (hO : O = oo) (Y : OY) (hY : Y = yO O) : ag I Tryz.prog 77 (au [.ro .i64, .fn 78 [.obj 3 [.v], .obj 3 [.v]]] false (aji O Y)) := by
 refine jb (a1x I O hO Y hY) (by kernel_rfl) (fun _ => []) Tryz.func77 (by kernel_rfl) (by kernel_rfl) rfl Tryz.ntmps77 (by decide) ?_ ?_
 ·intro ds p bs F h
  unfold aji at h
  split at h
  ·simp only [zsI, zpI] at h
   obtain ⟨_, _, rfl⟩ := h
   kernel_rfl
  ·cases h
 ·intro ds bs F hl h
  unfold aji at h
  split at h
  ·rename_i l lo hi
   simp only [zsI, zpI, zaT] at h
   obtain ⟨h1, _, rfl⟩ := h
   exact Eq.mpr (by kernel_rfl) (a7a O Y l lo hi (dn O hO) hY h1)
  ·cases h
def biq (O : OO) (Y : OY) (f : FuncId) : Option Sx.Spec := match f with
 | 77 => some (au [.ro .i64, .fn 78 [.obj 3 [.v], .obj 3 [.v]]] false (aji O Y))
 | f => bmd O Y f
theorem a2u (I : Sx.Interp) (O : OO) (hO : O = oo) (Y : OY) (hY : Y = yO O) : ∀ f s, biq O Y f = some s → ag I Tryz.prog f s := by
 intro f s h
 unfold biq at h
 split at h
 · cases h; exact a7x I O hO Y hY
 ·exact a1x I O hO Y hY _ s h
def g_within (O : OO) (Y : OY) (xs : List Arg) : Option (Bool × List Ret) := match xs with
 | [.v (.int .i64 lo), .v (.int .i64 hi), .ints l] => some ((Nat.ble l.length 1000), [.v (.bool (jy lo hi l))])
 | _ => none
theorem a7g (O : OO) (Y : OY) (lo hi : Int) (l : List Int) (F : FO O) (hy : Y = yO O) (h1 : Nat.ble l.length 1000 = true) :
 If (l.length.ble 1000) ((vB !iLe 0 (adw (ad2 lo hi) l)) = vB (jy lo hi l) ∧ True) False := by
 exact ziT h1 ⟨by rw [bgm], trivial⟩
theorem a0q (O : OO) (Y : OY) (lo hi : Int) (l : List Int) (F : FO O) (hy : Y = yO O) (h1 : Nat.ble l.length 1000 = true) : apt Tryz.prog (biq O Y) Tryz.f43.ntmps [] (wu Tryz.f43) 0 64 (ae5 [.v, .v, .ro .i64] [.v (.int .i64 lo), .v (.int .i64 hi), .ints l] 0) (afm [.v, .v, .ro .i64] [.v (.int .i64 lo), .v (.int .i64 hi), .ints l] 0) (aph Tryz.prog Tryz.f43.results.toList [.v (.bool (jy lo hi l))]) :=
 Eq.mpr (by kernel_rfl) (a7g O Y lo hi l F hy h1)
theorem a4w (I : Sx.Interp) (O : OO) (hO : O = oo) (Y : OY) (hY : Y = yO O) : ag I Tryz.prog 43 (l7 [.v, .v, .ro .i64] (g_within O Y)) := by
 refine aan (a2u I O hO Y hY) (by kernel_rfl) [] Tryz.func43 (by kernel_rfl) (by kernel_rfl) rfl Tryz.ntmps43 (by decide) ?_ ?_
 ·intro xs p rs h; unfold g_within at h; split at h <;> first | (simp only [zsI, zpI] at h; rw [← h.2]; simp) | cases h
 ·intro xs rs hl h
  unfold g_within at h
  split at h
  ·simp only [zsI, zpI, zaT] at h
   obtain ⟨h1, rfl⟩ := h
   exact acu (a0q O Y _ _ _ (dn O hO) hY h1)
  ·cases h
def blc (O : OO) (Y : OY) (f : FuncId) : Option Sx.Spec := match f with
 | 43 => some (l7 [.v, .v, .ro .i64] (g_within O Y))
 | f => biq O Y f
theorem att (I : Sx.Interp) (O : OO) (hO : O = oo) (Y : OY) (hY : Y = yO O) : ∀ f s, blc O Y f = some s → ag I Tryz.prog f s := by
 intro f s h
 unfold blc at h
 split at h
 · cases h; exact a4w I O hO Y hY
 ·exact a2u I O hO Y hY _ s h
def au1 (O : OO) (Y : OY) (l : List Value) : Option (Bool × Value) := match l with
 | [.agg ⟨[.int .i64 xf, .int .i64 xi, .int .i64 xa, .int .u64 xq, .int .i64 xe]⟩] => some ((inU xq 18446744073709551616), .bool (yg O xf xi xa xq xe))
 | _ => none
theorem bh8 (O : OO) (Y : OY) (xf xi xa xq xe : Int) (out : Value) (F : FO O) (hy : Y = yO O) (h0 : inU xq 18446744073709551616 = true) (ho : .bool (yg O xf xi xa xq xe) = out) :
 If (jy 0 1 [xf]) (If (jy 1 1048576 [xi]) (If (jy 1 1125899906842624 [xa]) (If (jy 1 1048576 [xe]) (If (inU xq 18446744073709551616) (If (O.iw xq) (vB (qc xq 1) = out) (vB false = out)) False) (vB false = out)) (vB false = out)) (vB false = out)) (vB false = out) := by
 subst ho
 unfold yg
 generalize jy 0 1 [xf] = A
 generalize jy 1 1048576 [xi] = B
 generalize jy 1 1125899906842624 [xa] = C
 generalize jy 1 1048576 [xe] = D
 cases A <;> cases B <;> cases C <;> cases D <;> first | exact rfl | exact ziT rfl (ziT rfl (ziT rfl (ziT rfl (ziT h0 (ae (fun e => by rw [e]; rfl) (fun e => by rw [e]; rfl))))))
theorem bi1 (I : Sx.Interp) (O : OO) (hO : O = oo) (Y : OY) (hY : Y = yO O) : ag I Tryz.prog 32 (bz (au1 O Y)) := by
 refine jq (n := 1) (att I O hO Y hY) (by kernel_rfl) [] Tryz.func32 (by kernel_rfl) (by kernel_rfl) rfl Tryz.ntmps32 (by decide) ?_ ?_
 ·intro l p v hg; unfold au1 at hg; split at hg <;> first | rfl | cases hg
 ·intro l v hg
  unfold au1 at hg
  split at hg
  ·rename_i xf xi xa xq xe
   simp only [zsI, zpI, zaT] at hg
   obtain ⟨q0, rfl⟩ := hg
   exact Eq.mpr (by kernel_rfl) (bh8 O Y xf xi xa xq xe  _ (dn O hO) hY q0  rfl)
  ·cases hg
def am7 (O : OO) (Y : OY) (l : List Value) : Option (Bool × Value) := match l with
 | [.int .i64 x] => some (true, .bool false)
 | _ => none
theorem bdg (O : OO) (Y : OY) (x : Int) (out : Value) (F : FO O) (hy : Y = yO O)  (ho : .bool false = out) :
 vB (qc x x) = out := by
 subst ho
 rw [show qc x x = false by simp only [Bz, Sx.af.n]]
theorem bcj (I : Sx.Interp) (O : OO) (hO : O = oo) (Y : OY) (hY : Y = yO O) : ag I Tryz.prog 111 (bz (am7 O Y)) := by
 refine jq (n := 1) (att I O hO Y hY) (by kernel_rfl) [] Tryz.func111 (by kernel_rfl) (by kernel_rfl) rfl Tryz.ntmps111 (by decide) ?_ ?_
 ·intro l p v hg; unfold am7 at hg; split at hg <;> first | rfl | cases hg
 ·intro l v hg
  unfold am7 at hg
  split at hg
  ·rename_i x
   simp only [zsI, zpI, zaT] at hg
   obtain ⟨_, rfl⟩ := hg
   exact Eq.mpr (by kernel_rfl) (bdg O Y x  _ (dn O hO) hY   rfl)
  ·cases hg
def bgs (O : OO) (Y : OY) (f : FuncId) : Option Sx.Spec := match f with
 | 32 => some (bz (au1 O Y))
 | 111 => some (bz (am7 O Y))
 | f => blc O Y f
theorem asn (I : Sx.Interp) (O : OO) (hO : O = oo) (Y : OY) (hY : Y = yO O) : ∀ f s, bgs O Y f = some s → ag I Tryz.prog f s := by
 intro f s h
 unfold bgs at h
 split at h
 · cases h; exact bi1 I O hO Y hY
 · cases h; exact bcj I O hO Y hY
 ·exact att I O hO Y hY _ s h
def ajo (O : OO) (Y : OY) (l : List Value) : Option (Bool × Value) := match l with
 | [.int .i64 x, .int .i64 y] => some (true, .int .i64 (qx x y))
 | _ => none
theorem a3s (O : OO) (Y : OY) (x y : Int) (out : Value) (F : FO O) (hy : Y = yO O)  (ho : .int .i64 (qx x y) = out) :
 If (iLt x y) (vI (abn 1) = out) (If (iLt y x) (vI 1 = out) (vI 0 = out)) := by
 subst ho
 unfold qx
 exact ae (fun h => by rw [h]; rfl) (fun h => ae (fun h' => by rw [h, h']; rfl) (fun h' => by rw [h, h']; rfl))
theorem a4i (I : Sx.Interp) (O : OO) (hO : O = oo) (Y : OY) (hY : Y = yO O) : ag I Tryz.prog 92 (bz (ajo O Y)) := by
 refine jq (n := 2) (asn I O hO Y hY) (by kernel_rfl) [] Tryz.func92 (by kernel_rfl) (by kernel_rfl) rfl Tryz.ntmps92 (by decide) ?_ ?_
 ·intro l p v hg; unfold ajo at hg; split at hg <;> first | rfl | cases hg
 ·intro l v hg
  unfold ajo at hg
  split at hg
  ·rename_i x y
   simp only [zsI, zpI, zaT] at hg
   obtain ⟨_, rfl⟩ := hg
   exact Eq.mpr (by kernel_rfl) (a3s O Y x y  _ (dn O hO) hY   rfl)
  ·cases hg
def al8 (O : OO) (Y : OY) (xs : List Arg) : Option (Bool × List Ret) := match xs with
 | [.ints [a, b]] => some (true, [.v (.int .i64 (orZ a b))])
 | _ => none
theorem a9l (O : OO) (Y : OY) (a b : Int) (F : FO O) (hy : Y = yO O) :
 If (qc ([a, b].getD 0 0) 0) (vI ([a, b].getD 0 0) = vI (orZ a b) ∧ True) (If (qc ([a, b].getD 1 0) 0) (vI ([a, b].getD 1 0) = vI (orZ a b) ∧ True) (vI 0 = vI (orZ a b) ∧ True)) := by
 unfold orZ
 refine ae (fun h => ⟨?_, trivial⟩) (fun h => ae (fun h' => ⟨?_, trivial⟩) (fun h' => ⟨?_, trivial⟩))
 ·have e : qc a 0 = true := h
  rw [e]; rfl
 ·have e : qc a 0 = false := h
  rw [e]; rfl
 ·have e : qc a 0 = false := h
  have e2 : qc b 0 = false := h'
  simp only [Bz, Sx.af.n] at e2
  rw [e, e2]; rfl
theorem a4s (O : OO) (Y : OY) (a b : Int) (F : FO O) (hy : Y = yO O) : apt Tryz.prog (bgs O Y) Tryz.f91.ntmps [Ann.walk 3] (wu Tryz.f91) 0 64 (ae5 [.ro .i64] [.ints [a, b]] 0) (afm [.ro .i64] [.ints [a, b]] 0) (aph Tryz.prog Tryz.f91.results.toList [.v (.int .i64 (orZ a b))]) :=
 Eq.mpr (by kernel_rfl) (a9l O Y a b F hy)
theorem a95 (I : Sx.Interp) (O : OO) (hO : O = oo) (Y : OY) (hY : Y = yO O) : ag I Tryz.prog 91 (l7 [.ro .i64] (al8 O Y)) := by
 refine aan (asn I O hO Y hY) (by kernel_rfl) [Ann.walk 3] Tryz.func91 (by kernel_rfl) (by kernel_rfl) rfl Tryz.ntmps91 (by decide) ?_ ?_
 ·intro xs p rs h; unfold al8 at h; split at h <;> first | (simp only [zsI, zpI] at h; rw [← h.2]; simp) | cases h
 ·intro xs rs hl h
  unfold al8 at h
  split at h
  ·simp only [zsI, zpI, zaT] at h
   obtain ⟨_, rfl⟩ := h
   exact acu (a4s O Y _ _ (dn O hO) hY )
  ·cases h
def bl2 (O : OO) (Y : OY) (f : FuncId) : Option Sx.Spec := match f with
 | 92 => some (bz (ajo O Y))
 | 91 => some (l7 [.ro .i64] (al8 O Y))
 | f => bgs O Y f
theorem ahi (I : Sx.Interp) (O : OO) (hO : O = oo) (Y : OY) (hY : Y = yO O) : ∀ f s, bl2 O Y f = some s → ag I Tryz.prog f s := by
 intro f s h
 unfold bl2 at h
 split at h
 · cases h; exact a4i I O hO Y hY
 · cases h; exact a95 I O hO Y hY
 ·exact asn I O hO Y hY _ s h
def al3 (O : OO) (Y : OY) (l : List Value) : Option (Bool × Value) := match l with
 | [.agg ⟨[.int .i64 xf, .int .i64 xi, .int .i64 xa, .int .u64 xq, .int .i64 xe]⟩, .agg ⟨[.int .i64 yf, .int .i64 yi, .int .i64 ya, .int .u64 yq, .int .i64 ye]⟩] => some ((inU xq 18446744073709551616) && (inU yq 18446744073709551616), .int .i64 (orZ (qx xf yf) (qx xi yi)))
 | _ => none
theorem bbo (O : OO) (Y : OY) (xf xi xa xq xe yf yi ya yq ye : Int) (out : Value) (F : FO O) (hy : Y = yO O) (h0 : inU xq 18446744073709551616 = true) (h1 : inU yq 18446744073709551616 = true) (ho : .int .i64 (orZ (qx xf yf) (qx xi yi)) = out) :
 vI (orZ (qx xf yf) (qx xi yi)) = out := by
 exact ho
theorem ba0 (I : Sx.Interp) (O : OO) (hO : O = oo) (Y : OY) (hY : Y = yO O) : ag I Tryz.prog 59 (bz (al3 O Y)) := by
 refine jq (n := 2) (ahi I O hO Y hY) (by kernel_rfl) [] Tryz.func59 (by kernel_rfl) (by kernel_rfl) rfl Tryz.ntmps59 (by decide) ?_ ?_
 ·intro l p v hg; unfold al3 at hg; split at hg <;> first | rfl | cases hg
 ·intro l v hg
  unfold al3 at hg
  split at hg
  ·rename_i xf xi xa xq xe yf yi ya yq ye
   simp only [zsI, zpI, zaT] at hg
   obtain ⟨⟨q0, q1⟩, rfl⟩ := hg
   exact Eq.mpr (by kernel_rfl) (bbo O Y xf xi xa xq xe yf yi ya yq ye  _ (dn O hO) hY q0 q1  rfl)
  ·cases hg
def ajq (O : OO) (Y : OY) (l : List Value) : Option (Bool × Value) := match l with
 | [.int .i64 n] => some (true, .int .i64 (wgt n))
 | _ => none
theorem a7z (O : OO) (Y : OY) (n : Int) (out : Value) (F : FO O) (hy : Y = yO O)  (ho : .int .i64 (wgt n) = out) :
 If (iLt n 0) (vI 0 = out) (If (iLt 16 n) (vI 0 = out) (vI (i64.wrap (dh 68 (i64.wrap (aa9 8 n)))) = out)) := by
 subst ho
 unfold wgt
 exact ae (fun h => by rw [h]; rfl) (fun h => ae (fun h' => by rw [h, h']; rfl) (fun h' => by rw [h, h']; rfl))
theorem a3v (I : Sx.Interp) (O : OO) (hO : O = oo) (Y : OY) (hY : Y = yO O) : ag I Tryz.prog 85 (bz (ajq O Y)) := by
 refine jq (n := 1) (ahi I O hO Y hY) (by kernel_rfl) [] Tryz.func85 (by kernel_rfl) (by kernel_rfl) rfl Tryz.ntmps85 (by decide) ?_ ?_
 ·intro l p v hg; unfold ajq at hg; split at hg <;> first | rfl | cases hg
 ·intro l v hg
  unfold ajq at hg
  split at hg
  ·rename_i n
   simp only [zsI, zpI, zaT] at hg
   obtain ⟨_, rfl⟩ := hg
   exact Eq.mpr (by kernel_rfl) (a7z O Y n  _ (dn O hO) hY   rfl)
  ·cases hg
def a3e (O : OO) (Y : OY) (l : List Value) : Option (Bool × Value) := match l with
 | [.int .i64 n, .int .i64 lo, .int .i64 hi] => some (true, .bool (inB n lo hi))
 | _ => none
theorem blz (O : OO) (Y : OY) (n lo hi : Int) (out : Value) (F : FO O) (hy : Y = yO O)  (ho : .bool (inB n lo hi) = out) :
 If (iLe lo n) (vB (iLe n hi) = out) (vB false = out) := by
 subst ho
 unfold inB
 exact ae (fun h => by rw [h]; rfl) (fun h => by rw [h]; rfl)
theorem blv (I : Sx.Interp) (O : OO) (hO : O = oo) (Y : OY) (hY : Y = yO O) : ag I Tryz.prog 107 (bz (a3e O Y)) := by
 refine jq (n := 3) (ahi I O hO Y hY) (by kernel_rfl) [] Tryz.func107 (by kernel_rfl) (by kernel_rfl) rfl Tryz.ntmps107 (by decide) ?_ ?_
 ·intro l p v hg; unfold a3e at hg; split at hg <;> first | rfl | cases hg
 ·intro l v hg
  unfold a3e at hg
  split at hg
  ·rename_i n lo hi
   simp only [zsI, zpI, zaT] at hg
   obtain ⟨_, rfl⟩ := hg
   exact Eq.mpr (by kernel_rfl) (blz O Y n lo hi  _ (dn O hO) hY   rfl)
  ·cases hg
def ams (O : OO) (Y : OY) (l : List Value) : Option (Bool × Value) := match l with
 | [.int .i64 n] => some (true, .bool (inB n 0 1125899906842624))
 | _ => none
theorem bd5 (O : OO) (Y : OY) (n : Int) (out : Value) (F : FO O) (hy : Y = yO O)  (ho : .bool (inB n 0 1125899906842624) = out) :
 If (iLe 0 n) (vB (iLe n 1125899906842624) = out) (vB false = out) := by
 subst ho
 unfold inB
 exact ae (fun h => by rw [h]; rfl) (fun h => by rw [h]; rfl)
theorem a9k (I : Sx.Interp) (O : OO) (hO : O = oo) (Y : OY) (hY : Y = yO O) : ag I Tryz.prog 110 (bz (ams O Y)) := by
 refine jq (n := 1) (ahi I O hO Y hY) (by kernel_rfl) [] Tryz.func110 (by kernel_rfl) (by kernel_rfl) rfl Tryz.ntmps110 (by decide) ?_ ?_
 ·intro l p v hg; unfold ams at hg; split at hg <;> first | rfl | cases hg
 ·intro l v hg
  unfold ams at hg
  split at hg
  ·rename_i n
   simp only [zsI, zpI, zaT] at hg
   obtain ⟨_, rfl⟩ := hg
   exact Eq.mpr (by kernel_rfl) (bd5 O Y n  _ (dn O hO) hY   rfl)
  ·cases hg
def as3 (O : OO) (Y : OY) (l : List Value) : Option (Bool × Value) := match l with
 | [.int .u64 p] => some ((inU p 18446744073709551616), .bool (jc O p))
 | _ => none
theorem bfd (O : OO) (Y : OY) (p : Int) (out : Value) (F : FO O) (hy : Y = yO O) (h0 : inU p 18446744073709551616 = true) (ho : .bool (jc O p) = out) :
 If (ax p 1) (vB true = out) (If (inU p 18446744073709551616) ((vB !O.iw p) = out) False) := by
 subst ho
 unfold jc
 exact ae (fun h => by rw [h]; rfl) (fun h => ziT h0 (by rw [h]; rfl))
theorem bio (I : Sx.Interp) (O : OO) (hO : O = oo) (Y : OY) (hY : Y = yO O) : ag I Tryz.prog 108 (bz (as3 O Y)) := by
 refine jq (n := 1) (ahi I O hO Y hY) (by kernel_rfl) [] Tryz.func108 (by kernel_rfl) (by kernel_rfl) rfl Tryz.ntmps108 (by decide) ?_ ?_
 ·intro l p v hg; unfold as3 at hg; split at hg <;> first | rfl | cases hg
 ·intro l v hg
  unfold as3 at hg
  split at hg
  ·rename_i p
   simp only [zsI, zpI, zaT] at hg
   obtain ⟨q0, rfl⟩ := hg
   exact Eq.mpr (by kernel_rfl) (bfd O Y p  _ (dn O hO) hY q0  rfl)
  ·cases hg
def bmz (O : OO) (Y : OY) (f : FuncId) : Option Sx.Spec := match f with
 | 59 => some (bz (al3 O Y))
 | 85 => some (bz (ajq O Y))
 | 107 => some (bz (a3e O Y))
 | 110 => some (bz (ams O Y))
 | 108 => some (bz (as3 O Y))
 | f => bl2 O Y f
theorem aiv (I : Sx.Interp) (O : OO) (hO : O = oo) (Y : OY) (hY : Y = yO O) : ∀ f s, bmz O Y f = some s → ag I Tryz.prog f s := by
 intro f s h
 unfold bmz at h
 split at h
 · cases h; exact ba0 I O hO Y hY
 · cases h; exact a3v I O hO Y hY
 · cases h; exact blv I O hO Y hY
 · cases h; exact a9k I O hO Y hY
 · cases h; exact bio I O hO Y hY
 ·exact ahi I O hO Y hY _ s h
def atu (O : OO) (Y : OY) (l : List Value) : Option (Bool × Value) := match l with
 | [.int .i64 r, .int .i64 n] => some (true, .int .i64 (aqp r n))
 | _ => none
theorem bgt (O : OO) (Y : OY) (r n : Int) (out : Value) (F : FO O) (hy : Y = yO O)  (ho : .int .i64 (aqp r n) = out) :
 If (iLt r 0) (vI 0 = out) (If (iLt 1000 r) (vI 0 = out) (vI (i64.wrap (aa9 r (wgt n))) = out)) := by
 subst ho
 unfold aqp
 exact ae (fun h => by rw [h]; rfl) (fun h => ae (fun h' => by rw [h, h']; rfl) (fun h' => by rw [h, h']; rfl))
theorem bgk (I : Sx.Interp) (O : OO) (hO : O = oo) (Y : OY) (hY : Y = yO O) : ag I Tryz.prog 56 (bz (atu O Y)) := by
 refine jq (n := 2) (aiv I O hO Y hY) (by kernel_rfl) [] Tryz.func56 (by kernel_rfl) (by kernel_rfl) rfl Tryz.ntmps56 (by decide) ?_ ?_
 ·intro l p v hg; unfold atu at hg; split at hg <;> first | rfl | cases hg
 ·intro l v hg
  unfold atu at hg
  split at hg
  ·rename_i r n
   simp only [zsI, zpI, zaT] at hg
   obtain ⟨_, rfl⟩ := hg
   exact Eq.mpr (by kernel_rfl) (bgt O Y r n  _ (dn O hO) hY   rfl)
  ·cases hg
def ai9 (O : OO) (Y : OY) (l : List Value) : Option (Bool × Value) := match l with
 | [.agg ⟨[.int .i64 d, .int .i64 r, .int .i64 l, .int .i64 c, .int .i64 a, .int .i64 m]⟩] => some (true, .bool (ou d r l c a m))
 | _ => none
theorem a5l (O : OO) (Y : OY) (d r l c a m : Int) (out : Value) (F : FO O) (hy : Y = yO O)  (ho : .bool (ou d r l c a m) = out) :
 If (inB d 0 65536) (If (inB l 1 4096) (If (inB c 0 16) (If (inB r d 1125899906842624) (If (inB a 1 1125899906842624) (vB (inB m 0 1125899906842624) = out) (vB false = out)) (vB false = out)) (vB false = out)) (vB false = out)) (vB false = out) := by
 subst ho
 unfold ou
 generalize inB d 0 65536 = A
 generalize inB l 1 4096 = B
 generalize inB c 0 16 = C
 generalize inB r d 1125899906842624 = D
 generalize inB a 1 1125899906842624 = E
 cases A <;> cases B <;> cases C <;> cases D <;> cases E <;> exact rfl
theorem a5e (I : Sx.Interp) (O : OO) (hO : O = oo) (Y : OY) (hY : Y = yO O) : ag I Tryz.prog 88 (bz (ai9 O Y)) := by
 refine jq (n := 1) (aiv I O hO Y hY) (by kernel_rfl) [] Tryz.func88 (by kernel_rfl) (by kernel_rfl) rfl Tryz.ntmps88 (by decide) ?_ ?_
 ·intro l p v hg; unfold ai9 at hg; split at hg <;> first | rfl | cases hg
 ·intro l v hg
  unfold ai9 at hg
  split at hg
  ·rename_i d r l c a m
   simp only [zsI, zpI, zaT] at hg
   obtain ⟨_, rfl⟩ := hg
   exact Eq.mpr (by kernel_rfl) (a5l O Y d r l c a m  _ (dn O hO) hY   rfl)
  ·cases hg
def ati (O : OO) (Y : OY) (l : List Value) : Option (Bool × Value) := match l with
 | [.int .i64 x, .int .i64 y] => some (true, .tuple #[.int .i64 (ajl x y), .bool (agd x y)])
 | _ => none
theorem bgq (O : OO) (Y : OY) (x y : Int) (out : Value) (F : FO O) (hy : Y = yO O)  (ho : .tuple #[.int .i64 (ajl x y), .bool (agd x y)] = out) :
 let T1 := Value.tuple (Array.mk [vI 0, vB false]) = out; If (!inB x 0 1125899906842624) T1 (If (!inB y 0 1125899906842624) T1 (If (iLt (i64.wrap (di 1125899906842624 y))
  x) T1 (Value.tuple (Array.mk [vI (i64.wrap (dh x y)), vB true]) = out))) := by
 conv => zeta
 subst ho
 unfold ajl agd
 exact ae (fun h => by rw [h]; rfl) (fun h => ae (fun h' => by rw [h, h']; rfl) (fun h' => ae (fun h2 => by rw [h, h', show iLt (i64.wrap (1125899906842624 - y)) x = true from h2]; rfl) (fun h2 => by rw [h, h', show iLt (i64.wrap (1125899906842624 - y)) x = false from h2]; rfl)))
theorem bke (I : Sx.Interp) (O : OO) (hO : O = oo) (Y : OY) (hY : Y = yO O) : ag I Tryz.prog 90 (bz (ati O Y)) := by
 refine jq (n := 2) (aiv I O hO Y hY) (by kernel_rfl) [] Tryz.func90 (by kernel_rfl) (by kernel_rfl) rfl Tryz.ntmps90 (by decide) ?_ ?_
 ·intro l p v hg; unfold ati at hg; split at hg <;> first | rfl | cases hg
 ·intro l v hg
  unfold ati at hg
  split at hg
  ·rename_i x y
   simp only [zsI, zpI, zaT] at hg
   obtain ⟨_, rfl⟩ := hg
   exact Eq.mpr (by kernel_rfl) (bgq O Y x y  _ (dn O hO) hY   rfl)
  ·cases hg
def am4 (O : OO) (Y : OY) (ds : List Dt) : zG := match ds with
 | [.ints l, .node []] => some ((Nat.ble l.length 1000) && (aqg 18446744073709551616 l), [], fun _ => ⟨[.v (.int .i64 (adw (jc O) l))], []⟩)
 | _ => none
theorem bah (O : OO) (Y : OY) (l : List Int) (F : FO O) (hy : Y = yO O) (h1 : Nat.ble l.length 1000 = true) (h0 : aqg 18446744073709551616 l = true) :
 (∃ (x : Nat), (x ≤ l.length ∧ ∀ (k : Nat), k.succ ≤ x → jc O (l.getD k 0) = false) ∧ (vI 0 = vI (iOf x) ∧ SV.fn (Fn.func 108) [] = SV.fn (Fn.func 108) [] ∧ vI (iOf l.length) = vI (iOf l.length) ∧ True) ∧ EqI l l ∧ True) ∧ ∀ (x : Nat), (x ≤ l.length ∧ ∀ (k : Nat), k.succ ≤ x → jc O (l.getD k 0) = false) → If (iLt (iOf x) (iOf (af.ints .u64 l).n)) (If (iLe 0 (iOf x) && (iOf x).toNat.blt l.length) (If (true && Nat.beq 1 1 && (iOf x).toNat.blt l.length) (If (inU (l.getD (iOf x).toNat 0) 18446744073709551616) (If (jc O (l.getD (iOf x).toNat 0)) (vI (iOf x) = vI (adw (jc O) l) ∧ True ∧ True) (∃ (x' : Nat), (x' ≤ l.length ∧ ∀ (k : Nat), k.succ ≤ x' → jc O (l.getD k 0) = false) ∧ (iy l.length x').succ ≤ iy l.length x ∧ (vI (i64.wrap (dh (iOf x) 1)) = vI (iOf x') ∧ SV.fn (Fn.func 108) [] = SV.fn (Fn.func 108) [] ∧ vI (iOf l.length) = vI (iOf l.length) ∧ True) ∧ EqI l l ∧ True)) False) False) False) (vI (abn 1) = vI (adw (jc O) l) ∧ True ∧ True) := by
 simp only [zUn]
 have hm := zbL h1
 refine ⟨⟨0, ⟨Nat.zero_le _, fun k hk => absurd hk (Nat.not_succ_le_zero _)⟩, ⟨rfl, (by first | rfl | trivial)⟩, (by first | rfl | trivial)⟩, fun x hx => ae (fun h => ?_) (fun h => ?_)⟩
 ·simp only [Bz, Sx.af.n] at h
  have hlt : x < l.length := by omega
  have hbl : x.blt l.length = true := by rw [Nat.blt_eq]; exact hlt
  refine ziT (by simp only [Bz, Sx.af.n, hbl, and_true, ztN]; omega) (ziT (by simp only [hbl, ztN]; rfl) (ziT (by rw [ztN]; exact bgn h0 hlt) (ae (fun hc => ?_) (fun hc => ?_))))
  ·simp only [ztN] at hc
   exact ⟨by rw [aw3 hlt (fun k hk => hx.2 k hk) hc], (by first | rfl | trivial)⟩
  ·simp only [ztN] at hc
   exact ⟨x + 1, ⟨hlt, fun k hk => by
    rcases Nat.lt_or_ge k x with h' | h'
    ·exact hx.2 k h'
    ·have : k = x := by omega
     rw [this]; exact hc⟩, by omega, ⟨by rw [wrap_succ (by omega)], (by first | rfl | trivial)⟩, (by first | rfl | trivial)⟩
 ·simp only [Bz, Sx.af.n] at h
  have hx2 : x = l.length := by omega
  subst hx2
  exact ⟨by rw [av9 (fun k hk => hx.2 k hk)], (by first | rfl | trivial)⟩
theorem bey (I : Sx.Interp) (O : OO) (hO : O = oo) (Y : OY) (hY : Y = yO O) : ag I Tryz.prog 118 (au [.ro .u64, .fn 108 []] false (am4 O Y)) := by
 refine jb (aiv I O hO Y hY) (by kernel_rfl) (fun ds => match ds with | [.ints l, .node []] => [⟨Nat, [0, 1, 7], [], fun B j => [(8, .v (.int .i64 (j : Int)))], fun B j => [], fun j => j ≤ l.length ∧ ∀ k, k < j → jc O (l.getD k 0) = false, fun j => l.length - j, 0⟩] | _ => []) Tryz.func118 (by kernel_rfl) (by kernel_rfl) rfl Tryz.ntmps118 (by decide) ?_ ?_
 ·intro ds p bs F h
  unfold am4 at h
  split at h
  ·simp only [zsI, zpI] at h
   obtain ⟨_, _, rfl⟩ := h
   kernel_rfl
  ·cases h
 ·intro ds bs F hl h
  unfold am4 at h
  split at h
  ·rename_i l
   simp only [zsI, zpI, zaT] at h
   obtain ⟨⟨h1, h0⟩, _, rfl⟩ := h
   exact Eq.mpr (by kernel_rfl) (bah O Y l (dn O hO) hY h1 h0)
  ·cases h
def blb (O : OO) (Y : OY) (f : FuncId) : Option Sx.Spec := match f with
 | 56 => some (bz (atu O Y))
 | 88 => some (bz (ai9 O Y))
 | 90 => some (bz (ati O Y))
 | 118 => some (au [.ro .u64, .fn 108 []] false (am4 O Y))
 | f => bmz O Y f
theorem a2s (I : Sx.Interp) (O : OO) (hO : O = oo) (Y : OY) (hY : Y = yO O) : ∀ f s, blb O Y f = some s → ag I Tryz.prog f s := by
 intro f s h
 unfold blb at h
 split at h
 · cases h; exact bgk I O hO Y hY
 · cases h; exact a5e I O hO Y hY
 · cases h; exact bke I O hO Y hY
 · cases h; exact bey I O hO Y hY
 ·exact aiv I O hO Y hY _ s h
def am6 (O : OO) (Y : OY) (ds : List Dt) : zG := match ds with
 | [.ints l, .node []] => some ((Nat.ble l.length 1000) && (aqg 18446744073709551616 l), [], fun _ => ⟨[.v (.bool (iLe 0 (adw (jc O) l)))], []⟩)
 | _ => none
theorem a9r (O : OO) (Y : OY) (l : List Int) (F : FO O) (hy : Y = yO O) (h1 : Nat.ble l.length 1000 = true) (h0 : aqg 18446744073709551616 l = true) :
 If (l.length.ble 1000 && aqg 18446744073709551616 l) (vB (iLe 0 (adw (jc O) l)) = vB (iLe 0 (adw (jc O) l)) ∧ True ∧ True) False := by
 exact ziT (by rw [h1, h0]; rfl) ⟨rfl, trivial, trivial⟩
theorem bap (I : Sx.Interp) (O : OO) (hO : O = oo) (Y : OY) (hY : Y = yO O) : ag I Tryz.prog 109 (au [.ro .u64, .fn 108 []] false (am6 O Y)) := by
 refine jb (a2s I O hO Y hY) (by kernel_rfl) (fun _ => []) Tryz.func109 (by kernel_rfl) (by kernel_rfl) rfl Tryz.ntmps109 (by decide) ?_ ?_
 ·intro ds p bs F h
  unfold am6 at h
  split at h
  ·simp only [zsI, zpI] at h
   obtain ⟨_, _, rfl⟩ := h
   kernel_rfl
  ·cases h
 ·intro ds bs F hl h
  unfold am6 at h
  split at h
  ·rename_i l
   simp only [zsI, zpI, zaT] at h
   obtain ⟨⟨h1, h0⟩, _, rfl⟩ := h
   exact Eq.mpr (by kernel_rfl) (a9r O Y l (dn O hO) hY h1 h0)
  ·cases h
def bkp (O : OO) (Y : OY) (f : FuncId) : Option Sx.Spec := match f with
 | 109 => some (au [.ro .u64, .fn 108 []] false (am6 O Y))
 | f => blb O Y f
theorem a1e (I : Sx.Interp) (O : OO) (hO : O = oo) (Y : OY) (hY : Y = yO O) : ∀ f s, bkp O Y f = some s → ag I Tryz.prog f s := by
 intro f s h
 unfold bkp at h
 split at h
 · cases h; exact bap I O hO Y hY
 ·exact a2s I O hO Y hY _ s h
def atc (O : OO) (Y : OY) (l : List Value) : Option (Bool × Value) := match l with
 | [.agg ⟨[.int .u64 a, .int .u64 b, .int .u64 c, .int .u64 d, .int .u64 e]⟩] => some ((inU a 18446744073709551616) && (inU b 18446744073709551616) && (inU c 18446744073709551616) && (inU d 18446744073709551616) && (inU e 18446744073709551616), .bool (a0m O [a, b, c, d, e]))
 | _ => none
theorem bg3 (O : OO) (Y : OY) (a b c d e : Int) (out : Value) (F : FO O) (hy : Y = yO O) (h0 : inU a 18446744073709551616 = true) (h1 : inU b 18446744073709551616 = true) (h2 : inU c 18446744073709551616 = true) (h3 : inU d 18446744073709551616 = true) (h4 : inU e 18446744073709551616 = true) (ho : .bool (a0m O [a, b, c, d, e]) = out) :
 If ([a, b, c, d, e].length.ble 1000 && aqg 18446744073709551616 [a, b, c, d, e]) ((vB !iLe 0 (adw (jc O) [a, b, c, d, e])) = out) False := by
 subst ho
 exact ziT (by rw [show aqg 18446744073709551616 [a, b, c, d, e] = true by simp only [aqg, List.all_cons, List.all_nil, h0, h1, h2, h3, h4]; rfl]; rfl) (by rw [av8]; rfl)
theorem bg5 (I : Sx.Interp) (O : OO) (hO : O = oo) (Y : OY) (hY : Y = yO O) : ag I Tryz.prog 89 (bz (atc O Y)) := by
 refine jq (n := 1) (a1e I O hO Y hY) (by kernel_rfl) [] Tryz.func89 (by kernel_rfl) (by kernel_rfl) rfl Tryz.ntmps89 (by decide) ?_ ?_
 ·intro l p v hg; unfold atc at hg; split at hg <;> first | rfl | cases hg
 ·intro l v hg
  unfold atc at hg
  split at hg
  ·rename_i a b c d e
   simp only [zsI, zpI, zaT] at hg
   obtain ⟨⟨⟨⟨⟨q0, q1⟩, q2⟩, q3⟩, q4⟩, rfl⟩ := hg
   exact Eq.mpr (by kernel_rfl) (bg3 O Y a b c d e  _ (dn O hO) hY q0 q1 q2 q3 q4  rfl)
  ·cases hg
def bmv (O : OO) (Y : OY) (f : FuncId) : Option Sx.Spec := match f with
 | 89 => some (bz (atc O Y))
 | f => bkp O Y f
theorem ana (I : Sx.Interp) (O : OO) (hO : O = oo) (Y : OY) (hY : Y = yO O) : ∀ f s, bmv O Y f = some s → ag I Tryz.prog f s := by
 intro f s h
 unfold bmv at h
 split at h
 · cases h; exact bg5 I O hO Y hY
 ·exact a1e I O hO Y hY _ s h
end Go.Proofs.YtgekiddgdjeaiaaGreat
