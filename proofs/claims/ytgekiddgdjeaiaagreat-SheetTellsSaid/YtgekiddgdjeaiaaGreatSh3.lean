/- Sheet: cost, worth, what is found (printed by genSh.py; VCs by VcTool). -/
import Derived.Test.YtgekiddgdjeaiaaGreatSh2
namespace Go.Proofs.YtgekiddgdjeaiaaGreat
open Go.RowKit Go.Lib Ckp Cfd Cpd Sx
open IntKind (i64 u64 u8 i32 u32)
set_option linter.unusedVariables false
set_option linter.unusedSimpArgs false
set_option maxRecDepth 1000000
set_option maxHeartbeats 4000000
def jg (rt n : Int) : Int := i64.wrap (aqp rt n + 660)
def jf (h0 h1 side : Int) : Int := bif ax side 0 then h0 else h1
def aj (f i : Int) (x : List Int) : Bool := bif ax (x.getD 0 0) f then ax (x.getD 1 0) i else false
def ed (p : List Int → Bool) (l : List (List Int)) : Int := match l.findIdx? p with
 | some i => (i : Int)
 | none => -1
def ak (f i : Int) (l : List (List Int)) (j : Nat) : Int := bif iLt (ed (aj f i) l) 0 then 0 else (l.getD (ed (aj f i) l).toNat []).getD j 0
theorem akx {p : List Int → Bool} {l : List (List Int)} {x : Nat} (hx : x < l.length) (hb : ∀ k, k < x → p (l.getD k []) = false) (h : p (l.getD x []) = true) : ed p l = (x : Int) := by
 have e : l.findIdx? p = some x := by
  rw [List.findIdx?_eq_some_iff_getElem]
  refine ⟨hx, ?_, fun j hj => ?_⟩
  ·rw [List.getD_eq_getElem?_getD, List.getElem?_eq_getElem hx] at h; exact h
  ·have := hb j hj
   rw [List.getD_eq_getElem?_getD, List.getElem?_eq_getElem (by omega)] at this
   simpa using this
 unfold ed
 rw [e]
theorem aky {p : List Int → Bool} {l : List (List Int)} (hb : ∀ k, k < l.length → p (l.getD k []) = false) : ed p l = -1 := by
 have e : l.findIdx? p = none := by
  rw [List.findIdx?_eq_none_iff]
  intro x hx
  obtain ⟨k, hk, rfl⟩ := List.getElem_of_mem hx
  have := hb k hk
  rw [List.getD_eq_getElem?_getD, List.getElem?_eq_getElem hk] at this
  exact this
 unfold ed
 rw [e]
theorem ahc (p : List Int → Bool) (l : List (List Int)) : ed p l < (l.length : Int) ∧ (iLt (ed p l) 0 = false → (ed p l).toNat < l.length ∧ 0 ≤ ed p l) := by
 unfold ed
 cases h : l.findIdx? p with
 | none => exact ⟨by simp only; omega, fun h => by simp only [Bz, Sx.af.n] at h; omega⟩
 | some i =>
  rw [List.findIdx?_eq_some_iff_getElem] at h
  obtain ⟨hi, _⟩ := h
  exact ⟨by simp only; omega, fun _ => by simp only [ztN]; omega⟩
theorem ark {h0 h1 side : Int} (e : iEq side (iOf 0) = true) : jf h0 h1 side = h0 := by
 have : side = 0 := of_decide_eq_true e
 subst this
 rfl
theorem arb {h0 h1 side : Int} (e : iEq side (iOf (ay 0 1)) = true) : jf h0 h1 side = h1 := by
 have : side = 1 := of_decide_eq_true e
 subst this
 rfl
theorem ad1 {side : Int} (h : jy 0 1 [side] = true) (e : iEq side (iOf 0) = false) : iEq side (iOf (ay 0 1)) = true := by
 unfold jy ad2 at h
 simp only [List.all_cons, List.all_nil, Bool.and_true] at h
 have e' : ¬ side = 0 := of_decide_eq_false e
 refine decide_eq_true ?_
 show side = 1
 cases a : iLt side 0 with
 | true => rw [a] at h; cases h
 | false =>
  rw [a] at h
  cases b : iLt 1 side with
  | true => rw [b] at h; cases h
  | false => simp only [Bz, Sx.af.n] at a b; omega
def bcd (O : OO) (Y : OY) (f : FuncId) : Option Sx.Spec := match f with
 | 33 => some (au [.agg [.v, .v, .v, .roS [.i64, .i64, .i64, .u64, .i64], .v], .v] false (ahh O Y))
 | 23 => some (au [.agg [.v, .v, .v, .roS [.i64, .i64, .i64, .u64, .i64], .v]] false (al1 O Y))
 | 58 => some (au [.v] false (a15 O Y))
 | f => bmv O Y f
theorem aim (I : Sx.Interp) (O : OO) (hO : O = oo) (Y : OY) (hY : Y = yO O) : ∀ f s, bcd O Y f = some s → ag I Tryz.prog f s := by
 intro f s h
 unfold bcd at h
 split at h
 · cases h; exact a0g I O hO Y hY
 · cases h; exact beb I O hO Y hY
 · cases h; exact bnp I O hO Y hY
 ·exact ana I O hO Y hY _ s h
def aun (O : OO) (Y : OY) (ds : List Dt) : zG := match ds with
 | [.v (.agg ch), .node [.v (.int .i64 no), .v (.int .i64 h0), .v (.int .i64 h1), .structs l, .v (.int .i64 rt)]] => some ((chB ch) && (Nat.ble l.length 1000), [], fun _ => ⟨[.v (.int .i64 (jg rt l.length))], []⟩)
 | _ => none
theorem bfu (O : OO) (Y : OY) (c : Nat → Int) (no h0 h1 rt : Int) (l : List (List Int)) (F : FO O) (hy : Y = yO O) (hc : chB (chA c) = true) (g0 : Nat.ble l.length 1000 = true) :
 vI (i64.wrap (dh (aqp rt (iOf l.length)) 660)) = vI (jg rt (iOf l.length)) ∧ True ∧ True := by
 exact ⟨rfl, trivial, trivial⟩
theorem bfl (I : Sx.Interp) (O : OO) (hO : O = oo) (Y : OY) (hY : Y = yO O) : ag I Tryz.prog 19 (au [.v, .agg [.v, .v, .v, .roS [.i64, .i64, .i64, .u64, .i64], .v]] false (aun O Y)) := by
 refine jb (aim I O hO Y hY) (by kernel_rfl) (fun _ => []) Tryz.func19 (by kernel_rfl) (by kernel_rfl) rfl Tryz.ntmps19 (by decide) ?_ ?_
 ·intro ds p bs F h
  unfold aun at h
  split at h
  ·simp only [zsI, zpI] at h
   obtain ⟨_, _, rfl⟩ := h
   kernel_rfl
  ·cases h
 ·intro ds bs F hl h
  unfold aun at h
  split at h
  ·rename_i ch no h0 h1 l rt
   simp only [zsI, zpI, zaT] at h
   obtain ⟨⟨hc, g0⟩, _, rfl⟩ := h
   obtain ⟨c, ec, rfl⟩ : ∃ c, cz ch = c ∧ ch = chA c := ⟨_, rfl, aak hc⟩
   simp only [ec]
   exact Eq.mpr (by kernel_rfl) (bfu O Y c no h0 h1 rt l (dn O hO) hY hc g0)
  ·cases h
def ame (O : OO) (Y : OY) (ds : List Dt) : zG := match ds with
 | [.node [.v (.int .i64 no), .v (.int .i64 h0), .v (.int .i64 h1), .structs l, .v (.int .i64 rt)], .v (.int .i64 side)] => some ((Nat.ble l.length 1000), [], fun _ => ⟨[.v (.int .i64 (bif !(jy 0 1 [side]) then 0 else i64.wrap (jf h0 h1 side + og (i64.wrap (1 - side)) l)))], []⟩)
 | _ => none
theorem a8k (O : OO) (Y : OY) (no h0 h1 rt : Int) (l : List (List Int)) (side : Int) (F : FO O) (hy : Y = yO O) (g0 : Nat.ble l.length 1000 = true) :
 let T1 := bif !jy 0 1 [side] then 0 else i64.wrap (dh (jf h0 h1 side) (og (i64.wrap (di 1 side)) l)); If (!jy 0 1 [side]) (vI 0 = vI T1 ∧ True ∧ True)
  (If (l.length.ble 1000) (If (iEq side (iOf 0)) (vI (i64.wrap (dh h0 (og (i64.wrap (di 1 side)) l))) = vI T1 ∧ True ∧ True) (If (iEq side (iOf (ay 0 1))) (vI
  (i64.wrap (dh h1 (og (i64.wrap (di 1 side)) l))) = vI T1 ∧ True ∧ True) False)) False) := by
 conv => zeta
 refine ae (fun h => ⟨by rw [h]; rfl, (by first | rfl | trivial)⟩) (fun h => ziT g0 (ae (fun e => ⟨by rw [h, ark e]; rfl, (by first | rfl | trivial)⟩) (fun e => ziT (ad1 (by cases a : jy 0 1 [side] with
  | true => rfl
  | false => rw [a] at h; cases h) e) ?_)))
 have e1 := ad1 (side := side) (by cases a : jy 0 1 [side] with
  | true => rfl
  | false => rw [a] at h; cases h) e
 exact ⟨by rw [h, arb e1]; rfl, (by first | rfl | trivial)⟩
theorem a9h (I : Sx.Interp) (O : OO) (hO : O = oo) (Y : OY) (hY : Y = yO O) : ag I Tryz.prog 25 (au [.agg [.v, .v, .v, .roS [.i64, .i64, .i64, .u64, .i64], .v], .v] false (ame O Y)) := by
 refine jb (aim I O hO Y hY) (by kernel_rfl) (fun _ => []) Tryz.func25 (by kernel_rfl) (by kernel_rfl) rfl Tryz.ntmps25 (by decide) ?_ ?_
 ·intro ds p bs F h
  unfold ame at h
  split at h
  ·simp only [zsI, zpI] at h
   obtain ⟨_, _, rfl⟩ := h
   kernel_rfl
  ·cases h
 ·intro ds bs F hl h
  unfold ame at h
  split at h
  ·rename_i no h0 h1 l rt side
   simp only [zsI, zpI, zaT] at h
   obtain ⟨g0, _, rfl⟩ := h
   exact Eq.mpr (by kernel_rfl) (a8k O Y no h0 h1 rt l side (dn O hO) hY g0)
  ·cases h
def amk (O : OO) (Y : OY) (ds : List Dt) : zG := match ds with
 | [.v (.agg ⟨[.int .i64 xf, .int .i64 xi, .int .i64 xa, .int .u64 xq, .int .i64 xe]⟩), .node [.v (.int .i64 fr)], .node [.v (.int .i64 id)]] => some (true, [], fun _ => ⟨[.v (.bool (bif ax xf fr then ax xi id else false))], [(0, .blk 3 [.v (.int .i64 fr)]), (1, .blk 3 [.v (.int .i64 id)])]⟩)
 | _ => none
theorem baz (O : OO) (Y : OY) (xf xi xa xq xe fr id : Int) (F : FO O) (hy : Y = yO O) :
 let T1 := bif ax xf fr then ax xi id else false; If (ax xf fr) (vB (ax xi id) = vB T1 ∧ True ∧ vI fr = vI fr ∧ vI id = vI id ∧ True) (vB false = vB T1 ∧ True ∧ vI fr = vI fr
  ∧ vI id = vI id ∧ True) := by
 conv => zeta
 exact ae (fun h => ⟨by rw [h]; rfl, (by first | rfl | trivial)⟩) (fun h => ⟨by rw [h]; rfl, (by first | rfl | trivial)⟩)
theorem bbq (I : Sx.Interp) (O : OO) (hO : O = oo) (Y : OY) (hY : Y = yO O) : ag I Tryz.prog 55 (au [.v, .obj 3 [.v], .obj 3 [.v]] false (amk O Y)) := by
 refine jb (aim I O hO Y hY) (by kernel_rfl) (fun _ => []) Tryz.func55 (by kernel_rfl) (by kernel_rfl) rfl Tryz.ntmps55 (by decide) ?_ ?_
 ·intro ds p bs F h
  unfold amk at h
  split at h
  ·simp only [zsI, zpI] at h
   obtain ⟨_, _, rfl⟩ := h
   kernel_rfl
  ·cases h
 ·intro ds bs F hl h
  unfold amk at h
  split at h
  ·rename_i xf xi xa xq xe fr id
   simp only [zsI, zpI, zaT] at h
   obtain ⟨_, _, rfl⟩ := h
   exact Eq.mpr (by kernel_rfl) (baz O Y xf xi xa xq xe fr id (dn O hO) hY )
  ·cases h
def ba5 (O : OO) (Y : OY) (f : FuncId) : Option Sx.Spec := match f with
 | 19 => some (au [.v, .agg [.v, .v, .v, .roS [.i64, .i64, .i64, .u64, .i64], .v]] false (aun O Y))
 | 25 => some (au [.agg [.v, .v, .v, .roS [.i64, .i64, .i64, .u64, .i64], .v], .v] false (ame O Y))
 | 55 => some (au [.v, .obj 3 [.v], .obj 3 [.v]] false (amk O Y))
 | f => bcd O Y f
theorem ax7 (I : Sx.Interp) (O : OO) (hO : O = oo) (Y : OY) (hY : Y = yO O) : ∀ f s, ba5 O Y f = some s → ag I Tryz.prog f s := by
 intro f s h
 unfold ba5 at h
 split at h
 · cases h; exact bfl I O hO Y hY
 · cases h; exact a9h I O hO Y hY
 · cases h; exact bbq I O hO Y hY
 ·exact aim I O hO Y hY _ s h
def aek (O : OO) (Y : OY) (ds : List Dt) : zG := match ds with
 | [.structs l, .node [.node [.v (.int .i64 fr)], .node [.v (.int .i64 id)]]] => some ((Nat.ble l.length 1000), [], fun _ => ⟨[.v (.int .i64 (ed (aj fr id) l))], [(1, .blk 3 [.v (.int .i64 fr)]), (2, .blk 3 [.v (.int .i64 id)])]⟩)
 | _ => none
theorem az1 (O : OO) (Y : OY) (l : List (List Int)) (fr id : Int) (F : FO O) (hy : Y = yO O) (h1 : Nat.ble l.length 1000 = true) :
 (∃ (x : Nat), (x ≤ l.length ∧ ∀ (k : Nat), k.succ ≤ x → aj fr id (l.getD k []) = false) ∧ (vI 0 = vI (iOf x) ∧ SV.fn (Fn.func 55) [SV.ptr 1 0, SV.ptr 2 0] = SV.fn (Fn.func 55) [SV.ptr 1 0, SV.ptr 2 0] ∧ vI (iOf l.length) = vI (iOf l.length) ∧ True) ∧ cS l = cS l ∧ vI fr = vI fr ∧ vI id = vI id ∧ True) ∧ ∀ (x : Nat), (x ≤ l.length ∧ ∀ (k : Nat), k.succ ≤ x → aj fr id (l.getD k []) = false) → If (iLt (iOf x) (iOf (cS l).n)) (If (iLe 0 (iOf x) && (iOf x).toNat.blt l.length) (If (true && Nat.beq 5 5 && (iOf x).toNat.blt l.length) (If (bif ax ((l.getD (iOf x).toNat []).getD 0 0) fr then ax ((l.getD (iOf x).toNat []).getD 1 0) id else false) (vI (iOf x) = vI (ed (aj fr id) l) ∧ True ∧ vI fr = vI fr ∧ vI id = vI id ∧ True) (∃ (x' : Nat), (x' ≤ l.length ∧ ∀ (k : Nat), k.succ ≤ x' → aj fr id (l.getD k []) = false) ∧ (iy l.length x').succ ≤ iy l.length x ∧ (vI (i64.wrap (dh (iOf x) 1)) = vI (iOf x') ∧ SV.fn (Fn.func 55) [SV.ptr 1 0, SV.ptr 2 0] = SV.fn (Fn.func 55) [SV.ptr 1 0, SV.ptr 2 0] ∧ vI (iOf l.length) = vI (iOf l.length) ∧ True) ∧ cS l = cS l ∧ vI fr = vI fr ∧ vI id = vI id ∧ True)) False) False) (vI (abn 1) = vI (ed (aj fr id) l) ∧ True ∧ vI fr = vI fr ∧ vI id = vI id ∧ True) := by
 simp only [zUn]
 have hm := zbL h1
 refine ⟨⟨0, ⟨Nat.zero_le _, fun k hk => absurd hk (Nat.not_succ_le_zero _)⟩, ⟨rfl, (by first | rfl | trivial)⟩, (by first | rfl | trivial)⟩, fun x hx => ae (fun h => ?_) (fun h => ?_)⟩
 ·simp only [Bz, Sx.af.n] at h
  have hlt : x < l.length := by omega
  have hbl : x.blt l.length = true := by rw [Nat.blt_eq]; exact hlt
  refine ziT (by simp only [Bz, Sx.af.n, hbl, and_true, ztN]; omega) (ziT (by simp only [hbl, ztN]; rfl) (ae (fun hc => ?_) (fun hc => ?_)))
  ·simp only [ztN] at hc
   have hc' : aj fr id (l.getD x []) = true := hc
   exact ⟨by rw [akx hlt (fun k hk => hx.2 k hk) hc'], (by first | rfl | trivial)⟩
  ·simp only [ztN] at hc
   have hc' : aj fr id (l.getD x []) = false := hc
   exact ⟨x + 1, ⟨hlt, fun k hk => by
    rcases Nat.lt_or_ge k x with h' | h'
    ·exact hx.2 k h'
    ·have : k = x := by omega
     rw [this]; exact hc'⟩, by omega, ⟨by rw [wrap_succ (by omega)], (by first | rfl | trivial)⟩, (by first | rfl | trivial)⟩
 ·simp only [Bz, Sx.af.n] at h
  have hx2 : x = l.length := by omega
  subst hx2
  exact ⟨by rw [aky (fun k hk => hx.2 k hk)], (by first | rfl | trivial)⟩
theorem aof (I : Sx.Interp) (O : OO) (hO : O = oo) (Y : OY) (hY : Y = yO O) : ag I Tryz.prog 54 (au [.roS [.i64, .i64, .i64, .u64, .i64], .fn 55 [.obj 3 [.v], .obj 3 [.v]]] false (aek O Y)) := by
 refine jb (ax7 I O hO Y hY) (by kernel_rfl) (fun ds => match ds with | [.structs l, .node [.node [.v (.int .i64 fr)], .node [.v (.int .i64 id)]]] => [⟨Nat, [0, 1, 7], [], fun B j => [(8, .v (.int .i64 (j : Int)))], fun B j => [], fun j => j ≤ l.length ∧ ∀ k, k < j → aj fr id (l.getD k []) = false, fun j => l.length - j, 0⟩] | _ => []) Tryz.func54 (by kernel_rfl) (by kernel_rfl) rfl Tryz.ntmps54 (by decide) ?_ ?_
 ·intro ds p bs F h
  unfold aek at h
  split at h
  ·simp only [zsI, zpI] at h
   obtain ⟨_, _, rfl⟩ := h
   kernel_rfl
  ·cases h
 ·intro ds bs F hl h
  unfold aek at h
  split at h
  ·rename_i l fr id
   simp only [zsI, zpI, zaT] at h
   obtain ⟨h1, _, rfl⟩ := h
   exact Eq.mpr (by kernel_rfl) (az1 O Y l fr id (dn O hO) hY h1)
  ·cases h
def ba4 (O : OO) (Y : OY) (f : FuncId) : Option Sx.Spec := match f with
 | 54 => some (au [.roS [.i64, .i64, .i64, .u64, .i64], .fn 55 [.obj 3 [.v], .obj 3 [.v]]] false (aek O Y))
 | f => ba5 O Y f
theorem apg (I : Sx.Interp) (O : OO) (hO : O = oo) (Y : OY) (hY : Y = yO O) : ∀ f s, ba4 O Y f = some s → ag I Tryz.prog f s := by
 intro f s h
 unfold ba4 at h
 split at h
 · cases h; exact aof I O hO Y hY
 ·exact ax7 I O hO Y hY _ s h
def auh (O : OO) (Y : OY) (ds : List Dt) : zG := match ds with
 | [.node [.v (.int .i64 no), .v (.int .i64 h0), .v (.int .i64 h1), .structs l, .v (.int .i64 rt)], .v (.int .i64 fr), .v (.int .i64 id)] => some ((Nat.ble l.length 1000), [], fun _ => ⟨[.v (.agg ⟨[.int .i64 (ak fr id l 0), .int .i64 (ak fr id l 1), .int .i64 (ak fr id l 2), .int .u64 (ak fr id l 3), .int .i64 (ak fr id l 4)]⟩), .v (.bool (!(iLt (ed (aj fr id) l) 0)))], []⟩)
 | _ => none
theorem bgu (O : OO) (Y : OY) (no h0 h1 rt : Int) (l : List (List Int)) (fr id : Int) (F : FO O) (hy : Y = yO O) (g0 : Nat.ble l.length 1000 = true) :
 let T1 := l.getD (ed (aj fr id) l).toNat []; let T2 := Array.mk [vI (ak fr id l 0), vI (ak fr id l 1), vI (ak fr id l 2), Value.int .u64 (ak fr id l 3), vI (ak fr id l 4)];
  If (l.length.ble 1000) (If (iLt (ed (aj fr id) l) 0) ((Value.agg (Array.mk [vI 0, vI 0, vI 0, Value.int .u64 0, vI 0]) = Value.agg T2 ∧ vB false = vB !iLt (ed (aj fr id)
  l) 0) ∧ True ∧ True) (If (iLe 0 (ed (aj fr id) l) && (ed (aj fr id) l).toNat.blt l.length) (If (true && Nat.beq 5 5 && (ed (aj fr id) l).toNat.blt l.length)
  ((Value.agg (Array.mk [vI (T1.getD 0 0), vI (T1.getD 1 0), vI (T1.getD 2 0), Value.int .u64 (T1.getD 3 0), vI (T1.getD 4 0)]) = Value.agg T2 ∧ vB true = vB !iLt (ed (aj fr id)
  l) 0) ∧ True ∧ True) False) False)) False := by
 conv => zeta
 refine ziT g0 (ae (fun h => ⟨⟨by unfold ak; rw [h]; rfl, by rw [h]; rfl⟩, (by first | rfl | trivial)⟩) (fun h => ?_))
 obtain ⟨k1, k2⟩ := (ahc (aj fr id) l).2 h
 have hb : (ed (aj fr id) l).toNat.blt l.length = true := by rw [Nat.blt_eq]; exact k1
 exact ziT (by rw [hb]; simp only [Bz, Sx.af.n, and_true]; exact k2) (ziT (by rw [hb]; rfl) ⟨⟨by unfold ak; rw [h]; rfl, by rw [h]; rfl⟩, (by first | rfl | trivial)⟩)
theorem bfi (I : Sx.Interp) (O : OO) (hO : O = oo) (Y : OY) (hY : Y = yO O) : ag I Tryz.prog 17 (au [.agg [.v, .v, .v, .roS [.i64, .i64, .i64, .u64, .i64], .v], .v, .v] false (auh O Y)) := by
 refine jb (apg I O hO Y hY) (by kernel_rfl) (fun _ => []) Tryz.func17 (by kernel_rfl) (by kernel_rfl) rfl Tryz.ntmps17 (by decide) ?_ ?_
 ·intro ds p bs F h
  unfold auh at h
  split at h
  ·simp only [zsI, zpI] at h
   obtain ⟨_, _, rfl⟩ := h
   kernel_rfl
  ·cases h
 ·intro ds bs F hl h
  unfold auh at h
  split at h
  ·rename_i no h0 h1 l rt fr id
   simp only [zsI, zpI, zaT] at h
   obtain ⟨g0, _, rfl⟩ := h
   exact Eq.mpr (by kernel_rfl) (bgu O Y no h0 h1 rt l fr id (dn O hO) hY g0)
  ·cases h
def aub (O : OO) (Y : OY) (ds : List Dt) : zG := match ds with
 | [.v (.agg ch), .node [.v (.int .i64 no), .v (.int .i64 h0), .v (.int .i64 h1), .structs l, .v (.int .i64 rt)], .v (.int .i64 side)] => some ((chB ch) && (Nat.ble l.length 1000) && (jy 0 1 [side]), [], fun _ => ⟨[.v (.int .i64 (bif ax side ((cz ch) 56) then i64.wrap (jf h0 h1 side - jg rt l.length) else jf h0 h1 side))], []⟩)
 | _ => none
theorem bij (O : OO) (Y : OY) (c : Nat → Int) (no h0 h1 rt : Int) (l : List (List Int)) (side : Int) (F : FO O) (hy : Y = yO O) (hc : chB (chA c) = true) (g0 : Nat.ble l.length 1000 = true) (hs : jy 0 1 [side] = true) :
 let T1 := bif ax side (c 56) then i64.wrap (di (jf h0 h1 side) (jg rt (iOf l.length))) else jf h0 h1 side; If (ax side (c 56)) (If (iEq side (iOf 0)) (If (chB
  (chA c) && l.length.ble 1000) (vI (i64.wrap (di h0 (jg rt (iOf l.length)))) = vI T1 ∧ True ∧ True) False) (If (iEq side (iOf (ay 0 1))) (If (chB (chA c) &&
  l.length.ble 1000) (vI (i64.wrap (di h1 (jg rt (iOf l.length)))) = vI T1 ∧ True ∧ True) False) False)) (If (iEq side (iOf 0)) (vI h0 = vI T1 ∧ True ∧ True) (If (iEq
  side (iOf (ay 0 1))) (vI h1 = vI T1 ∧ True ∧ True) False)) := by
 conv => zeta
 have q0 : (chB (chA c) && l.length.ble 1000) = true := by rw [hc, g0]; rfl
 refine ae (fun a => ae (fun e => ziT q0 ⟨by rw [a, ark e]; rfl, (by first | rfl | trivial)⟩) (fun e => ziT (ad1 hs e) (ziT q0 ⟨by rw [a, arb (ad1 hs e)]; rfl, (by first | rfl | trivial)⟩))) (fun a => ae (fun e => ⟨by rw [a, ark e]; rfl, (by first | rfl | trivial)⟩) (fun e => ziT (ad1 hs e) ⟨by rw [a, arb (ad1 hs e)]; rfl, (by first | rfl | trivial)⟩))
theorem bkg (I : Sx.Interp) (O : OO) (hO : O = oo) (Y : OY) (hY : Y = yO O) : ag I Tryz.prog 35 (au [.v, .agg [.v, .v, .v, .roS [.i64, .i64, .i64, .u64, .i64], .v], .v] false (aub O Y)) := by
 refine jb (apg I O hO Y hY) (by kernel_rfl) (fun _ => []) Tryz.func35 (by kernel_rfl) (by kernel_rfl) rfl Tryz.ntmps35 (by decide) ?_ ?_
 ·intro ds p bs F h
  unfold aub at h
  split at h
  ·simp only [zsI, zpI] at h
   obtain ⟨_, _, rfl⟩ := h
   kernel_rfl
  ·cases h
 ·intro ds bs F hl h
  unfold aub at h
  split at h
  ·rename_i ch no h0 h1 l rt side
   simp only [zsI, zpI, zaT] at h
   obtain ⟨⟨⟨hc, g0⟩, hs⟩, _, rfl⟩ := h
   obtain ⟨c, ec, rfl⟩ : ∃ c, cz ch = c ∧ ch = chA c := ⟨_, rfl, aak hc⟩
   simp only [ec]
   exact Eq.mpr (by kernel_rfl) (bij O Y c no h0 h1 rt l side (dn O hO) hY hc g0 hs)
  ·cases h
end Go.Proofs.YtgekiddgdjeaiaaGreat
