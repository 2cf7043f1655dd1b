/- Shachain: what the walks are stuck on; places and their heights (printed by genSc.py; VCs by VcTool). -/
import Derived.Test.YtebffdgghkomjaaDoorRd1
import Derived.Shelf.Spec.TrailingZeros
namespace Go.Proofs.YtebffdgghkomjaaDoor
open Go.RowKit Go.Lib Ckp Cfd Cpd Sx
set_option linter.unusedVariables false
set_option linter.unusedSimpArgs false
set_option maxRecDepth 1000000
abbrev KK : List IntKind := [.i64, .u8, .u8, .u8, .u8, .u8, .u8, .u8, .u8, .u8, .u8, .u8, .u8, .u8, .u8, .u8, .u8, .u8, .u8, .u8, .u8, .u8, .u8, .u8, .u8, .u8, .u8, .u8, .u8, .u8, .u8, .u8, .u8]
/-- What the walks of shachain are stuck on: what a secret comes to, at a height and a place; a place's height. -/
structure OW where
 cm : Int → Int → Array Value → Nat → Int
 hg : Int → Int
def hgF (p : Int) : Int := ((min (Lib.ctz 64 p.toNat) 20 : Nat) : Int)
def wO (O : OO) : OW := ⟨fun h p a => stepS O p h.toNat (fnA a) h.toNat, hgF⟩
/-- A secret's place, and it itself. -/
def plc (x : List Int) : Int := x.getD 0 0
def hK (x : List Int) (i : Nat) : Int := x.getD (i + 1) 0
def okE (O : OO) (e : List (List Int)) : Bool := Nat.ble e.length 1 && e.all fun x => O.isH (AV (hK x))
def okL (O : OO) (L : List (List (List Int))) : Bool := Nat.beq L.length 21 && L.all (okE O)
def chkE (W : OW) (h : Int) (a : Array Value) (e : List (List Int)) : Bool := e.all fun x => eqv (AV (W.cm h (plc x) a)) (AV (hK x))
def chkAll (W : OW) (L : List (List (List Int))) (h : Int) (a : Array Value) (n : Nat) : Bool := (List.range n).all fun i => chkE W h a (L.getD i [])
def secB (n : Int) : Bool := bif iLt n 0 then true else iLe 1048576 n
def stE (W : OW) (n : Int) (L : List (List (List Int))) (no : Int) (a : Array Value) : Int := bif (bif iBne no n then true else iLe 1048576 no) then 1 else bif chkAll W L (W.hg (1048575 - no)) a (W.hg (1048575 - no)).toNat then 0 else 23
def stN (W : OW) (n : Int) (L : List (List (List Int))) (no : Int) (a : Array Value) : Int := bif iBeq (stE W n L no a) 0 then n + 1 else n
def stL (W : OW) (n : Int) (L : List (List (List Int))) (no : Int) (a : Array Value) : List (List (List Int)) := bif iBeq (stE W n L no a) 0 then L.set (W.hg (1048575 - no)).toNat [(1048575 - no) :: tabI (fnA a) 32] else L
/-- Does one that is kept come to a place? -/
def covB (L : List (List (List Int))) (p : Int) (i : Nat) : Bool := (L.getD i []).any fun x => iBeq ((plc x).fdiv (2 ^ i)) (p.fdiv (2 ^ i))
def fndK (L : List (List (List Int))) (p : Int) : Nat → Nat → Nat
 | 0, i => i
 | m + 1, i => bif covB L p i then i else fndK L p m (i + 1)
def getB (n no : Int) (L : List (List (List Int))) : Bool := bif (bif iLt no 0 then true else iLe n no) then false else Nat.blt (fndK L (1048575 - no) 21 0) 21
def getF (W : OW) (n no : Int) (L : List (List (List Int))) (i : Nat) : Int := bif getB n no L then W.cm (fndK L (1048575 - no) 21 0 : Nat) (1048575 - no) (AV (hK ((L.getD (fndK L (1048575 - no) 21 0) []).getD 0 []))) i else 0
def stC (L : List (List (List Int))) (n : Nat) : Nat := ((L.take n).map List.length).sum
def bytF (L : List (List (List Int))) (n : Nat) : List Int := (L.take n).flatMap fun e => e.flatMap fun x => tabI (hK x) 32
/-- The last place of a height. -/
def lstP (n h : Int) : Int := bif iBeq h 20 then 0 else (1048575 - (n - 1)) + ((2 ^ h.toNat - (1048575 - (n - 1))).tmod (2 ^ (h.toNat + 1)) + 2 ^ (h.toNat + 1)).tmod (2 ^ (h.toNat + 1))
def lstB (n h : Int) : Bool := bif iBeq h 20 then iBeq (1048575 - (n - 1)) 0 else iLt (lstP n h) 1048576
def secF' (W : OW) (n : Int) (a : Array Value) (i : Nat) : Int := bif secB n then 0 else W.cm 20 (1048575 - n) a i
def nilL : List (List (List Int)) := List.replicate 21 []
def Tz (I : Sx.Interp) : Prop := ∀ w, I.base w → TabAt 1 Lib.deBruijn64tab w
set_option maxHeartbeats 1000000 in
theorem tz_core (x k idx : Nat) (w : World) (hx0 : ((x : Int) == 0) = false)
  (key : IntKind.u64.wrap (bits BinOp.and IntKind.u64 (x : Int) (IntKind.u64.wrap (-(x : Int))) * 285870213051353865) / 288230376151711744 = (idx : Int))
  (hi : idx < 64) (hk : k < 64) (hcell : w.cell? ⟨1, idx, none⟩ = some (.int .u8 k)) :
  Calls Tryd.prog 71 #[.int .u64 x] w fun e w' => e = .returned (.int .i64 k) ∧ w' = w := by
 go_enter Tryd.func71, Tryd.ntmps71
 go_wp2_with (simp only [key])
 go_ret
 exact ⟨rfl, rfl⟩
theorem tz_zero (w : World) : Calls Tryd.prog 71 #[.int .u64 0] w fun e w' => e = .returned (.int .i64 64) ∧ w' = w := by
 go_enter Tryd.func71, Tryd.ntmps71
 go_wp2
 go_ret
 exact ⟨rfl, rfl⟩
theorem tz_any (x : Nat) (hx : x < 18446744073709551616) (w : World) (hT : TabAt 1 Lib.deBruijn64tab w) :
  Calls Tryd.prog 71 #[.int .u64 x] w fun e w' => e = .returned (.int .i64 (Lib.ctz 64 x)) ∧ w' = w := by
 by_cases hx0 : x = 0
 ·subst hx0; exact tz_zero w
 ·obtain ⟨hlow, hk⟩ := Lib.lowest_bit 64 x hx0 hx
  obtain ⟨hi, htab⟩ := Lib.deBruijn64_at _ hk
  have hcell := hT _ hi
  rw [htab] at hcell
  exact tz_core x _ _ w (by simp; omega) (tz64_key x _ hx hx0 hlow) hi hk hcell
def g_tz64 (l : List Value) : Option (Bool × Value) := match l with
 | [.int .u64 x] => some (inU x 18446744073709551616, .int .i64 ((Lib.ctz 64 x.toNat : Nat) : Int))
 | _ => none
theorem ok_tz64 (I : Sx.Interp) (hT : Tz I) : Sx.SpecOK I Tryd.prog 71 (Sx.vspec g_tz64) := by
 refine Sx.spec_of_callsA Tryd.func71 (by kernel_rfl) (by kernel_rfl) ?_
 intro l v hg w ha
 unfold g_tz64 at hg
 split at hg
 ·rename_i x
  simp only [Option.some.injEq, Prod.mk.injEq] at hg
  obtain ⟨h0, rfl⟩ := hg
  obtain ⟨n, rfl, hn⟩ := inU_nat h0
  rw [Int.toNat_natCast]
  exact (tz_any n hn w (hT w ha.1)).mono fun e w' ⟨h1, h2⟩ => ⟨h1, by subst h2; exact Fr.refl _ _⟩
 ·cases hg
theorem flip_eq (f : Nat → Int) (q : Nat) (hq : q < 20) : Sx.setGo (tabI f 32) (q / 8) (IntKind.u8.wrap (((BitVec.ofInt 8 ((tabI f 32).getD (q / 8) 0) ^^^ BitVec.ofInt 8 (IntKind.u8.wrap (1 * 2 ^ (q % 8)))).toNat : Nat) : Int)) 32 0 = flipL f q := by
 have : q = 0 ∨ q = 1 ∨ q = 2 ∨ q = 3 ∨ q = 4 ∨ q = 5 ∨ q = 6 ∨ q = 7 ∨ q = 8 ∨ q = 9 ∨ q = 10 ∨ q = 11 ∨ q = 12 ∨ q = 13 ∨ q = 14 ∨ q = 15 ∨ q = 16 ∨ q = 17 ∨ q = 18 ∨ q = 19 := by omega
 rcases this with rfl | rfl | rfl | rfl | rfl | rfl | rfl | rfl | rfl | rfl | rfl | rfl | rfl | rfl | rfl | rfl | rfl | rfl | rfl | rfl
 all_goals (show @Eq (List Int) _ _; kernel_rfl)
theorem fn_tab (m : Nat → Int) : tabI (fnA (AV m)) 32 = tabI m 32 := by kernel_rfl
theorem AV_inj {f g : Nat → Int} (h : AV f = AV g) : tabI f 32 = tabI g 32 := by
 have h1 := congrArg intsA h
 have e : ∀ f, intsA (AV f) = tabI f 32 := fun f => by kernel_rfl
 rwa [e, e] at h1
/-- The steps look at the first cells alone. -/
theorem step_congr (O : OO) (p : Int) (h : Nat) (hh : h ≤ 20) {f g : Nat → Int} (e : AV f = AV g) : ∀ r, AV (stepS O p h f r) = AV (stepS O p h g r)
 | 0 => e
 | r + 1 => by
  have ih := step_congr O p h hh e r
  show AV (nextS O p (h - 1 - r) (stepS O p h f r)) = AV (nextS O p (h - 1 - r) (stepS O p h g r))
  unfold nextS
  cases bitP p (h - 1 - r) with
  | false => exact ih
  | true =>
   have : flipL (stepS O p h f r) (h - 1 - r) = flipL (stepS O p h g r) (h - 1 - r) := by
    have ht := AV_inj ih
    rw [← flip_eq _ _ (by omega), ← flip_eq _ _ (by omega), ht]
   show AV (O.sum (flipL (stepS O p h f r) (h - 1 - r))) = AV (O.sum (flipL (stepS O p h g r) (h - 1 - r)))
   rw [this]
theorem fn_AV (m : Nat → Int) : AV (fnA (AV m)) = AV m := by kernel_rfl
theorem cm_eq (O : OO) (p : Int) (x : Nat) (hx : x ≤ 20) (m : Nat → Int) : AV (stepS O p x m x) = AV (stepS O p x (fnA (AV m)) x) := step_congr O p x hx (fn_AV m).symm x
theorem okL_at {O : OO} {L : List (List (List Int))} (h : okL O L = true) : L.length = 21 ∧ ∀ i, okE O (L.getD i []) = true := by
 unfold okL at h
 simp only [Bool.and_eq_true, Nat.beq_eq] at h
 refine ⟨h.1, fun i => ?_⟩
 by_cases hi : i < L.length
 ·rw [List.getD_eq_getElem?_getD, List.getElem?_eq_getElem hi]
  exact List.all_eq_true.1 h.2 _ (List.getElem_mem hi)
 ·rw [List.getD_eq_getElem?_getD, List.getElem?_eq_none (by omega)]; rfl
theorem okE_cases {O : OO} {e : List (List Int)} (h : okE O e = true) : e = [] ∨ ∃ y, e = [y] ∧ O.isH (AV (hK y)) = true := by
 unfold okE at h
 simp only [Bool.and_eq_true, Nat.ble_eq] at h
 match e, h with
 | [], _ => exact .inl rfl
 | [y], h => exact .inr ⟨y, rfl, by simpa using h.2⟩
 | _ :: _ :: _, h => simp at h
theorem hg_le {O : OO} {W : OW} (hw : W = wO O) (p : Int) : 0 ≤ W.hg p ∧ W.hg p ≤ 20 := by
 subst hw
 show 0 ≤ hgF p ∧ hgF p ≤ 20
 unfold hgF; omega
theorem stC_succ {O : OO} {L : List (List (List Int))} (hL : L.length = 21) (hE : ∀ i, okE O (L.getD i []) = true) {x : Nat} (hx : x < 21) : stC L (x + 1) = stC L x + (L.getD x []).length := by
 unfold stC
 rw [List.take_add_one, List.getElem?_eq_getElem (by omega), List.map_append, List.sum_append, List.getD_eq_getElem?_getD, List.getElem?_eq_getElem (by omega)]
 simp
theorem stC_le {O : OO} {L : List (List (List Int))} (hL : L.length = 21) (hE : ∀ i, okE O (L.getD i []) = true) : ∀ x, x ≤ 21 → stC L x ≤ x
 | 0, _ => Nat.le_refl _
 | x + 1, hx => by
  have ih := stC_le hL hE x (by omega)
  rw [stC_succ hL hE (by omega)]
  have : (L.getD x []).length ≤ 1 := by
   rcases okE_cases (hE x) with e | ⟨y, e, _⟩ <;> rw [e] <;> simp
  omega
theorem bytF_succ {L : List (List (List Int))} (hL : L.length = 21) {x : Nat} (hx : x < 21) : bytF L (x + 1) = bytF L x ++ (L.getD x []).flatMap fun y => tabI (hK y) 32 := by
 unfold bytF
 rw [List.take_add_one, List.getElem?_eq_getElem (by omega), List.flatMap_append, List.getD_eq_getElem?_getD, List.getElem?_eq_getElem (by omega)]
 simp
theorem tab32 (f : Nat → Int) : (tabI f 32).length = 32 := by kernel_rfl
theorem bytF_len {O : OO} {L : List (List (List Int))} (hL : L.length = 21) (hE : ∀ i, okE O (L.getD i []) = true) : ∀ x, x ≤ 21 → (bytF L x).length ≤ 32 * x
 | 0, _ => Nat.le_refl _
 | x + 1, hx => by
  have ih := bytF_len hL hE x (by omega)
  rw [bytF_succ hL (by omega), List.length_append]
  have : ((L.getD x []).flatMap fun y => tabI (hK y) 32).length ≤ 32 := by
   rcases okE_cases (hE x) with e | ⟨y, e, _⟩ <;> rw [e]
   ·exact Nat.zero_le _
   ·rw [List.flatMap_cons, List.flatMap_nil, List.append_nil, tab32]; omega
  omega
def spW0 (O : OO) (R : OB) (W : OW) (f : FuncId) : Option Sx.Spec := match f with
 | 71 => some (Sx.vspec g_tz64)
 | 25 => some (gspec [.ro .u8] (g_sumO O))
 | f => spQ6 O R f
theorem spW0_ok (I : Sx.Interp) (hT : Tz I) (O : OO) (hO : O = oo) (R : OB) (hR : R = bO) (W : OW) (hW : W = wO O) : ∀ f s, spW0 O R W f = some s → Sx.SpecOK I Tryd.prog f s := by
 intro f s h
 unfold spW0 at h
 split at h
 · cases h; exact ok_tz64 I hT
 · cases h; exact ok_hSum I O hO
 ·exact spQ6_ok I O hO R hR _ s h
def g_tz (O : OO) (R : OB) (W : OW) (ds : List Dt) : Option (Bool × List Bool × (List Bool → Post)) := match ds with
 | [.v (.int .u64 x)] => some ((inU x 18446744073709551616), [], fun _ => ⟨[.v (.int .i64 ((Lib.ctz 64 x.toNat : Nat) : Int))], []⟩)
 | _ => none
set_option maxHeartbeats 4000000 in
theorem vc_tz (O : OO) (R : OB) (W : OW) (x : Int) (F : FO O) (hr : R = bO) (hw : W = wO O) (h0 : (inU x 18446744073709551616) = true) :
 If (inU x 18446744073709551616) (Value.int .i64 (iOf (ctz 64 x.toNat)) = Value.int .i64 (iOf (ctz 64 x.toNat)) ∧ True ∧ True) False := by
 exact Sx.if_true h0 ⟨rfl, trivial, trivial⟩
theorem wpc_tz (O : OO) (R : OB) (W : OW) (x : Int) (F : FO O) (hr : R = bO) (hw : W = wO O) (h0 : (inU x 18446744073709551616) = true) : wpcI Tryd.prog (spW0 O R W) Tryd.f55.ntmps [] (bodyOf Tryd.f55) 0 64 (envP (mks [.v] [.v (.int .u64 x)] 0).1 0) (mks [.v] [.v (.int .u64 x)] 0).2 (retP Tryd.prog Tryd.f55.results.toList 0 (⟨[.v (.int .i64 ((Lib.ctz 64 x.toNat : Nat) : Int))], []⟩ : Post)) :=
 Eq.mpr (by kernel_rfl) (vc_tz O R W x F hr hw h0)
theorem ok_tz (I : Sx.Interp) (hT : Tz I) (O : OO) (hO : O = oo) (R : OB) (hR : R = bO) (W : OW) (hW : W = wO O) : Sx.SpecOK I Tryd.prog 55 (pspec [.v] false (g_tz O R W)) := by
 refine spec_pI (spW0_ok I hT O hO R hR W hW) (by kernel_rfl) (fun ds => match ds with | [.v (.int .u64 x)] => [] | _ => []) Tryd.func55 (by kernel_rfl) (by kernel_rfl) rfl Tryd.ntmps55 (by decide) ?_ ?_
 ·intro ds p bs F h
  unfold g_tz at h
  split at h
  ·rename_i x
   simp only [Option.some.injEq, Prod.mk.injEq] at h
   obtain ⟨_, _, rfl⟩ := h
   kernel_rfl
  ·cases h
 ·intro ds bs F hl h
  unfold g_tz at h
  split at h
  ·rename_i x
   simp only [Option.some.injEq, Prod.mk.injEq, Bool.and_eq_true] at h
   obtain ⟨h0, _, rfl⟩ := h
   exact wpc_tz O R W x (fo_oo O hO) hR hW (by first | exact h0 | (simp only [Bool.and_eq_true]; exact h0))
  ·cases h
def spW1 (O : OO) (R : OB) (W : OW) (f : FuncId) : Option Sx.Spec := match f with
 | 55 => some (pspec [.v] false (g_tz O R W))
 | f => spW0 O R W f
theorem spW1_ok (I : Sx.Interp) (hT : Tz I) (O : OO) (hO : O = oo) (R : OB) (hR : R = bO) (W : OW) (hW : W = wO O) : ∀ f s, spW1 O R W f = some s → Sx.SpecOK I Tryd.prog f s := by
 intro f s h
 unfold spW1 at h
 split at h
 · cases h; exact ok_tz I hT O hO R hR W hW
 ·exact spW0_ok I hT O hO R hR W hW _ s h
def g_hgt (O : OO) (R : OB) (W : OW) (ds : List Dt) : Option (Bool × List Bool × (List Bool → Post)) := match ds with
 | [.v (.int .i64 p)] => some ((iLe 0 p && iLe p 1048576), [], fun _ => ⟨[.v (.int .i64 (W.hg p))], []⟩)
 | _ => none
set_option maxHeartbeats 4000000 in
theorem vc_hgt (O : OO) (R : OB) (W : OW) (p : Int) (F : FO O) (hr : R = bO) (hw : W = wO O) (h0 : (iLe 0 p && iLe p 1048576) = true) :
 If (inU (IntKind.u64.wrap p) 18446744073709551616) (Value.int .i64 (if 20 < iOf (ctz 64 (IntKind.u64.wrap p).toNat) then 20 else iOf (ctz 64 (IntKind.u64.wrap p).toNat)) = Value.int
  .i64 (W.hg p) ∧ True ∧ True) False := by
 subst hw
 simp only [Bool.and_eq_true, Bool.or_eq_true, Sx.iLt_t, Sx.iLt_f, Sx.iLe_t, Sx.iLe_f, Sx.iEq_t, Sx.iEq_f, Sx.iBeq_t, Sx.iBeq_f, Sx.iBne_t, Sx.iBne_f, Nat.ble_eq, Nat.beq_eq, Sx.Cont.n] at h0
 have w : IntKind.u64.wrap p = p := by rw [IntKind.wrap_u64]; omega
 rw [w]
 have hu : inU p 18446744073709551616 = true := by rw [inU_t]; omega
 have e : (wO O).hg p = ((min (Lib.ctz 64 p.toNat) 20 : Nat) : Int) := rfl
 rw [e]
 obtain ⟨c, hc⟩ : ∃ c, Lib.ctz 64 p.toNat = c := ⟨_, rfl⟩
 rw [hc]
 refine Sx.if_true hu ⟨congrArg (Value.int IntKind.i64) ?_, trivial, trivial⟩
 show (if (20 : Int) < (c : Int) then (20 : Int) else (c : Int)) = ((min c 20 : Nat) : Int)
 by_cases h : (20 : Int) < (c : Int)
 ·rw [if_pos h]; omega
 ·rw [if_neg h]; omega
theorem wpc_hgt (O : OO) (R : OB) (W : OW) (p : Int) (F : FO O) (hr : R = bO) (hw : W = wO O) (h0 : (iLe 0 p && iLe p 1048576) = true) : wpcI Tryd.prog (spW1 O R W) Tryd.f31.ntmps [] (bodyOf Tryd.f31) 0 64 (envP (mks [.v] [.v (.int .i64 p)] 0).1 0) (mks [.v] [.v (.int .i64 p)] 0).2 (retP Tryd.prog Tryd.f31.results.toList 0 (⟨[.v (.int .i64 (W.hg p))], []⟩ : Post)) :=
 Eq.mpr (by kernel_rfl) (vc_hgt O R W p F hr hw h0)
theorem ok_hgt (I : Sx.Interp) (hT : Tz I) (O : OO) (hO : O = oo) (R : OB) (hR : R = bO) (W : OW) (hW : W = wO O) : Sx.SpecOK I Tryd.prog 31 (pspec [.v] false (g_hgt O R W)) := by
 refine spec_pI (spW1_ok I hT O hO R hR W hW) (by kernel_rfl) (fun ds => match ds with | [.v (.int .i64 p)] => [] | _ => []) Tryd.func31 (by kernel_rfl) (by kernel_rfl) rfl Tryd.ntmps31 (by decide) ?_ ?_
 ·intro ds p bs F h
  unfold g_hgt at h
  split at h
  ·rename_i p
   simp only [Option.some.injEq, Prod.mk.injEq] at h
   obtain ⟨_, _, rfl⟩ := h
   kernel_rfl
  ·cases h
 ·intro ds bs F hl h
  unfold g_hgt at h
  split at h
  ·rename_i p
   simp only [Option.some.injEq, Prod.mk.injEq, Bool.and_eq_true] at h
   obtain ⟨h0, _, rfl⟩ := h
   exact wpc_hgt O R W p (fo_oo O hO) hR hW (by first | exact h0 | (simp only [Bool.and_eq_true]; exact h0))
  ·cases h
def g_pld (O : OO) (R : OB) (W : OW) (ds : List Dt) : Option (Bool × List Bool × (List Bool → Post)) := match ds with
 | [.v (.int .i64 n)] => some ((iLe (-1048576) n && iLe n 1048576), [], fun _ => ⟨[.v (.int .i64 (1048575 - n))], []⟩)
 | _ => none
set_option maxHeartbeats 4000000 in
theorem vc_pld (O : OO) (R : OB) (W : OW) (n : Int) (F : FO O) (hr : R = bO) (hw : W = wO O) (h0 : (iLe (-1048576) n && iLe n 1048576) = true) :
 Value.int .i64 (IntKind.i64.wrap (iSub 1048575 n)) = Value.int .i64 (iSub 1048575 n) ∧ True ∧ True := by
 simp only [Bool.and_eq_true, Bool.or_eq_true, Sx.iLt_t, Sx.iLt_f, Sx.iLe_t, Sx.iLe_f, Sx.iEq_t, Sx.iEq_f, Sx.iBeq_t, Sx.iBeq_f, Sx.iBne_t, Sx.iBne_f, Nat.ble_eq, Nat.beq_eq, Sx.Cont.n] at h0
 refine ⟨?_, trivial, trivial⟩
 simp only [Sx.app, Sx.nAdd, Sx.nSub, Sx.nMul, Sx.nPow, Sx.nDiv, Sx.nMod, Sx.iAdd, Sx.iSub, Sx.iMul, Sx.iNeg, Sx.iPow, Sx.iOf]
 rw [IntKind.wrap_i64, show (1048575 - n + 9223372036854775808) % 18446744073709551616 - 9223372036854775808 = 1048575 - n by omega]
theorem wpc_pld (O : OO) (R : OB) (W : OW) (n : Int) (F : FO O) (hr : R = bO) (hw : W = wO O) (h0 : (iLe (-1048576) n && iLe n 1048576) = true) : wpcI Tryd.prog (spW1 O R W) Tryd.f28.ntmps [] (bodyOf Tryd.f28) 0 64 (envP (mks [.v] [.v (.int .i64 n)] 0).1 0) (mks [.v] [.v (.int .i64 n)] 0).2 (retP Tryd.prog Tryd.f28.results.toList 0 (⟨[.v (.int .i64 (1048575 - n))], []⟩ : Post)) :=
 Eq.mpr (by kernel_rfl) (vc_pld O R W n F hr hw h0)
theorem ok_pld (I : Sx.Interp) (hT : Tz I) (O : OO) (hO : O = oo) (R : OB) (hR : R = bO) (W : OW) (hW : W = wO O) : Sx.SpecOK I Tryd.prog 28 (pspec [.v] false (g_pld O R W)) := by
 refine spec_pI (spW1_ok I hT O hO R hR W hW) (by kernel_rfl) (fun ds => match ds with | [.v (.int .i64 n)] => [] | _ => []) Tryd.func28 (by kernel_rfl) (by kernel_rfl) rfl Tryd.ntmps28 (by decide) ?_ ?_
 ·intro ds p bs F h
  unfold g_pld at h
  split at h
  ·rename_i n
   simp only [Option.some.injEq, Prod.mk.injEq] at h
   obtain ⟨_, _, rfl⟩ := h
   kernel_rfl
  ·cases h
 ·intro ds bs F hl h
  unfold g_pld at h
  split at h
  ·rename_i n
   simp only [Option.some.injEq, Prod.mk.injEq, Bool.and_eq_true] at h
   obtain ⟨h0, _, rfl⟩ := h
   exact wpc_pld O R W n (fo_oo O hO) hR hW (by first | exact h0 | (simp only [Bool.and_eq_true]; exact h0))
  ·cases h
def g_cme (O : OO) (R : OB) (W : OW) (ds : List Dt) : Option (Bool × List Bool × (List Bool → Post)) := match ds with
 | [.v (.agg a), .v (.int .i64 h), .v (.int .i64 p)] => some ((iLe 0 h && iLe h 20) && (O.isH a), [], fun _ => ⟨[.v (.agg (AV (W.cm h p a)))], []⟩)
 | _ => none
set_option maxHeartbeats 4000000 in
theorem vc_cme (O : OO) (R : OB) (W : OW) (m : Nat → Int) (h p : Int) (F : FO O) (hr : R = bO) (hw : W = wO O) (h0 : (iLe 0 h && iLe h 20) = true) (h1 : (O.isH (AV m)) = true) :
 (∃ (x : Nat), x ≤ h.toNat ∧ (Value.int .i64 0 = Value.int .i64 (iOf x) ∧ Value.int .i64 h = Value.int .i64 h ∧ Value.int .i64 p = Value.int .i64 p ∧ Value.int .i64 h = Value.int
  .i64 h ∧ True) ∧ AV m = AV (stepS O p h.toNat (fnA (AV m)) x) ∧ Array.mk (List.replicate 32 (Value.int .u8 0)) = Array.mk (List.replicate 32 (Value.int .u8 0)) ∧ True) ∧ ∀ (x :
  Nat), x ≤ h.toNat → If (iLt (iOf x) h) (If (iLt (IntKind.i64.wrap (iSub (IntKind.i64.wrap (iSub h 1)) (iOf x))) 0) False (If (iBeq (IntKind.i64.wrap (iOf (BitVec.ofInt 64 (p.fdiv
  (iPow 2 (min (IntKind.i64.wrap (iSub (IntKind.i64.wrap (iSub h 1)) (iOf x))).toNat 64))) &&& BitVec.ofInt 64 1).toNat)) 1) (If (iLe 0 (IntKind.i64.wrap ((IntKind.i64.wrap (iSub
  (IntKind.i64.wrap (iSub h 1)) (iOf x))).tdiv 8)) && (IntKind.i64.wrap ((IntKind.i64.wrap (iSub (IntKind.i64.wrap (iSub h 1)) (iOf x))).tdiv 8)).toNat.blt 32) (If ((nAdd 0 (nMul
  (IntKind.i64.wrap ((IntKind.i64.wrap (iSub (IntKind.i64.wrap (iSub h 1)) (iOf x))).tdiv 8)).toNat 1)).blt 32) (If (iLt ((IntKind.i64.wrap (iSub (IntKind.i64.wrap (iSub h 1)) (iOf
  x))).tmod 8) 0) False (If (iLe 0 (IntKind.i64.wrap ((IntKind.i64.wrap (iSub (IntKind.i64.wrap (iSub h 1)) (iOf x))).tdiv 8)) && (IntKind.i64.wrap ((IntKind.i64.wrap (iSub
  (IntKind.i64.wrap (iSub h 1)) (iOf x))).tdiv 8)).toNat.blt 32) (If (Nat.beq 1 1 && true && (nAdd 0 (nMul (IntKind.i64.wrap ((IntKind.i64.wrap (iSub (IntKind.i64.wrap (iSub h 1))
  (iOf x))).tdiv 8)).toNat 1)).blt 32) (∃ (x' : Nat), x' ≤ h.toNat ∧ (nSub h.toNat x').succ ≤ nSub h.toNat x ∧ (Value.int .i64 (IntKind.i64.wrap (iAdd (iOf x) 1)) = Value.int .i64
  (iOf x') ∧ Value.int .i64 h = Value.int .i64 h ∧ Value.int .i64 p = Value.int .i64 p ∧ Value.int .i64 h = Value.int .i64 h ∧ True) ∧ AV (O.sum (Sx.setGo (tabI (stepS O p h.toNat
  (fnA (AV m)) x) 32) (nAdd 0 (nMul (IntKind.i64.wrap ((IntKind.i64.wrap (iSub (IntKind.i64.wrap (iSub h 1)) (iOf x))).tdiv 8)).toNat 1)) (IntKind.u8.wrap (iOf (BitVec.ofInt 8 ((tabI
  (stepS O p h.toNat (fnA (AV m)) x) 32).getD (nAdd 0 (nMul (IntKind.i64.wrap ((IntKind.i64.wrap (iSub (IntKind.i64.wrap (iSub h 1)) (iOf x))).tdiv 8)).toNat 1)) 0) ^^^ BitVec.ofInt 8
  (IntKind.u8.wrap (iMul 1 (iPow 2 (min ((IntKind.i64.wrap (iSub (IntKind.i64.wrap (iSub h 1)) (iOf x))).tmod 8).toNat 8))))).toNat)) 32 0)) = AV (stepS O p h.toNat (fnA (AV m)) x') ∧
  Array.mk (List.replicate 32 (Value.int .u8 0)) = Array.mk (List.replicate 32 (Value.int .u8 0)) ∧ True) False) False)) False) False) (∃ (x' : Nat), x' ≤ h.toNat ∧ (nSub h.toNat
  x').succ ≤ nSub h.toNat x ∧ (Value.int .i64 (IntKind.i64.wrap (iAdd (iOf x) 1)) = Value.int .i64 (iOf x') ∧ Value.int .i64 h = Value.int .i64 h ∧ Value.int .i64 p = Value.int .i64 p
  ∧ Value.int .i64 h = Value.int .i64 h ∧ True) ∧ AV (stepS O p h.toNat (fnA (AV m)) x) = AV (stepS O p h.toNat (fnA (AV m)) x') ∧ Array.mk (List.replicate 32 (Value.int .u8 0)) =
  Array.mk (List.replicate 32 (Value.int .u8 0)) ∧ True))) (Value.agg (AV (stepS O p h.toNat (fnA (AV m)) x)) = Value.agg (AV (W.cm h p (AV m))) ∧ True ∧ True) := by
 subst hw
 simp only [Bool.and_eq_true, Bool.or_eq_true, Sx.iLt_t, Sx.iLt_f, Sx.iLe_t, Sx.iLe_f, Sx.iEq_t, Sx.iEq_f, Sx.iBeq_t, Sx.iBeq_f, Sx.iBne_t, Sx.iBne_f, Nat.ble_eq, Nat.beq_eq, Sx.Cont.n] at h0
 obtain ⟨k, rfl⟩ : ∃ k : Nat, h = (k : Int) := ⟨h.toNat, by omega⟩
 have hk : k ≤ 20 := by omega
 simp only [Int.toNat_natCast]
 refine ⟨⟨0, Nat.zero_le _, ⟨rfl, (by first | rfl | trivial), (by first | rfl | trivial), (by first | rfl | trivial), trivial⟩, (fn_AV m).symm, (by first | rfl | trivial), trivial⟩, fun x hx => ?_⟩
 have w1 : IntKind.i64.wrap (iAdd (iOf x) 1) = ((x + 1 : Nat) : Int) := by simp only [Sx.app, Sx.nAdd, Sx.nSub, Sx.nMul, Sx.nPow, Sx.nDiv, Sx.nMod, Sx.iAdd, Sx.iSub, Sx.iMul, Sx.iNeg, Sx.iPow, Sx.iOf]; rw [IntKind.wrap_i64]; omega
 refine Sx.if_both (fun hlt => ?_) (fun hlt => ?_)
 ·simp only [Sx.app, Sx.nAdd, Sx.nSub, Sx.nMul, Sx.nPow, Sx.nDiv, Sx.nMod, Sx.iAdd, Sx.iSub, Sx.iMul, Sx.iNeg, Sx.iPow, Sx.iOf, Bool.and_eq_true, Bool.or_eq_true, Sx.iLt_t, Sx.iLt_f, Sx.iLe_t, Sx.iLe_f, Sx.iEq_t, Sx.iEq_f, Sx.iBeq_t, Sx.iBeq_f, Sx.iBne_t, Sx.iBne_f, Nat.ble_eq, Nat.beq_eq, Sx.Cont.n] at hlt
  obtain ⟨q, hq⟩ : ∃ q : Nat, q = k - 1 - x := ⟨_, rfl⟩
  have wq : IntKind.i64.wrap (iSub (IntKind.i64.wrap (iSub (k : Int) 1)) (iOf x)) = (q : Int) := by
   simp only [Sx.app, Sx.nAdd, Sx.nSub, Sx.nMul, Sx.nPow, Sx.nDiv, Sx.nMod, Sx.iAdd, Sx.iSub, Sx.iMul, Sx.iNeg, Sx.iPow, Sx.iOf]
   rw [show IntKind.i64.wrap ((k : Int) - 1) = (k : Int) - 1 by rw [IntKind.wrap_i64]; omega, IntKind.wrap_i64]; omega
  have hq20 : q < 20 := by omega
  have step : stepS O p k (fnA (AV m)) (x + 1) = bif bitP p q then O.sum (flipL (stepS O p k (fnA (AV m)) x) q) else stepS O p k (fnA (AV m)) x := by rw [hq]; rfl
  have wd : IntKind.i64.wrap ((q : Int).tdiv 8) = ((q / 8 : Nat) : Int) := by
   rw [Int.tdiv_eq_ediv_of_nonneg (by omega), IntKind.wrap_i64]; omega
  have wm : (q : Int).tmod 8 = ((q % 8 : Nat) : Int) := by rw [Int.tmod_eq_emod_of_nonneg (by omega)]; omega
  have hbit : iBeq (IntKind.i64.wrap (iOf (BitVec.ofInt 64 (p.fdiv (iPow 2 (min q 64))) &&& BitVec.ofInt 64 1).toNat)) 1 = bitP p q := by
   rw [Nat.min_eq_left (by omega)]; rfl
  simp only [wq, wd, wm, Int.toNat_natCast, hbit]
  refine Sx.if_false (by simp only [Bool.and_eq_true, Bool.or_eq_true, Sx.iLt_t, Sx.iLt_f, Sx.iLe_t, Sx.iLe_f, Sx.iEq_t, Sx.iEq_f, Sx.iBeq_t, Sx.iBeq_f, Sx.iBne_t, Sx.iBne_f, Nat.ble_eq, Nat.beq_eq, Sx.Cont.n]; omega) (Sx.if_both (fun hb => ?_) (fun hb => ?_))
  ·rw [hb] at step
   have hb1 : (iLe 0 ((q / 8 : Nat) : Int) && (q / 8).blt 32) = true := by simp only [Bool.and_eq_true, Bool.or_eq_true, Sx.iLt_t, Sx.iLt_f, Sx.iLe_t, Sx.iLe_f, Sx.iEq_t, Sx.iEq_f, Sx.iBeq_t, Sx.iBeq_f, Sx.iBne_t, Sx.iBne_f, Nat.ble_eq, Nat.beq_eq, Sx.Cont.n, Nat.blt_eq]; omega
   have hb2 : (nAdd 0 (nMul (q / 8) 1)).blt 32 = true := by simp only [Sx.app, Sx.nAdd, Sx.nSub, Sx.nMul, Sx.nPow, Sx.nDiv, Sx.nMod, Sx.iAdd, Sx.iSub, Sx.iMul, Sx.iNeg, Sx.iPow, Sx.iOf, Nat.blt_eq]; omega
   refine Sx.if_true hb1 (Sx.if_true hb2 (Sx.if_false (by simp only [Bool.and_eq_true, Bool.or_eq_true, Sx.iLt_t, Sx.iLt_f, Sx.iLe_t, Sx.iLe_f, Sx.iEq_t, Sx.iEq_f, Sx.iBeq_t, Sx.iBeq_f, Sx.iBne_t, Sx.iBne_f, Nat.ble_eq, Nat.beq_eq, Sx.Cont.n]; omega) (Sx.if_true hb1 (Sx.if_true (by rw [hb2]; rfl) ⟨x + 1, by omega, by simp only [Sx.app, Sx.nAdd, Sx.nSub, Sx.nMul, Sx.nPow, Sx.nDiv, Sx.nMod, Sx.iAdd, Sx.iSub, Sx.iMul, Sx.iNeg, Sx.iPow, Sx.iOf]; omega, ⟨by rw [w1]; rfl, (by first | rfl | trivial), (by first | rfl | trivial), (by first | rfl | trivial), trivial⟩, ?_, (by first | rfl | trivial), trivial⟩))))
   rw [step]
   have e := flip_eq (stepS O p k (fnA (AV m)) x) q hq20
   simp only [Sx.app, Sx.nAdd, Sx.nSub, Sx.nMul, Sx.nPow, Sx.nDiv, Sx.nMod, Sx.iAdd, Sx.iSub, Sx.iMul, Sx.iNeg, Sx.iPow, Sx.iOf, Nat.zero_add, Nat.mul_one, Int.one_mul, Nat.min_eq_left (show q % 8 ≤ 8 by omega)] at e ⊢
   rw [e]; rfl
  ·rw [hb] at step
   refine ⟨x + 1, by omega, by simp only [Sx.app, Sx.nAdd, Sx.nSub, Sx.nMul, Sx.nPow, Sx.nDiv, Sx.nMod, Sx.iAdd, Sx.iSub, Sx.iMul, Sx.iNeg, Sx.iPow, Sx.iOf]; omega, ⟨by rw [w1]; rfl, (by first | rfl | trivial), (by first | rfl | trivial), (by first | rfl | trivial), trivial⟩, ?_, (by first | rfl | trivial), trivial⟩
   rw [step]; rfl
 ·simp only [Sx.app, Sx.nAdd, Sx.nSub, Sx.nMul, Sx.nPow, Sx.nDiv, Sx.nMod, Sx.iAdd, Sx.iSub, Sx.iMul, Sx.iNeg, Sx.iPow, Sx.iOf, Bool.and_eq_true, Bool.or_eq_true, Sx.iLt_t, Sx.iLt_f, Sx.iLe_t, Sx.iLe_f, Sx.iEq_t, Sx.iEq_f, Sx.iBeq_t, Sx.iBeq_f, Sx.iBne_t, Sx.iBne_f, Nat.ble_eq, Nat.beq_eq, Sx.Cont.n] at hlt
  have : x = k := by omega
  subst this
  exact ⟨rfl, trivial, trivial⟩
theorem wpc_cme (O : OO) (R : OB) (W : OW) (m : Nat → Int) (h p : Int) (F : FO O) (hr : R = bO) (hw : W = wO O) (h0 : (iLe 0 h && iLe h 20) = true) (h1 : (O.isH (AV m)) = true) : wpcI Tryd.prog (spW1 O R W) Tryd.f27.ntmps [⟨Nat, [1, 2, 6, 8], [(3, 23, .ints .u8 [])], fun B j => [(3, .ptr B 0), (9, .v (.int .i64 (j : Int)))], fun B j => [(B, .arr 23 32 (AV (stepS O p h.toNat (fnA (AV m)) j)))], fun j => j ≤ h.toNat, fun j => h.toNat - j, 0⟩] (bodyOf Tryd.f27) 0 64 (envP (mks [.v, .v, .v] [.v (.agg (AV m)), .v (.int .i64 h), .v (.int .i64 p)] 0).1 0) (mks [.v, .v, .v] [.v (.agg (AV m)), .v (.int .i64 h), .v (.int .i64 p)] 0).2 (retP Tryd.prog Tryd.f27.results.toList 0 (⟨[.v (.agg (AV (W.cm h p (AV m))))], []⟩ : Post)) :=
 Eq.mpr (by kernel_rfl) (vc_cme O R W m h p F hr hw h0 h1)
theorem ok_cme (I : Sx.Interp) (hT : Tz I) (O : OO) (hO : O = oo) (R : OB) (hR : R = bO) (W : OW) (hW : W = wO O) : Sx.SpecOK I Tryd.prog 27 (pspec [.v, .v, .v] false (g_cme O R W)) := by
 refine spec_pI (spW1_ok I hT O hO R hR W hW) (by kernel_rfl) (fun ds => match ds with | [.v (.agg a), .v (.int .i64 h), .v (.int .i64 p)] => [⟨Nat, [1, 2, 6, 8], [(3, 23, .ints .u8 [])], fun B j => [(3, .ptr B 0), (9, .v (.int .i64 (j : Int)))], fun B j => [(B, .arr 23 32 (AV (stepS O p h.toNat (fnA a) j)))], fun j => j ≤ h.toNat, fun j => h.toNat - j, 0⟩] | _ => []) Tryd.func27 (by kernel_rfl) (by kernel_rfl) rfl Tryd.ntmps27 (by decide) ?_ ?_
 ·intro ds p bs F h
  unfold g_cme at h
  split at h
  ·rename_i a h p
   simp only [Option.some.injEq, Prod.mk.injEq] at h
   obtain ⟨_, _, rfl⟩ := h
   kernel_rfl
  ·cases h
 ·intro ds bs F hl h
  unfold g_cme at h
  split at h
  ·rename_i a h p
   simp only [Option.some.injEq, Prod.mk.injEq, Bool.and_eq_true] at h
   obtain ⟨⟨h0, h1⟩, _, rfl⟩ := h
   obtain ⟨m, rfl⟩ := isH_AV (by subst hO; exact h1 : isHa a = true)
   exact wpc_cme O R W m h p (fo_oo O hO) hR hW (by first | exact h0 | (simp only [Bool.and_eq_true]; exact h0)) (by first | exact h1 | (simp only [Bool.and_eq_true]; exact h1))
  ·cases h
def spW2 (O : OO) (R : OB) (W : OW) (f : FuncId) : Option Sx.Spec := match f with
 | 31 => some (pspec [.v] false (g_hgt O R W))
 | 28 => some (pspec [.v] false (g_pld O R W))
 | 27 => some (pspec [.v, .v, .v] false (g_cme O R W))
 | f => spW1 O R W f
theorem spW2_ok (I : Sx.Interp) (hT : Tz I) (O : OO) (hO : O = oo) (R : OB) (hR : R = bO) (W : OW) (hW : W = wO O) : ∀ f s, spW2 O R W f = some s → Sx.SpecOK I Tryd.prog f s := by
 intro f s h
 unfold spW2 at h
 split at h
 · cases h; exact ok_hgt I hT O hO R hR W hW
 · cases h; exact ok_pld I hT O hO R hR W hW
 · cases h; exact ok_cme I hT O hO R hR W hW
 ·exact spW1_ok I hT O hO R hR W hW _ s h
def g_scr (O : OO) (R : OB) (W : OW) (ds : List Dt) : Option (Bool × List Bool × (List Bool → Post)) := match ds with
 | [.v (.agg a), .v (.int .i64 n)] => some ((iLe (-9223372036854775808) n) && (O.isH a), [], fun _ => ⟨[.v (.agg (AV (secF' W n a))), .v (.bool (!(secB n)))], []⟩)
 | _ => none
set_option maxHeartbeats 4000000 in
theorem vc_scr (O : OO) (R : OB) (W : OW) (m : Nat → Int) (n : Int) (F : FO O) (hr : R = bO) (hw : W = wO O) (h0 : (iLe (-9223372036854775808) n) = true) (h1 : (O.isH (AV m)) = true) :
 If (iLt n 0) ((Value.agg (Array.mk (List.replicate 32 (Value.int .u8 0))) = Value.agg (AV (secF' W n (AV m))) ∧ Value.bool false = Value.bool !secB n) ∧ True ∧ True) (If (iLe
  1048576 n) ((Value.agg (Array.mk (List.replicate 32 (Value.int .u8 0))) = Value.agg (AV (secF' W n (AV m))) ∧ Value.bool false = Value.bool !secB n) ∧ True ∧ True) (If (iLe (iNeg
  1048576) n && iLe n 1048576) (If (iLe 0 20 && iLe 20 20 && O.isH (AV m)) ((Value.agg (AV (W.cm 20 (iSub 1048575 n) (AV m))) = Value.agg (AV (secF' W n (AV m))) ∧ Value.bool true =
  Value.bool !secB n) ∧ True ∧ True) False) False)) := by
 simp only [Bool.and_eq_true, Bool.or_eq_true, Sx.iLt_t, Sx.iLt_f, Sx.iLe_t, Sx.iLe_f, Sx.iEq_t, Sx.iEq_f, Sx.iBeq_t, Sx.iBeq_f, Sx.iBne_t, Sx.iBne_f, Nat.ble_eq, Nat.beq_eq, Sx.Cont.n] at h0
 have no : secB n = true → (Array.mk (List.replicate 32 (Value.int IntKind.u8 0)) : Array Value) = AV (secF' W n (AV m)) := fun h => by
  have e : secF' W n (AV m) = fun _ => 0 := by funext i; unfold secF'; rw [h]; rfl
  rw [e]; rfl
 refine Sx.if_both (fun h => ?_) (fun h => Sx.if_both (fun h2 => ?_) (fun h2 => ?_))
 ·have hs : secB n = true := by unfold secB; rw [h]; rfl
  rw [hs, no hs]; exact ⟨⟨rfl, rfl⟩, trivial, trivial⟩
 ·have hs : secB n = true := by unfold secB; rw [h, h2]; rfl
  rw [hs, no hs]; exact ⟨⟨rfl, rfl⟩, trivial, trivial⟩
 ·have hs : secB n = false := by unfold secB; rw [h, h2]; rfl
  have e : secF' W n (AV m) = W.cm 20 (1048575 - n) (AV m) := by funext i; unfold secF'; rw [hs]; rfl
  simp only [Bool.and_eq_true, Bool.or_eq_true, Sx.iLt_t, Sx.iLt_f, Sx.iLe_t, Sx.iLe_f, Sx.iEq_t, Sx.iEq_f, Sx.iBeq_t, Sx.iBeq_f, Sx.iBne_t, Sx.iBne_f, Nat.ble_eq, Nat.beq_eq, Sx.Cont.n] at h h2
  rw [hs, e]
  exact Sx.if_true (by simp only [Sx.app, Sx.nAdd, Sx.nSub, Sx.nMul, Sx.nPow, Sx.nDiv, Sx.nMod, Sx.iAdd, Sx.iSub, Sx.iMul, Sx.iNeg, Sx.iPow, Sx.iOf, Bool.and_eq_true, Bool.or_eq_true, Sx.iLt_t, Sx.iLt_f, Sx.iLe_t, Sx.iLe_f, Sx.iEq_t, Sx.iEq_f, Sx.iBeq_t, Sx.iBeq_f, Sx.iBne_t, Sx.iBne_f, Nat.ble_eq, Nat.beq_eq, Sx.Cont.n]; omega) (Sx.if_true (by rw [h1]; rfl) ⟨⟨rfl, rfl⟩, trivial, trivial⟩)
theorem wpc_scr (O : OO) (R : OB) (W : OW) (m : Nat → Int) (n : Int) (F : FO O) (hr : R = bO) (hw : W = wO O) (h0 : (iLe (-9223372036854775808) n) = true) (h1 : (O.isH (AV m)) = true) : wpcI Tryd.prog (spW2 O R W) Tryd.f9.ntmps [] (bodyOf Tryd.f9) 0 64 (envP (mks [.v, .v] [.v (.agg (AV m)), .v (.int .i64 n)] 0).1 0) (mks [.v, .v] [.v (.agg (AV m)), .v (.int .i64 n)] 0).2 (retP Tryd.prog Tryd.f9.results.toList 0 (⟨[.v (.agg (AV (secF' W n (AV m)))), .v (.bool (!(secB n)))], []⟩ : Post)) :=
 Eq.mpr (by kernel_rfl) (vc_scr O R W m n F hr hw h0 h1)
theorem ok_scr (I : Sx.Interp) (hT : Tz I) (O : OO) (hO : O = oo) (R : OB) (hR : R = bO) (W : OW) (hW : W = wO O) : Sx.SpecOK I Tryd.prog 9 (pspec [.v, .v] false (g_scr O R W)) := by
 refine spec_pI (spW2_ok I hT O hO R hR W hW) (by kernel_rfl) (fun ds => match ds with | [.v (.agg a), .v (.int .i64 n)] => [] | _ => []) Tryd.func9 (by kernel_rfl) (by kernel_rfl) rfl Tryd.ntmps9 (by decide) ?_ ?_
 ·intro ds p bs F h
  unfold g_scr at h
  split at h
  ·rename_i a n
   simp only [Option.some.injEq, Prod.mk.injEq] at h
   obtain ⟨_, _, rfl⟩ := h
   kernel_rfl
  ·cases h
 ·intro ds bs F hl h
  unfold g_scr at h
  split at h
  ·rename_i a n
   simp only [Option.some.injEq, Prod.mk.injEq, Bool.and_eq_true] at h
   obtain ⟨⟨h0, h1⟩, _, rfl⟩ := h
   obtain ⟨m, rfl⟩ := isH_AV (by subst hO; exact h1 : isHa a = true)
   exact wpc_scr O R W m n (fo_oo O hO) hR hW (by first | exact h0 | (simp only [Bool.and_eq_true]; exact h0)) (by first | exact h1 | (simp only [Bool.and_eq_true]; exact h1))
  ·cases h
def g_new (O : OO) (R : OB) (W : OW) (ds : List Dt) : Option (Bool × List Bool × (List Bool → Post)) := match ds with
 | [] => some (true, [], fun _ => ⟨[.ptr 0 0], [(0, .blk 54 (.v (.int .i64 0) :: selList 1 21 0)), (1, .sels KK nilL)]⟩)
 | _ => none
set_option maxHeartbeats 4000000 in
theorem vc_new (O : OO) (R : OB) (W : OW) (F : FO O) (hr : R = bO) (hw : W = wO O) :
 True ∧ Value.int .i64 0 = Value.int .i64 0 ∧ List.replicate 21 [] = nilL ∧ True := by
 exact ⟨trivial, rfl, rfl, trivial⟩
theorem wpc_new (O : OO) (R : OB) (W : OW) (F : FO O) (hr : R = bO) (hw : W = wO O) : wpcI Tryd.prog (spW2 O R W) Tryd.f11.ntmps [] (bodyOf Tryd.f11) 0 64 (envP (mks [] [] 0).1 0) (mks [] [] 0).2 (retPA [(200000, 5, .structs KK (List.replicate 21 []))] Tryd.prog Tryd.f11.results.toList 0 (⟨[.ptr 0 0], [(0, .blk 54 (.v (.int .i64 0) :: selList 1 21 0)), (1, .sels KK nilL)]⟩ : Post)) :=
 Eq.mpr (by kernel_rfl) (vc_new O R W F hr hw)
theorem ok_new (I : Sx.Interp) (hT : Tz I) (O : OO) (hO : O = oo) (R : OB) (hR : R = bO) (W : OW) (hW : W = wO O) : Sx.SpecOK I Tryd.prog 11 (pspec [] true (g_new O R W)) := by
 refine spec_pAI (spW2_ok I hT O hO R hR W hW) (by kernel_rfl) (fun ds => match ds with | [] => [] | _ => []) (fun ds => match ds with | [] => [(200000, 5, .structs KK (List.replicate 21 []))] | _ => []) Tryd.func11 (by kernel_rfl) (by kernel_rfl) rfl Tryd.ntmps11 (by decide) ?_ ?_
 ·intro ds p bs F h
  unfold g_new at h
  split at h
  ·skip
   simp only [Option.some.injEq, Prod.mk.injEq] at h
   obtain ⟨_, _, rfl⟩ := h
   kernel_rfl
  ·cases h
 ·intro ds bs F hl h
  unfold g_new at h
  split at h
  ·skip
   simp only [Option.some.injEq, Prod.mk.injEq, Bool.and_eq_true] at h
   obtain ⟨_, _, rfl⟩ := h
   exact wpc_new O R W  (fo_oo O hO) hR hW 
  ·cases h
def g_add (O : OO) (R : OB) (W : OW) (ds : List Dt) : Option (Bool × List Bool × (List Bool → Post)) := match ds with
 | [.node [.v (.int .i64 n), .opts L], .v (.int .i64 no), .v (.agg a)] => some ((iLe 0 n && iLe n 1048576) && (okL O L) && (O.isH a), [], fun _ => ⟨[.v (.int .i64 (stE W n L no a))], [(0, .blk 54 (.v (.int .i64 (stN W n L no a)) :: selList 2 21 0)), (2, .sels KK (stL W n L no a))]⟩)
 | _ => none
set_option maxHeartbeats 4000000 in
theorem vc_add (O : OO) (R : OB) (W : OW) (n : Int) (L : List (List (List Int))) (no : Int) (m : Nat → Int) (F : FO O) (hr : R = bO) (hw : W = wO O) (h0 : (iLe 0 n && iLe n 1048576) = true) (h1 : (okL O L) = true) (h2 : (O.isH (AV m)) = true) :
 If (iBne no n) (Value.int .i64 1 = Value.int .i64 (stE W n L no (AV m)) ∧ True ∧ Value.int .i64 n = Value.int .i64 (stN W n L no (AV m)) ∧ L = stL W n L no (AV m) ∧ True) (If (iLe
  1048576 no) (Value.int .i64 1 = Value.int .i64 (stE W n L no (AV m)) ∧ True ∧ Value.int .i64 n = Value.int .i64 (stN W n L no (AV m)) ∧ L = stL W n L no (AV m) ∧ True) (If (iLe
  (iNeg 1048576) no && iLe no 1048576) (If (iLe 0 (iSub 1048575 no) && iLe (iSub 1048575 no) 1048576) (If (iLe 0 0 && iLe 0 (W.hg (iSub 1048575 no)) && iLe (W.hg (iSub 1048575 no))
  (iOf 21)) ((∃ (x : Nat), (x ≤ (W.hg (iSub 1048575 no)).toNat ∧ chkAll W L (W.hg (iSub 1048575 no)) (AV m) x = true) ∧ (Value.int .i64 0 = Value.int .i64 (iOf x) ∧ Value.int .i64
  (iSub 1048575 no) = Value.int .i64 (iSub 1048575 no) ∧ Value.int .i64 (W.hg (iSub 1048575 no)) = Value.int .i64 (W.hg (iSub 1048575 no)) ∧ (1 = 1 ∧ nSub (W.hg (iSub 1048575
  no)).toNat 0 = nSub (W.hg (iSub 1048575 no)).toNat 0 ∧ 21 = 21) ∧ Value.int .i64 (iOf (nSub (W.hg (iSub 1048575 no)).toNat 0)) = Value.int .i64 (iOf (nSub (W.hg (iSub 1048575
  no)).toNat 0)) ∧ True) ∧ AV m = AV m ∧ Value.int .i64 n = Value.int .i64 n ∧ L = L ∧ True) ∧ ∀ (x : Nat), x ≤ (W.hg (iSub 1048575 no)).toNat ∧ chkAll W L (W.hg (iSub 1048575 no))
  (AV m) x = true → If (iLt (iOf x) (iOf (nSub (W.hg (iSub 1048575 no)).toNat (Int.toNat 0)))) (If (iLe 0 (iOf x) && (iOf x).toNat.blt (nSub (W.hg (iSub 1048575 no)).toNat 0)) (If
  (L.length.beq 21 && (iOf x).toNat.blt 21) (If (!(L.getD (iOf x).toNat []).length.beq 0) (If (Nat.blt 0 (L.getD (iOf x).toNat []).length) (If (Nat.blt 0 (L.getD (iOf x).toNat
  []).length) (If (true && Nat.beq 33 33 && Nat.blt 0 (L.getD (iOf x).toNat []).length) (If (iLe 0 (W.hg (iSub 1048575 no)) && iLe (W.hg (iSub 1048575 no)) 20 && O.isH (AV m)) (If
  (Nat.blt 0 (L.getD (iOf x).toNat []).length) (If (Nat.blt 0 (L.getD (iOf x).toNat []).length) (If (true && Nat.beq 33 33 && Nat.blt 0 (L.getD (iOf x).toNat []).length) (If (!eqv (AV
  (W.cm (W.hg (iSub 1048575 no)) (((L.getD (iOf x).toNat []).getD 0 []).getD 0 0) (AV m))) (AV (hK ((L.getD (iOf x).toNat []).getD 0 [])))) (Value.int .i64 23 = Value.int .i64 (stE W
  n L no (AV m)) ∧ True ∧ Value.int .i64 n = Value.int .i64 (stN W n L no (AV m)) ∧ L = stL W n L no (AV m) ∧ True) (∃ (x' : Nat), (x' ≤ (W.hg (iSub 1048575 no)).toNat ∧ chkAll W L
  (W.hg (iSub 1048575 no)) (AV m) x' = true) ∧ (nSub (W.hg (iSub 1048575 no)).toNat x').succ ≤ nSub (W.hg (iSub 1048575 no)).toNat x ∧ (Value.int .i64 (IntKind.i64.wrap (iAdd (iOf x)
  1)) = Value.int .i64 (iOf x') ∧ Value.int .i64 (iSub 1048575 no) = Value.int .i64 (iSub 1048575 no) ∧ Value.int .i64 (W.hg (iSub 1048575 no)) = Value.int .i64 (W.hg (iSub 1048575
  no)) ∧ (1 = 1 ∧ nSub (W.hg (iSub 1048575 no)).toNat 0 = nSub (W.hg (iSub 1048575 no)).toNat 0 ∧ 21 = 21) ∧ Value.int .i64 (iOf (nSub (W.hg (iSub 1048575 no)).toNat 0)) = Value.int
  .i64 (iOf (nSub (W.hg (iSub 1048575 no)).toNat 0)) ∧ True) ∧ AV m = AV m ∧ Value.int .i64 n = Value.int .i64 n ∧ L = L ∧ True)) False) False) False) False) False) False) False) (∃
  (x' : Nat), (x' ≤ (W.hg (iSub 1048575 no)).toNat ∧ chkAll W L (W.hg (iSub 1048575 no)) (AV m) x' = true) ∧ (nSub (W.hg (iSub 1048575 no)).toNat x').succ ≤ nSub (W.hg (iSub 1048575
  no)).toNat x ∧ (Value.int .i64 (IntKind.i64.wrap (iAdd (iOf x) 1)) = Value.int .i64 (iOf x') ∧ Value.int .i64 (iSub 1048575 no) = Value.int .i64 (iSub 1048575 no) ∧ Value.int .i64
  (W.hg (iSub 1048575 no)) = Value.int .i64 (W.hg (iSub 1048575 no)) ∧ (1 = 1 ∧ nSub (W.hg (iSub 1048575 no)).toNat 0 = nSub (W.hg (iSub 1048575 no)).toNat 0 ∧ 21 = 21) ∧ Value.int
  .i64 (iOf (nSub (W.hg (iSub 1048575 no)).toNat 0)) = Value.int .i64 (iOf (nSub (W.hg (iSub 1048575 no)).toNat 0)) ∧ True) ∧ AV m = AV m ∧ Value.int .i64 n = Value.int .i64 n ∧ L = L
  ∧ True)) False) False) (If (iLe 0 (W.hg (iSub 1048575 no)) && (W.hg (iSub 1048575 no)).toNat.blt 21) (If (L.length.beq (nSub 22 1) && (W.hg (iSub 1048575 no)).toNat.blt (nSub 22 1))
  (Value.int .i64 0 = Value.int .i64 (stE W n L no (AV m)) ∧ True ∧ Value.int .i64 (IntKind.i64.wrap (iAdd n 1)) = Value.int .i64 (stN W n L no (AV m)) ∧ L.set (W.hg (iSub 1048575
  no)).toNat [(iSub 1048575 no :: tabI (m) 32)] = stL W n L no (AV m) ∧ True) False) False)) False) False) False)) := by
 obtain ⟨hL, hE⟩ := okL_at h1
 simp only [Bool.and_eq_true, Bool.or_eq_true, Sx.iLt_t, Sx.iLt_f, Sx.iLe_t, Sx.iLe_f, Sx.iEq_t, Sx.iEq_f, Sx.iBeq_t, Sx.iBeq_f, Sx.iBne_t, Sx.iBne_f, Nat.ble_eq, Nat.beq_eq, Sx.Cont.n] at h0
 have hH := hg_le hw (1048575 - no)
 refine Sx.if_both (fun hn => ?_) (fun hn => Sx.if_both (fun hn2 => ?_) (fun hn2 => ?_))
 ·have e : stE W n L no (AV m) = 1 := by unfold stE; rw [hn]; rfl
  have e2 : stN W n L no (AV m) = n := by unfold stN; rw [e]; rfl
  have e3 : stL W n L no (AV m) = L := by unfold stL; rw [e]; rfl
  rw [e, e2, e3]; exact ⟨rfl, trivial, rfl, rfl, trivial⟩
 ·have e : stE W n L no (AV m) = 1 := by unfold stE; rw [hn, hn2]; rfl
  have e2 : stN W n L no (AV m) = n := by unfold stN; rw [e]; rfl
  have e3 : stL W n L no (AV m) = L := by unfold stL; rw [e]; rfl
  rw [e, e2, e3]; exact ⟨rfl, trivial, rfl, rfl, trivial⟩
 have hE0 : stE W n L no (AV m) = bif chkAll W L (W.hg (1048575 - no)) (AV m) (W.hg (1048575 - no)).toNat then 0 else 23 := by unfold stE; rw [hn, hn2]; rfl
 simp only [Bool.and_eq_true, Bool.or_eq_true, Sx.iLt_t, Sx.iLt_f, Sx.iLe_t, Sx.iLe_f, Sx.iEq_t, Sx.iEq_f, Sx.iBeq_t, Sx.iBeq_f, Sx.iBne_t, Sx.iBne_f, Nat.ble_eq, Nat.beq_eq, Sx.Cont.n] at hn hn2
 change 0 ≤ W.hg (iSub 1048575 no) ∧ W.hg (iSub 1048575 no) ≤ 20 at hH
 change stE W n L no (AV m) = bif chkAll W L (W.hg (iSub 1048575 no)) (AV m) (W.hg (iSub 1048575 no)).toNat then 0 else 23 at hE0
 obtain ⟨H, hHe⟩ : ∃ H, W.hg (iSub 1048575 no) = H := ⟨_, rfl⟩
 rw [hHe] at hH hE0
 simp only [hHe]
 obtain ⟨k, rfl⟩ : ∃ k : Nat, H = (k : Int) := ⟨H.toNat, by omega⟩
 simp only [Int.toNat_natCast] at hE0 ⊢
 have hk20 : k ≤ 20 := by omega
 have q3 : (iLe 0 (k : Int) && iLe (k : Int) 20 && O.isH (AV m)) = true := by rw [h2, Bool.and_true]; simp only [Bool.and_eq_true, Bool.or_eq_true, Sx.iLt_t, Sx.iLt_f, Sx.iLe_t, Sx.iLe_f, Sx.iEq_t, Sx.iEq_f, Sx.iBeq_t, Sx.iBeq_f, Sx.iBne_t, Sx.iBne_f, Nat.ble_eq, Nat.beq_eq, Sx.Cont.n]; omega
 obtain ⟨E, hEe⟩ : ∃ E : Nat → Bool, ∀ x, eqv (AV (W.cm (k : Int) (((L.getD x []).getD 0 []).getD 0 0) (AV m))) (AV (hK ((L.getD x []).getD 0 []))) = E x := ⟨_, fun _ => rfl⟩
 simp only [q3, hEe]
 refine Sx.if_true (by simp only [Sx.app, Sx.nAdd, Sx.nSub, Sx.nMul, Sx.nPow, Sx.nDiv, Sx.nMod, Sx.iAdd, Sx.iSub, Sx.iMul, Sx.iNeg, Sx.iPow, Sx.iOf, Bool.and_eq_true, Bool.or_eq_true, Sx.iLt_t, Sx.iLt_f, Sx.iLe_t, Sx.iLe_f, Sx.iEq_t, Sx.iEq_f, Sx.iBeq_t, Sx.iBeq_f, Sx.iBne_t, Sx.iBne_f, Nat.ble_eq, Nat.beq_eq, Sx.Cont.n]; omega) (Sx.if_true (by simp only [Sx.app, Sx.nAdd, Sx.nSub, Sx.nMul, Sx.nPow, Sx.nDiv, Sx.nMod, Sx.iAdd, Sx.iSub, Sx.iMul, Sx.iNeg, Sx.iPow, Sx.iOf, Bool.and_eq_true, Bool.or_eq_true, Sx.iLt_t, Sx.iLt_f, Sx.iLe_t, Sx.iLe_f, Sx.iEq_t, Sx.iEq_f, Sx.iBeq_t, Sx.iBeq_f, Sx.iBne_t, Sx.iBne_f, Nat.ble_eq, Nat.beq_eq, Sx.Cont.n]; omega) (Sx.if_true (by simp only [Sx.app, Sx.nAdd, Sx.nSub, Sx.nMul, Sx.nPow, Sx.nDiv, Sx.nMod, Sx.iAdd, Sx.iSub, Sx.iMul, Sx.iNeg, Sx.iPow, Sx.iOf, Bool.and_eq_true, Bool.or_eq_true, Sx.iLt_t, Sx.iLt_f, Sx.iLe_t, Sx.iLe_f, Sx.iEq_t, Sx.iEq_f, Sx.iBeq_t, Sx.iBeq_f, Sx.iBne_t, Sx.iBne_f, Nat.ble_eq, Nat.beq_eq, Sx.Cont.n]; omega) ⟨⟨0, ⟨Nat.zero_le _, (by first | rfl | trivial)⟩, ⟨(by first | rfl | trivial), (by first | rfl | trivial), (by first | rfl | trivial), ⟨(by first | rfl | trivial), (by first | rfl | trivial), (by first | rfl | trivial)⟩, (by first | rfl | trivial), trivial⟩, (by first | rfl | trivial), (by first | rfl | trivial), (by first | rfl | trivial), trivial⟩, fun x ⟨c1, c2⟩ => ?_⟩))
 have w1 : IntKind.i64.wrap (iAdd (iOf x) 1) = ((x + 1 : Nat) : Int) := by simp only [Sx.app, Sx.nAdd, Sx.nSub, Sx.nMul, Sx.nPow, Sx.nDiv, Sx.nMod, Sx.iAdd, Sx.iSub, Sx.iMul, Sx.iNeg, Sx.iPow, Sx.iOf]; rw [IntKind.wrap_i64]; omega
 have ex : (iOf x).toNat = x := Int.toNat_natCast x
 have next : chkE W (k : Int) (AV m) (L.getD x []) = true → chkAll W L (k : Int) (AV m) (x + 1) = true := fun h => by
  unfold chkAll at c2 ⊢
  rw [List.range_succ, List.all_append, c2]
  show (true && ([x].all fun i => chkE W (k : Int) (AV m) (L.getD i []))) = true
  rw [List.all_cons, List.all_nil, h]; rfl
 refine Sx.if_both (fun hlt => ?_) (fun hlt => ?_)
 ·simp only [Sx.app, Sx.nAdd, Sx.nSub, Sx.nMul, Sx.nPow, Sx.nDiv, Sx.nMod, Sx.iAdd, Sx.iSub, Sx.iMul, Sx.iNeg, Sx.iPow, Sx.iOf, Bool.and_eq_true, Bool.or_eq_true, Sx.iLt_t, Sx.iLt_f, Sx.iLe_t, Sx.iLe_f, Sx.iEq_t, Sx.iEq_f, Sx.iBeq_t, Sx.iBeq_f, Sx.iBne_t, Sx.iBne_f, Nat.ble_eq, Nat.beq_eq, Sx.Cont.n, Nat.sub_zero] at hlt
  have hxk : x < k := by simpa using hlt
  simp only [ex]
  have b21 : (L.length.beq 21 && x.blt 21) = true := by rw [hL, show x.blt 21 = true by rw [Nat.blt_eq]; omega]; rfl
  refine Sx.if_true (by rw [show x.blt (nSub k 0) = true by rw [Nat.blt_eq]; simp only [Sx.app, Sx.nAdd, Sx.nSub, Sx.nMul, Sx.nPow, Sx.nDiv, Sx.nMod, Sx.iAdd, Sx.iSub, Sx.iMul, Sx.iNeg, Sx.iPow, Sx.iOf]; omega, Bool.and_true]; simp only [Sx.app, Sx.nAdd, Sx.nSub, Sx.nMul, Sx.nPow, Sx.nDiv, Sx.nMod, Sx.iAdd, Sx.iSub, Sx.iMul, Sx.iNeg, Sx.iPow, Sx.iOf, Bool.and_eq_true, Bool.or_eq_true, Sx.iLt_t, Sx.iLt_f, Sx.iLe_t, Sx.iLe_f, Sx.iEq_t, Sx.iEq_f, Sx.iBeq_t, Sx.iBeq_f, Sx.iBne_t, Sx.iBne_f, Nat.ble_eq, Nat.beq_eq, Sx.Cont.n]; omega) (Sx.if_true b21 ?_)
  rcases okE_cases (hE x) with he | ⟨y, he, hy⟩
  ·rw [he]
   refine Sx.if_false rfl ?_
   exact ⟨x + 1, ⟨by omega, next (by rw [he]; rfl)⟩, by simp only [Sx.app, Sx.nAdd, Sx.nSub, Sx.nMul, Sx.nPow, Sx.nDiv, Sx.nMod, Sx.iAdd, Sx.iSub, Sx.iMul, Sx.iNeg, Sx.iPow, Sx.iOf]; omega, ⟨by rw [w1]; rfl, (by first | rfl | trivial), (by first | rfl | trivial), ⟨(by first | rfl | trivial), (by first | rfl | trivial), (by first | rfl | trivial)⟩, (by first | rfl | trivial), trivial⟩, (by first | rfl | trivial), (by first | rfl | trivial), (by first | rfl | trivial), trivial⟩
  ·rw [he] at next ⊢
   have q0 : (!([y] : List (List Int)).length.beq 0) = true := rfl
   have q1 : Nat.blt 0 ([y] : List (List Int)).length = true := rfl
   have q2 : (true && Nat.beq 33 33 && Nat.blt 0 ([y] : List (List Int)).length) = true := rfl
   refine Sx.if_true q0 ?_
   refine Sx.if_true q1 ?_
   refine Sx.if_true q1 ?_
   refine Sx.if_true q2 ?_
   refine Sx.if_true rfl ?_
   refine Sx.if_true q1 ?_
   refine Sx.if_true q1 ?_
   refine Sx.if_true q2 ?_
   have ec : chkE W (k : Int) (AV m) [y] = E x := by
    rw [← hEe x, he]
    show ([y].all fun x => eqv (AV (W.cm (k : Int) (plc x) (AV m))) (AV (hK x))) = _
    rw [List.all_cons, List.all_nil, Bool.and_true]; rfl
   rw [ec] at next
   refine Sx.if_both (fun hq => ?_) (fun hq => ?_)
   ·have hf : chkAll W L (k : Int) (AV m) k = false := by
     unfold chkAll
     rw [List.all_eq_false]
     refine ⟨x, List.mem_range.2 hxk, ?_⟩
     rw [he, ec]
     simpa using hq
    rw [hf] at hE0
    have e : stE W n L no (AV m) = 23 := hE0
    have e2 : stN W n L no (AV m) = n := by unfold stN; rw [e]; rfl
    have e3 : stL W n L no (AV m) = L := by unfold stL; rw [e]; rfl
    rw [e, e2, e3]; exact ⟨rfl, trivial, rfl, rfl, trivial⟩
   ·exact ⟨x + 1, ⟨by omega, next (by simpa using hq)⟩, by simp only [Sx.app, Sx.nAdd, Sx.nSub, Sx.nMul, Sx.nPow, Sx.nDiv, Sx.nMod, Sx.iAdd, Sx.iSub, Sx.iMul, Sx.iNeg, Sx.iPow, Sx.iOf]; omega, ⟨by rw [w1]; rfl, (by first | rfl | trivial), (by first | rfl | trivial), ⟨(by first | rfl | trivial), (by first | rfl | trivial), (by first | rfl | trivial)⟩, (by first | rfl | trivial), trivial⟩, (by first | rfl | trivial), (by first | rfl | trivial), (by first | rfl | trivial), trivial⟩
 ·simp only [Sx.app, Sx.nAdd, Sx.nSub, Sx.nMul, Sx.nPow, Sx.nDiv, Sx.nMod, Sx.iAdd, Sx.iSub, Sx.iMul, Sx.iNeg, Sx.iPow, Sx.iOf, Bool.and_eq_true, Bool.or_eq_true, Sx.iLt_t, Sx.iLt_f, Sx.iLe_t, Sx.iLe_f, Sx.iEq_t, Sx.iEq_f, Sx.iBeq_t, Sx.iBeq_f, Sx.iBne_t, Sx.iBne_f, Nat.ble_eq, Nat.beq_eq, Sx.Cont.n, Nat.sub_zero] at hlt
  have : x = k := by
   have : ¬ ((x : Int) < (k : Int)) := by simpa using hlt
   omega
  subst this
  rw [c2] at hE0
  have e : stE W n L no (AV m) = 0 := hE0
  have e2 : stN W n L no (AV m) = n + 1 := by unfold stN; rw [e]; rfl
  have e3 : stL W n L no (AV m) = L.set x [(1048575 - no) :: tabI m 32] := by
   unfold stL
   rw [e, show W.hg (1048575 - no) = (x : Int) from hHe, Int.toNat_natCast]
   show L.set x [(1048575 - no) :: tabI (fnA (AV m)) 32] = _
   rw [fn_tab]
  have w2 : IntKind.i64.wrap (iAdd n 1) = n + 1 := by simp only [Sx.app, Sx.nAdd, Sx.nSub, Sx.nMul, Sx.nPow, Sx.nDiv, Sx.nMod, Sx.iAdd, Sx.iSub, Sx.iMul, Sx.iNeg, Sx.iPow, Sx.iOf]; rw [IntKind.wrap_i64]; omega
  rw [e, e2, e3, w2]
  refine Sx.if_true (by rw [show x.blt 21 = true by rw [Nat.blt_eq]; omega, Bool.and_true]; simp only [Sx.app, Sx.nAdd, Sx.nSub, Sx.nMul, Sx.nPow, Sx.nDiv, Sx.nMod, Sx.iAdd, Sx.iSub, Sx.iMul, Sx.iNeg, Sx.iPow, Sx.iOf, Bool.and_eq_true, Bool.or_eq_true, Sx.iLt_t, Sx.iLt_f, Sx.iLe_t, Sx.iLe_f, Sx.iEq_t, Sx.iEq_f, Sx.iBeq_t, Sx.iBeq_f, Sx.iBne_t, Sx.iBne_f, Nat.ble_eq, Nat.beq_eq, Sx.Cont.n]; omega) (Sx.if_true (by rw [hL, show (x.blt (nSub 22 1)) = true by rw [Nat.blt_eq]; simp only [Sx.app, Sx.nAdd, Sx.nSub, Sx.nMul, Sx.nPow, Sx.nDiv, Sx.nMod, Sx.iAdd, Sx.iSub, Sx.iMul, Sx.iNeg, Sx.iPow, Sx.iOf]; omega]; rfl) ⟨rfl, trivial, rfl, rfl, trivial⟩)
theorem wpc_add (O : OO) (R : OB) (W : OW) (n : Int) (L : List (List (List Int))) (no : Int) (m : Nat → Int) (F : FO O) (hr : R = bO) (hw : W = wO O) (h0 : (iLe 0 n && iLe n 1048576) = true) (h1 : (okL O L) = true) (h2 : (O.isH (AV m)) = true) : wpcI Tryd.prog (spW2 O R W) Tryd.f13.ntmps [⟨Nat, [0, 5, 7, 8, 29, 30], [], fun B j => [(31, .v (.int .i64 (j : Int)))], fun B j => [], fun j => j ≤ (W.hg (1048575 - no)).toNat ∧ chkAll W L (W.hg (1048575 - no)) (AV m) j = true, fun j => (W.hg (1048575 - no)).toNat - j, 0⟩] (bodyOf Tryd.f13) 0 64 (envP (mks [.objs 54 [.v] KK 21, .v, .v] [.node [.v (.int .i64 n), .opts L], .v (.int .i64 no), .v (.agg (AV m))] 0).1 0) (mks [.objs 54 [.v] KK 21, .v, .v] [.node [.v (.int .i64 n), .opts L], .v (.int .i64 no), .v (.agg (AV m))] 0).2 (retP Tryd.prog Tryd.f13.results.toList 2 (⟨[.v (.int .i64 (stE W n L no (AV m)))], [(0, .blk 54 (.v (.int .i64 (stN W n L no (AV m))) :: selList 2 21 0)), (2, .sels KK (stL W n L no (AV m)))]⟩ : Post)) :=
 Eq.mpr (by kernel_rfl) (vc_add O R W n L no m F hr hw h0 h1 h2)
theorem ok_add (I : Sx.Interp) (hT : Tz I) (O : OO) (hO : O = oo) (R : OB) (hR : R = bO) (W : OW) (hW : W = wO O) : Sx.SpecOK I Tryd.prog 13 (pspec [.objs 54 [.v] KK 21, .v, .v] true (g_add O R W)) := by
 refine spec_pI (spW2_ok I hT O hO R hR W hW) (by kernel_rfl) (fun ds => match ds with | [.node [.v (.int .i64 n), .opts L], .v (.int .i64 no), .v (.agg a)] => [⟨Nat, [0, 5, 7, 8, 29, 30], [], fun B j => [(31, .v (.int .i64 (j : Int)))], fun B j => [], fun j => j ≤ (W.hg (1048575 - no)).toNat ∧ chkAll W L (W.hg (1048575 - no)) a j = true, fun j => (W.hg (1048575 - no)).toNat - j, 0⟩] | _ => []) Tryd.func13 (by kernel_rfl) (by kernel_rfl) rfl Tryd.ntmps13 (by decide) ?_ ?_
 ·intro ds p bs F h
  unfold g_add at h
  split at h
  ·rename_i n L no a
   simp only [Option.some.injEq, Prod.mk.injEq] at h
   obtain ⟨_, _, rfl⟩ := h
   kernel_rfl
  ·cases h
 ·intro ds bs F hl h
  unfold g_add at h
  split at h
  ·rename_i n L no a
   simp only [Option.some.injEq, Prod.mk.injEq, Bool.and_eq_true] at h
   obtain ⟨⟨⟨h0, h1⟩, h2⟩, _, rfl⟩ := h
   obtain ⟨m, rfl⟩ := isH_AV (by subst hO; exact h2 : isHa a = true)
   exact wpc_add O R W n L no m (fo_oo O hO) hR hW (by first | exact h0 | (simp only [Bool.and_eq_true]; exact h0)) (by first | exact h1 | (simp only [Bool.and_eq_true]; exact h1)) (by first | exact h2 | (simp only [Bool.and_eq_true]; exact h2))
  ·cases h
def g_get (O : OO) (R : OB) (W : OW) (ds : List Dt) : Option (Bool × List Bool × (List Bool → Post)) := match ds with
 | [.node [.v (.int .i64 n), .opts L], .v (.int .i64 no)] => some ((iLe 0 n && iLe n 1048576) && (okL O L) && (iLe (-9223372036854775808) no), [], fun _ => ⟨[.v (.agg (AV (getF W n no L))), .v (.bool (getB n no L))], []⟩)
 | _ => none
set_option maxHeartbeats 4000000 in
theorem vc_get (O : OO) (R : OB) (W : OW) (n : Int) (L : List (List (List Int))) (no : Int) (F : FO O) (hr : R = bO) (hw : W = wO O) (h0 : (iLe 0 n && iLe n 1048576) = true) (h1 : (okL O L) = true) (h2 : (iLe (-9223372036854775808) no) = true) :
 If (iLt no 0) ((Value.agg (Array.mk (List.replicate 32 (Value.int .u8 0))) = Value.agg (AV (getF W n no L)) ∧ Value.bool false = Value.bool (getB n no L)) ∧ True ∧ True) (If (iLe n
  no) ((Value.agg (Array.mk (List.replicate 32 (Value.int .u8 0))) = Value.agg (AV (getF W n no L)) ∧ Value.bool false = Value.bool (getB n no L)) ∧ True ∧ True) (If (iLe (iNeg
  1048576) no && iLe no 1048576) ((∃ (x : Nat), (x ≤ 21 ∧ fndK L (iSub 1048575 no) 21 0 = fndK L (iSub 1048575 no) (nSub 21 x) x) ∧ (Value.int .i64 0 = Value.int .i64 (iOf x) ∧
  Value.int .i64 no = Value.int .i64 no ∧ Value.int .i64 (iSub 1048575 no) = Value.int .i64 (iSub 1048575 no) ∧ True) ∧ Array.mk (List.replicate 32 (Value.int .u8 0)) = Array.mk
  (List.replicate 32 (Value.int .u8 0)) ∧ Value.int .i64 n = Value.int .i64 n ∧ L = L ∧ True) ∧ ∀ (x : Nat), x ≤ 21 ∧ fndK L (iSub 1048575 no) 21 0 = fndK L (iSub 1048575 no) (nSub 21
  x) x → If (iLt (iOf x) 21) (If (L.length.beq 21 && (iOf x).toNat.blt 21) (If (!(L.getD (iOf x).toNat []).length.beq 0) (If (Nat.blt 0 (L.getD (iOf x).toNat []).length) (If (Nat.blt
  0 (L.getD (iOf x).toNat []).length) (If (true && Nat.beq 33 33 && Nat.blt 0 (L.getD (iOf x).toNat []).length) (If (iBeq ((((L.getD (iOf x).toNat []).getD 0 []).getD 0 0).fdiv (iPow
  2 (min (iOf x).toNat 64))) ((iSub 1048575 no).fdiv (iPow 2 (min (iOf x).toNat 64)))) (If (Nat.blt 0 (L.getD (iOf x).toNat []).length) (If (Nat.blt 0 (L.getD (iOf x).toNat
  []).length) (If (true && Nat.beq 33 33 && Nat.blt 0 (L.getD (iOf x).toNat []).length) (If (iLe 0 (iOf x) && iLe (iOf x) 20 && O.isH (AV (hK ((L.getD (iOf x).toNat []).getD 0 []))))
  ((Value.agg (AV (W.cm (iOf x) (iSub 1048575 no) (AV (hK ((L.getD (iOf x).toNat []).getD 0 [])))) ) = Value.agg (AV (getF W n no L)) ∧ Value.bool true = Value.bool (getB n no L)) ∧
  True ∧ True) False) False) False) False) (∃ (x' : Nat), (x' ≤ 21 ∧ fndK L (iSub 1048575 no) 21 0 = fndK L (iSub 1048575 no) (nSub 21 x') x') ∧ (nSub 21 x').succ ≤ nSub 21 x ∧
  (Value.int .i64 (IntKind.i64.wrap (iAdd (iOf x) 1)) = Value.int .i64 (iOf x') ∧ Value.int .i64 no = Value.int .i64 no ∧ Value.int .i64 (iSub 1048575 no) = Value.int .i64 (iSub
  1048575 no) ∧ True) ∧ Array.mk (List.replicate 32 (Value.int .u8 0)) = Array.mk (List.replicate 32 (Value.int .u8 0)) ∧ Value.int .i64 n = Value.int .i64 n ∧ L = L ∧ True)) False)
  False) False) (∃ (x' : Nat), (x' ≤ 21 ∧ fndK L (iSub 1048575 no) 21 0 = fndK L (iSub 1048575 no) (nSub 21 x') x') ∧ (nSub 21 x').succ ≤ nSub 21 x ∧ (Value.int .i64 (IntKind.i64.wrap
  (iAdd (iOf x) 1)) = Value.int .i64 (iOf x') ∧ Value.int .i64 no = Value.int .i64 no ∧ Value.int .i64 (iSub 1048575 no) = Value.int .i64 (iSub 1048575 no) ∧ True) ∧ Array.mk
  (List.replicate 32 (Value.int .u8 0)) = Array.mk (List.replicate 32 (Value.int .u8 0)) ∧ Value.int .i64 n = Value.int .i64 n ∧ L = L ∧ True)) False) ((Value.agg (Array.mk
  (List.replicate 32 (Value.int .u8 0))) = Value.agg (AV (getF W n no L)) ∧ Value.bool false = Value.bool (getB n no L)) ∧ True ∧ True)) False)) := by
 obtain ⟨hL, hE⟩ := okL_at h1
 simp only [Bool.and_eq_true, Bool.or_eq_true, Sx.iLt_t, Sx.iLt_f, Sx.iLe_t, Sx.iLe_f, Sx.iEq_t, Sx.iEq_f, Sx.iBeq_t, Sx.iBeq_f, Sx.iBne_t, Sx.iBne_f, Nat.ble_eq, Nat.beq_eq, Sx.Cont.n] at h0
 have zz : getB n no L = false → (Array.mk (List.replicate 32 (Value.int IntKind.u8 0)) : Array Value) = AV (getF W n no L) := fun h => by
  have e : getF W n no L = fun _ => 0 := by funext i; unfold getF; rw [h]; rfl
  rw [e]; rfl
 refine Sx.if_both (fun h => ?_) (fun h => Sx.if_both (fun h3 => ?_) (fun h3 => ?_))
 ·have hb : getB n no L = false := by unfold getB; rw [h]; rfl
  rw [hb, zz hb]; exact ⟨⟨rfl, rfl⟩, trivial, trivial⟩
 ·have hb : getB n no L = false := by unfold getB; rw [h, h3]; rfl
  rw [hb, zz hb]; exact ⟨⟨rfl, rfl⟩, trivial, trivial⟩
 have hgB : getB n no L = Nat.blt (fndK L (1048575 - no) 21 0) 21 := by unfold getB; rw [h, h3]; rfl
 simp only [Bool.and_eq_true, Bool.or_eq_true, Sx.iLt_t, Sx.iLt_f, Sx.iLe_t, Sx.iLe_f, Sx.iEq_t, Sx.iEq_f, Sx.iBeq_t, Sx.iBeq_f, Sx.iBne_t, Sx.iBne_f, Nat.ble_eq, Nat.beq_eq, Sx.Cont.n] at h h3
 refine Sx.if_true (by simp only [Sx.app, Sx.nAdd, Sx.nSub, Sx.nMul, Sx.nPow, Sx.nDiv, Sx.nMod, Sx.iAdd, Sx.iSub, Sx.iMul, Sx.iNeg, Sx.iPow, Sx.iOf, Bool.and_eq_true, Bool.or_eq_true, Sx.iLt_t, Sx.iLt_f, Sx.iLe_t, Sx.iLe_f, Sx.iEq_t, Sx.iEq_f, Sx.iBeq_t, Sx.iBeq_f, Sx.iBne_t, Sx.iBne_f, Nat.ble_eq, Nat.beq_eq, Sx.Cont.n]; omega) ⟨⟨0, ⟨by omega, rfl⟩, ⟨rfl, (by first | rfl | trivial), (by first | rfl | trivial), trivial⟩, (by first | rfl | trivial), (by first | rfl | trivial), (by first | rfl | trivial), trivial⟩, fun x ⟨c1, c2⟩ => ?_⟩
 have w1 : IntKind.i64.wrap (iAdd (iOf x) 1) = ((x + 1 : Nat) : Int) := by simp only [Sx.app, Sx.nAdd, Sx.nSub, Sx.nMul, Sx.nPow, Sx.nDiv, Sx.nMod, Sx.iAdd, Sx.iSub, Sx.iMul, Sx.iNeg, Sx.iPow, Sx.iOf]; rw [IntKind.wrap_i64]; omega
 have ex : (iOf x).toNat = x := Int.toNat_natCast x
 refine Sx.if_both (fun hlt => ?_) (fun hlt => ?_)
 ·simp only [Sx.app, Sx.nAdd, Sx.nSub, Sx.nMul, Sx.nPow, Sx.nDiv, Sx.nMod, Sx.iAdd, Sx.iSub, Sx.iMul, Sx.iNeg, Sx.iPow, Sx.iOf, Bool.and_eq_true, Bool.or_eq_true, Sx.iLt_t, Sx.iLt_f, Sx.iLe_t, Sx.iLe_f, Sx.iEq_t, Sx.iEq_f, Sx.iBeq_t, Sx.iBeq_f, Sx.iBne_t, Sx.iBne_f, Nat.ble_eq, Nat.beq_eq, Sx.Cont.n] at hlt
  have hx21 : x < 21 := by omega
  simp only [ex]
  refine Sx.if_true (by rw [hL, show x.blt 21 = true by rw [Nat.blt_eq]; omega]; rfl) ?_
  have hs : fndK L (iSub 1048575 no) (nSub 21 x) x = bif covB L (iSub 1048575 no) x then x else fndK L (iSub 1048575 no) (nSub 21 (x + 1)) (x + 1) := by
   rw [show nSub 21 x = (20 - x) + 1 by simp only [Sx.app, Sx.nAdd, Sx.nSub, Sx.nMul, Sx.nPow, Sx.nDiv, Sx.nMod, Sx.iAdd, Sx.iSub, Sx.iMul, Sx.iNeg, Sx.iPow, Sx.iOf]; omega, show nSub 21 (x + 1) = 20 - x by simp only [Sx.app, Sx.nAdd, Sx.nSub, Sx.nMul, Sx.nPow, Sx.nDiv, Sx.nMod, Sx.iAdd, Sx.iSub, Sx.iMul, Sx.iNeg, Sx.iPow, Sx.iOf]; omega]; rfl
  rw [hs] at c2
  have hc : covB L (iSub 1048575 no) x = (L.getD x []).any fun y => iBeq ((plc y).fdiv (2 ^ x)) ((iSub 1048575 no).fdiv (2 ^ x)) := rfl
  rcases okE_cases (hE x) with he | ⟨y, he, hy⟩
  ·rw [he] at hc ⊢
   replace hc : covB L (iSub 1048575 no) x = false := hc
   rw [hc] at c2
   refine Sx.if_false rfl ?_
   exact ⟨x + 1, ⟨by omega, c2⟩, by simp only [Sx.app, Sx.nAdd, Sx.nSub, Sx.nMul, Sx.nPow, Sx.nDiv, Sx.nMod, Sx.iAdd, Sx.iSub, Sx.iMul, Sx.iNeg, Sx.iPow, Sx.iOf]; omega, ⟨by rw [w1]; rfl, (by first | rfl | trivial), (by first | rfl | trivial), trivial⟩, (by first | rfl | trivial), (by first | rfl | trivial), (by first | rfl | trivial), trivial⟩
  ·rw [he] at hc ⊢
   have q0 : (!([y] : List (List Int)).length.beq 0) = true := rfl
   have q1 : Nat.blt 0 ([y] : List (List Int)).length = true := rfl
   have q2 : (true && Nat.beq 33 33 && Nat.blt 0 ([y] : List (List Int)).length) = true := rfl
   refine Sx.if_true q0 ?_
   refine Sx.if_true q1 ?_
   refine Sx.if_true q1 ?_
   refine Sx.if_true q2 ?_
   have hm : min x 64 = x := Nat.min_eq_left (by omega)
   rw [List.any_cons, List.any_nil, Bool.or_false] at hc
   rw [hm]
   refine Sx.if_both (fun hq => ?_) (fun hq => ?_)
   ·replace hc : covB L (iSub 1048575 no) x = true := hc.trans hq
    rw [hc] at c2
    replace c2 : fndK L (1048575 - no) 21 0 = x := c2
    have hb : getB n no L = true := by rw [hgB, c2, Nat.blt_eq]; exact hx21
    have e : getF W n no L = W.cm (iOf x) (iSub 1048575 no) (AV (hK (([y] : List (List Int)).getD 0 []))) := by
     funext i; unfold getF; rw [hb, c2, he]; rfl
    refine Sx.if_true q1 ?_
    refine Sx.if_true q1 ?_
    refine Sx.if_true q2 ?_
    have q3 : (iLe 0 (iOf x) && iLe (iOf x) 20 && O.isH (AV (hK (([y] : List (List Int)).getD 0 [])))) = true := by
     rw [show (([y] : List (List Int)).getD 0 []) = y from rfl, hy, Bool.and_true]; simp only [Sx.app, Sx.nAdd, Sx.nSub, Sx.nMul, Sx.nPow, Sx.nDiv, Sx.nMod, Sx.iAdd, Sx.iSub, Sx.iMul, Sx.iNeg, Sx.iPow, Sx.iOf, Bool.and_eq_true, Bool.or_eq_true, Sx.iLt_t, Sx.iLt_f, Sx.iLe_t, Sx.iLe_f, Sx.iEq_t, Sx.iEq_f, Sx.iBeq_t, Sx.iBeq_f, Sx.iBne_t, Sx.iBne_f, Nat.ble_eq, Nat.beq_eq, Sx.Cont.n]; omega
    refine Sx.if_true q3 ?_
    rw [hb, e]; exact ⟨⟨rfl, rfl⟩, trivial, trivial⟩
   ·replace hc : covB L (iSub 1048575 no) x = false := hc.trans hq
    rw [hc] at c2
    exact ⟨x + 1, ⟨by omega, c2⟩, by simp only [Sx.app, Sx.nAdd, Sx.nSub, Sx.nMul, Sx.nPow, Sx.nDiv, Sx.nMod, Sx.iAdd, Sx.iSub, Sx.iMul, Sx.iNeg, Sx.iPow, Sx.iOf]; omega, ⟨by rw [w1]; rfl, (by first | rfl | trivial), (by first | rfl | trivial), trivial⟩, (by first | rfl | trivial), (by first | rfl | trivial), (by first | rfl | trivial), trivial⟩
 ·simp only [Sx.app, Sx.nAdd, Sx.nSub, Sx.nMul, Sx.nPow, Sx.nDiv, Sx.nMod, Sx.iAdd, Sx.iSub, Sx.iMul, Sx.iNeg, Sx.iPow, Sx.iOf, Bool.and_eq_true, Bool.or_eq_true, Sx.iLt_t, Sx.iLt_f, Sx.iLe_t, Sx.iLe_f, Sx.iEq_t, Sx.iEq_f, Sx.iBeq_t, Sx.iBeq_f, Sx.iBne_t, Sx.iBne_f, Nat.ble_eq, Nat.beq_eq, Sx.Cont.n] at hlt
  have : x = 21 := by omega
  subst this
  have c3 : fndK L (1048575 - no) 21 0 = 21 := c2
  have hb : getB n no L = false := by rw [hgB, c3]; rfl
  rw [hb, zz hb]; exact ⟨⟨rfl, rfl⟩, trivial, trivial⟩
theorem wpc_get (O : OO) (R : OB) (W : OW) (n : Int) (L : List (List (List Int))) (no : Int) (F : FO O) (hr : R = bO) (hw : W = wO O) (h0 : (iLe 0 n && iLe n 1048576) = true) (h1 : (okL O L) = true) (h2 : (iLe (-9223372036854775808) no) = true) : wpcI Tryd.prog (spW2 O R W) Tryd.f19.ntmps [⟨Nat, [0, 1, 4, 6, 25], [], fun B j => [(26, .v (.int .i64 (j : Int)))], fun B j => [], fun j => j ≤ 21 ∧ fndK L (1048575 - no) 21 0 = fndK L (1048575 - no) (21 - j) j, fun j => 21 - j, 0⟩] (bodyOf Tryd.f19) 0 64 (envP (mks [.robjs 54 [.v] KK 21, .v] [.node [.v (.int .i64 n), .opts L], .v (.int .i64 no)] 0).1 0) (mks [.robjs 54 [.v] KK 21, .v] [.node [.v (.int .i64 n), .opts L], .v (.int .i64 no)] 0).2 (retP Tryd.prog Tryd.f19.results.toList 2 (⟨[.v (.agg (AV (getF W n no L))), .v (.bool (getB n no L))], []⟩ : Post)) :=
 Eq.mpr (by kernel_rfl) (vc_get O R W n L no F hr hw h0 h1 h2)
theorem ok_get (I : Sx.Interp) (hT : Tz I) (O : OO) (hO : O = oo) (R : OB) (hR : R = bO) (W : OW) (hW : W = wO O) : Sx.SpecOK I Tryd.prog 19 (pspec [.robjs 54 [.v] KK 21, .v] false (g_get O R W)) := by
 refine spec_pI (spW2_ok I hT O hO R hR W hW) (by kernel_rfl) (fun ds => match ds with | [.node [.v (.int .i64 n), .opts L], .v (.int .i64 no)] => [⟨Nat, [0, 1, 4, 6, 25], [], fun B j => [(26, .v (.int .i64 (j : Int)))], fun B j => [], fun j => j ≤ 21 ∧ fndK L (1048575 - no) 21 0 = fndK L (1048575 - no) (21 - j) j, fun j => 21 - j, 0⟩] | _ => []) Tryd.func19 (by kernel_rfl) (by kernel_rfl) rfl Tryd.ntmps19 (by decide) ?_ ?_
 ·intro ds p bs F h
  unfold g_get at h
  split at h
  ·rename_i n L no
   simp only [Option.some.injEq, Prod.mk.injEq] at h
   obtain ⟨_, _, rfl⟩ := h
   kernel_rfl
  ·cases h
 ·intro ds bs F hl h
  unfold g_get at h
  split at h
  ·rename_i n L no
   simp only [Option.some.injEq, Prod.mk.injEq, Bool.and_eq_true] at h
   obtain ⟨⟨⟨h0, h1⟩, h2⟩, _, rfl⟩ := h
   exact wpc_get O R W n L no (fo_oo O hO) hR hW (by first | exact h0 | (simp only [Bool.and_eq_true]; exact h0)) (by first | exact h1 | (simp only [Bool.and_eq_true]; exact h1)) (by first | exact h2 | (simp only [Bool.and_eq_true]; exact h2))
  ·cases h
def g_next (O : OO) (R : OB) (W : OW) (ds : List Dt) : Option (Bool × List Bool × (List Bool → Post)) := match ds with
 | [.node [.v (.int .i64 n), .opts L]] => some (true, [], fun _ => ⟨[.v (.int .i64 n)], []⟩)
 | _ => none
set_option maxHeartbeats 4000000 in
theorem vc_next (O : OO) (R : OB) (W : OW) (n : Int) (L : List (List (List Int))) (F : FO O) (hr : R = bO) (hw : W = wO O) :
 Value.int .i64 n = Value.int .i64 n ∧ True ∧ True := by
 exact ⟨rfl, trivial, trivial⟩
theorem wpc_next (O : OO) (R : OB) (W : OW) (n : Int) (L : List (List (List Int))) (F : FO O) (hr : R = bO) (hw : W = wO O) : wpcI Tryd.prog (spW2 O R W) Tryd.f15.ntmps [] (bodyOf Tryd.f15) 0 64 (envP (mks [.robjs 54 [.v] KK 21] [.node [.v (.int .i64 n), .opts L]] 0).1 0) (mks [.robjs 54 [.v] KK 21] [.node [.v (.int .i64 n), .opts L]] 0).2 (retP Tryd.prog Tryd.f15.results.toList 2 (⟨[.v (.int .i64 n)], []⟩ : Post)) :=
 Eq.mpr (by kernel_rfl) (vc_next O R W n L F hr hw)
theorem ok_next (I : Sx.Interp) (hT : Tz I) (O : OO) (hO : O = oo) (R : OB) (hR : R = bO) (W : OW) (hW : W = wO O) : Sx.SpecOK I Tryd.prog 15 (pspec [.robjs 54 [.v] KK 21] false (g_next O R W)) := by
 refine spec_pI (spW2_ok I hT O hO R hR W hW) (by kernel_rfl) (fun ds => match ds with | [.node [.v (.int .i64 n), .opts L]] => [] | _ => []) Tryd.func15 (by kernel_rfl) (by kernel_rfl) rfl Tryd.ntmps15 (by decide) ?_ ?_
 ·intro ds p bs F h
  unfold g_next at h
  split at h
  ·rename_i n L
   simp only [Option.some.injEq, Prod.mk.injEq] at h
   obtain ⟨_, _, rfl⟩ := h
   kernel_rfl
  ·cases h
 ·intro ds bs F hl h
  unfold g_next at h
  split at h
  ·rename_i n L
   simp only [Option.some.injEq, Prod.mk.injEq, Bool.and_eq_true] at h
   obtain ⟨_, _, rfl⟩ := h
   exact wpc_next O R W n L (fo_oo O hO) hR hW 
  ·cases h
def g_size (O : OO) (R : OB) (W : OW) (ds : List Dt) : Option (Bool × List Bool × (List Bool → Post)) := match ds with
 | [.node [.v (.int .i64 n), .opts L]] => some ((okL O L), [], fun _ => ⟨[.v (.int .i64 (stC L 21 : Nat))], []⟩)
 | _ => none
set_option maxHeartbeats 4000000 in
theorem vc_size (O : OO) (R : OB) (W : OW) (n : Int) (L : List (List (List Int))) (F : FO O) (hr : R = bO) (hw : W = wO O) (h1 : (okL O L) = true) :
 (∃ (x : Nat), x ≤ 21 ∧ (Value.int .i64 0 = Value.int .i64 (iOf (stC L x)) ∧ Value.int .i64 0 = Value.int .i64 (iOf x) ∧ True) ∧ L = L ∧ True) ∧ ∀ (x : Nat), x ≤ 21 → If (iLt (iOf x)
  21) (If (L.length.beq 21 && (iOf x).toNat.blt 21) (If (!(L.getD (iOf x).toNat []).length.beq 0) (∃ (x' : Nat), x' ≤ 21 ∧ (nSub 21 x').succ ≤ nSub 21 x ∧ (Value.int .i64
  (IntKind.i64.wrap (iAdd (iOf (stC L x)) 1)) = Value.int .i64 (iOf (stC L x')) ∧ Value.int .i64 (IntKind.i64.wrap (iAdd (iOf x) 1)) = Value.int .i64 (iOf x') ∧ True) ∧ L = L ∧ True)
  (∃ (x' : Nat), x' ≤ 21 ∧ (nSub 21 x').succ ≤ nSub 21 x ∧ (Value.int .i64 (iOf (stC L x)) = Value.int .i64 (iOf (stC L x')) ∧ Value.int .i64 (IntKind.i64.wrap (iAdd (iOf x) 1)) =
  Value.int .i64 (iOf x') ∧ True) ∧ L = L ∧ True)) False) (Value.int .i64 (iOf (stC L x)) = Value.int .i64 (iOf (stC L 21)) ∧ True ∧ True) := by
 obtain ⟨hL, hE⟩ := okL_at h1
 refine ⟨⟨0, Nat.zero_le _, ⟨rfl, rfl, trivial⟩, (by first | rfl | trivial), trivial⟩, fun x hx => ?_⟩
 have w1 : IntKind.i64.wrap (iAdd (iOf x) 1) = ((x + 1 : Nat) : Int) := by simp only [Sx.app, Sx.nAdd, Sx.nSub, Sx.nMul, Sx.nPow, Sx.nDiv, Sx.nMod, Sx.iAdd, Sx.iSub, Sx.iMul, Sx.iNeg, Sx.iPow, Sx.iOf]; rw [IntKind.wrap_i64]; omega
 have ex : (iOf x).toNat = x := Int.toNat_natCast x
 refine Sx.if_both (fun hlt => ?_) (fun hlt => ?_)
 ·simp only [Sx.app, Sx.nAdd, Sx.nSub, Sx.nMul, Sx.nPow, Sx.nDiv, Sx.nMod, Sx.iAdd, Sx.iSub, Sx.iMul, Sx.iNeg, Sx.iPow, Sx.iOf, Bool.and_eq_true, Bool.or_eq_true, Sx.iLt_t, Sx.iLt_f, Sx.iLe_t, Sx.iLe_f, Sx.iEq_t, Sx.iEq_f, Sx.iBeq_t, Sx.iBeq_f, Sx.iBne_t, Sx.iBne_f, Nat.ble_eq, Nat.beq_eq, Sx.Cont.n] at hlt
  have hx21 : x < 21 := by omega
  simp only [ex]
  refine Sx.if_true (by rw [hL, show x.blt 21 = true by rw [Nat.blt_eq]; omega]; rfl) ?_
  have hs := stC_succ hL hE hx21
  have hle := stC_le hL hE x (by omega)
  rcases okE_cases (hE x) with he | ⟨y, he, hy⟩
  ·rw [he] at hs ⊢
   refine Sx.if_false rfl ?_
   exact ⟨x + 1, by omega, by simp only [Sx.app, Sx.nAdd, Sx.nSub, Sx.nMul, Sx.nPow, Sx.nDiv, Sx.nMod, Sx.iAdd, Sx.iSub, Sx.iMul, Sx.iNeg, Sx.iPow, Sx.iOf]; omega, ⟨by rw [hs]; rfl, by rw [w1]; rfl, trivial⟩, (by first | rfl | trivial), trivial⟩
  ·rw [he] at hs ⊢
   refine Sx.if_true rfl ?_
   refine ⟨x + 1, by omega, by simp only [Sx.app, Sx.nAdd, Sx.nSub, Sx.nMul, Sx.nPow, Sx.nDiv, Sx.nMod, Sx.iAdd, Sx.iSub, Sx.iMul, Sx.iNeg, Sx.iPow, Sx.iOf]; omega, ⟨?_, by rw [w1]; rfl, trivial⟩, (by first | rfl | trivial), trivial⟩
   rw [hs]
   have w2 : IntKind.i64.wrap (iAdd (iOf (stC L x)) 1) = ((stC L x + 1 : Nat) : Int) := by simp only [Sx.app, Sx.nAdd, Sx.nSub, Sx.nMul, Sx.nPow, Sx.nDiv, Sx.nMod, Sx.iAdd, Sx.iSub, Sx.iMul, Sx.iNeg, Sx.iPow, Sx.iOf]; rw [IntKind.wrap_i64]; omega
   rw [w2]; rfl
 ·simp only [Sx.app, Sx.nAdd, Sx.nSub, Sx.nMul, Sx.nPow, Sx.nDiv, Sx.nMod, Sx.iAdd, Sx.iSub, Sx.iMul, Sx.iNeg, Sx.iPow, Sx.iOf, Bool.and_eq_true, Bool.or_eq_true, Sx.iLt_t, Sx.iLt_f, Sx.iLe_t, Sx.iLe_f, Sx.iEq_t, Sx.iEq_f, Sx.iBeq_t, Sx.iBeq_f, Sx.iBne_t, Sx.iBne_f, Nat.ble_eq, Nat.beq_eq, Sx.Cont.n] at hlt
  have : x = 21 := by omega
  subst this
  exact ⟨rfl, trivial, trivial⟩
theorem wpc_size (O : OO) (R : OB) (W : OW) (n : Int) (L : List (List (List Int))) (F : FO O) (hr : R = bO) (hw : W = wO O) (h1 : (okL O L) = true) : wpcI Tryd.prog (spW2 O R W) Tryd.f17.ntmps [⟨Nat, [8], [], fun B j => [(2, .v (.int .i64 (stC L j : Nat))), (9, .v (.int .i64 (j : Int)))], fun B j => [], fun j => j ≤ 21, fun j => 21 - j, 0⟩] (bodyOf Tryd.f17) 0 64 (envP (mks [.robjs 54 [.v] KK 21] [.node [.v (.int .i64 n), .opts L]] 0).1 0) (mks [.robjs 54 [.v] KK 21] [.node [.v (.int .i64 n), .opts L]] 0).2 (retP Tryd.prog Tryd.f17.results.toList 2 (⟨[.v (.int .i64 (stC L 21 : Nat))], []⟩ : Post)) :=
 Eq.mpr (by kernel_rfl) (vc_size O R W n L F hr hw h1)
theorem ok_size (I : Sx.Interp) (hT : Tz I) (O : OO) (hO : O = oo) (R : OB) (hR : R = bO) (W : OW) (hW : W = wO O) : Sx.SpecOK I Tryd.prog 17 (pspec [.robjs 54 [.v] KK 21] false (g_size O R W)) := by
 refine spec_pI (spW2_ok I hT O hO R hR W hW) (by kernel_rfl) (fun ds => match ds with | [.node [.v (.int .i64 n), .opts L]] => [⟨Nat, [8], [], fun B j => [(2, .v (.int .i64 (stC L j : Nat))), (9, .v (.int .i64 (j : Int)))], fun B j => [], fun j => j ≤ 21, fun j => 21 - j, 0⟩] | _ => []) Tryd.func17 (by kernel_rfl) (by kernel_rfl) rfl Tryd.ntmps17 (by decide) ?_ ?_
 ·intro ds p bs F h
  unfold g_size at h
  split at h
  ·rename_i n L
   simp only [Option.some.injEq, Prod.mk.injEq] at h
   obtain ⟨_, _, rfl⟩ := h
   kernel_rfl
  ·cases h
 ·intro ds bs F hl h
  unfold g_size at h
  split at h
  ·rename_i n L
   simp only [Option.some.injEq, Prod.mk.injEq, Bool.and_eq_true] at h
   obtain ⟨h1, _, rfl⟩ := h
   exact wpc_size O R W n L (fo_oo O hO) hR hW (by first | exact h1 | (simp only [Bool.and_eq_true]; exact h1))
  ·cases h
def g_sbytes (O : OO) (R : OB) (W : OW) (ds : List Dt) : Option (Bool × List Bool × (List Bool → Post)) := match ds with
 | [.node [.v (.int .i64 n), .opts L]] => some ((iLe 0 n && iLe n 1048576) && (okL O L), [], fun _ => ⟨[.row 2], [(2, .own 5 (.ints .u8 (R.row n ++ bytF L 21)))]⟩)
 | _ => none
set_option maxHeartbeats 4000000 in
theorem vc_sbytes (O : OO) (R : OB) (W : OW) (n : Int) (L : List (List (List Int))) (F : FO O) (hr : R = bO) (hw : W = wO O) (h0 : (iLe 0 n && iLe n 1048576) = true) (h1 : (okL O L) = true) :
 If (Nat.ble 0 1000000 && iLe n 9223372036854775807) ((∃ (x : Nat), x ≤ 21 ∧ (Value.int .i64 0 = Value.int .i64 (iOf x) ∧ True) ∧ EqI (bif iLt n 0 then [] else app [] (R.row n)) (app
  (R.row n) (bytF L x)) ∧ L = L ∧ True) ∧ ∀ (x : Nat), x ≤ 21 → If (iLt (iOf x) 21) (If (L.length.beq 21 && (iOf x).toNat.blt 21) (If (!(L.getD (iOf x).toNat []).length.beq 0) (If
  (Nat.blt 0 (L.getD (iOf x).toNat []).length) (If (Nat.blt 0 (L.getD (iOf x).toNat []).length) (If (true && Nat.beq 33 33 && Nat.blt 0 (L.getD (iOf x).toNat []).length) (If ((app
  (R.row n) (bytF L x)).length.ble 1000000 && O.isH (AV (hK ((L.getD (iOf x).toNat []).getD 0 [])))) (∃ (x' : Nat), x' ≤ 21 ∧ (nSub 21 x').succ ≤ nSub 21 x ∧ (Value.int .i64
  (IntKind.i64.wrap (iAdd (iOf x) 1)) = Value.int .i64 (iOf x') ∧ True) ∧ EqI (app (app (R.row n) (bytF L x)) (tabI (fnA (AV (hK ((L.getD (iOf x).toNat []).getD 0 [])))) 32)) (app
  (R.row n) (bytF L x')) ∧ L = L ∧ True) False) False) False) False) (∃ (x' : Nat), x' ≤ 21 ∧ (nSub 21 x').succ ≤ nSub 21 x ∧ (Value.int .i64 (IntKind.i64.wrap (iAdd (iOf x) 1)) =
  Value.int .i64 (iOf x') ∧ True) ∧ EqI (app (R.row n) (bytF L x)) (app (R.row n) (bytF L x')) ∧ L = L ∧ True)) False) (True ∧ EqI (app (R.row n) (bytF L x)) (app (R.row n) (bytF L
  21)) ∧ True)) False := by
 obtain ⟨hL, hE⟩ := okL_at h1
 simp only [Bool.and_eq_true, Bool.or_eq_true, Sx.iLt_t, Sx.iLt_f, Sx.iLe_t, Sx.iLe_f, Sx.iEq_t, Sx.iEq_f, Sx.iBeq_t, Sx.iBeq_f, Sx.iBne_t, Sx.iBne_f, Nat.ble_eq, Nat.beq_eq, Sx.Cont.n] at h0
 have hr10 := row_len hr n
 obtain ⟨r, hre⟩ : ∃ r, R.row n = r := ⟨_, rfl⟩
 rw [hre] at hr10
 simp only [hre]
 refine Sx.if_true (by simp only [Bool.and_eq_true, Bool.or_eq_true, Sx.iLt_t, Sx.iLt_f, Sx.iLe_t, Sx.iLe_f, Sx.iEq_t, Sx.iEq_f, Sx.iBeq_t, Sx.iBeq_f, Sx.iBne_t, Sx.iBne_f, Nat.ble_eq, Nat.beq_eq, Sx.Cont.n]; omega) ⟨⟨0, Nat.zero_le _, ⟨rfl, trivial⟩, ?_, (by first | rfl | trivial), trivial⟩, fun x hx => ?_⟩
 ·rw [show iLt n 0 = false by simp only [Bool.and_eq_true, Bool.or_eq_true, Sx.iLt_t, Sx.iLt_f, Sx.iLe_t, Sx.iLe_f, Sx.iEq_t, Sx.iEq_f, Sx.iBeq_t, Sx.iBeq_f, Sx.iBne_t, Sx.iBne_f, Nat.ble_eq, Nat.beq_eq, Sx.Cont.n]; omega]
  show r = r ++ []
  rw [List.append_nil]
 have w1 : IntKind.i64.wrap (iAdd (iOf x) 1) = ((x + 1 : Nat) : Int) := by simp only [Sx.app, Sx.nAdd, Sx.nSub, Sx.nMul, Sx.nPow, Sx.nDiv, Sx.nMod, Sx.iAdd, Sx.iSub, Sx.iMul, Sx.iNeg, Sx.iPow, Sx.iOf]; rw [IntKind.wrap_i64]; omega
 have ex : (iOf x).toNat = x := Int.toNat_natCast x
 refine Sx.if_both (fun hlt => ?_) (fun hlt => ?_)
 ·simp only [Sx.app, Sx.nAdd, Sx.nSub, Sx.nMul, Sx.nPow, Sx.nDiv, Sx.nMod, Sx.iAdd, Sx.iSub, Sx.iMul, Sx.iNeg, Sx.iPow, Sx.iOf, Bool.and_eq_true, Bool.or_eq_true, Sx.iLt_t, Sx.iLt_f, Sx.iLe_t, Sx.iLe_f, Sx.iEq_t, Sx.iEq_f, Sx.iBeq_t, Sx.iBeq_f, Sx.iBne_t, Sx.iBne_f, Nat.ble_eq, Nat.beq_eq, Sx.Cont.n] at hlt
  have hx21 : x < 21 := by omega
  simp only [ex]
  refine Sx.if_true (by rw [hL, show x.blt 21 = true by rw [Nat.blt_eq]; omega]; rfl) ?_
  have hs := bytF_succ hL hx21
  have hle := bytF_len hL hE x (by omega)
  rcases okE_cases (hE x) with he | ⟨y, he, hy⟩
  ·rw [he] at hs ⊢
   replace hs : bytF L (x + 1) = bytF L x := hs.trans (List.append_nil _)
   refine Sx.if_false rfl ?_
   exact ⟨x + 1, by omega, by simp only [Sx.app, Sx.nAdd, Sx.nSub, Sx.nMul, Sx.nPow, Sx.nDiv, Sx.nMod, Sx.iAdd, Sx.iSub, Sx.iMul, Sx.iNeg, Sx.iPow, Sx.iOf]; omega, ⟨by rw [w1]; rfl, trivial⟩, by rw [hs], (by first | rfl | trivial), trivial⟩
  ·rw [he] at hs ⊢
   replace hs : bytF L (x + 1) = bytF L x ++ tabI (hK y) 32 := hs.trans (by rw [List.flatMap_cons, List.flatMap_nil, List.append_nil])
   have q0 : (!([y] : List (List Int)).length.beq 0) = true := rfl
   have q1 : Nat.blt 0 ([y] : List (List Int)).length = true := rfl
   have q2 : (true && Nat.beq 33 33 && Nat.blt 0 ([y] : List (List Int)).length) = true := rfl
   refine Sx.if_true q0 ?_
   refine Sx.if_true q1 ?_
   refine Sx.if_true q1 ?_
   refine Sx.if_true q2 ?_
   rw [show (([y] : List (List Int)).getD 0 []) = y from rfl]
   have q3 : ((app r (bytF L x)).length.ble 1000000 && O.isH (AV (hK y))) = true := by
    rw [hy, Bool.and_true, Nat.ble_eq]
    show (r ++ bytF L x).length ≤ _
    rw [List.length_append]; omega
   refine Sx.if_true q3 ?_
   refine ⟨x + 1, by omega, by simp only [Sx.app, Sx.nAdd, Sx.nSub, Sx.nMul, Sx.nPow, Sx.nDiv, Sx.nMod, Sx.iAdd, Sx.iSub, Sx.iMul, Sx.iNeg, Sx.iPow, Sx.iOf]; omega, ⟨by rw [w1]; rfl, trivial⟩, ?_, (by first | rfl | trivial), trivial⟩
   rw [fn_tab, hs]
   show (r ++ bytF L x) ++ tabI (hK y) 32 = r ++ (bytF L x ++ tabI (hK y) 32)
   rw [List.append_assoc]
 ·simp only [Sx.app, Sx.nAdd, Sx.nSub, Sx.nMul, Sx.nPow, Sx.nDiv, Sx.nMod, Sx.iAdd, Sx.iSub, Sx.iMul, Sx.iNeg, Sx.iPow, Sx.iOf, Bool.and_eq_true, Bool.or_eq_true, Sx.iLt_t, Sx.iLt_f, Sx.iLe_t, Sx.iLe_f, Sx.iEq_t, Sx.iEq_f, Sx.iBeq_t, Sx.iBeq_f, Sx.iBne_t, Sx.iBne_f, Nat.ble_eq, Nat.beq_eq, Sx.Cont.n] at hlt
  have : x = 21 := by omega
  subst this
  exact ⟨trivial, rfl, trivial⟩
theorem wpc_sbytes (O : OO) (R : OB) (W : OW) (n : Int) (L : List (List (List Int))) (F : FO O) (hr : R = bO) (hw : W = wO O) (h0 : (iLe 0 n && iLe n 1048576) = true) (h1 : (okL O L) = true) : wpcI Tryd.prog (spW2 O R W) Tryd.f23.ntmps [⟨Nat, [14], [(3, 5, .ints .u8 [])], fun B j => [(3, .row B), (15, .v (.int .i64 (j : Int)))], fun B j => [(B, .own 5 (.ints .u8 (R.row n ++ bytF L j)))], fun j => j ≤ 21, fun j => 21 - j, 0⟩] (bodyOf Tryd.f23) 0 64 (envP (mks [.robjs 54 [.v] KK 21] [.node [.v (.int .i64 n), .opts L]] 0).1 0) (mks [.robjs 54 [.v] KK 21] [.node [.v (.int .i64 n), .opts L]] 0).2 (retP Tryd.prog Tryd.f23.results.toList 2 (⟨[.row 2], [(2, .own 5 (.ints .u8 (R.row n ++ bytF L 21)))]⟩ : Post)) :=
 Eq.mpr (by kernel_rfl) (vc_sbytes O R W n L F hr hw h0 h1)
theorem ok_sbytes (I : Sx.Interp) (hT : Tz I) (O : OO) (hO : O = oo) (R : OB) (hR : R = bO) (W : OW) (hW : W = wO O) : Sx.SpecOK I Tryd.prog 23 (pspec [.robjs 54 [.v] KK 21] false (g_sbytes O R W)) := by
 refine spec_pI (spW2_ok I hT O hO R hR W hW) (by kernel_rfl) (fun ds => match ds with | [.node [.v (.int .i64 n), .opts L]] => [⟨Nat, [14], [(3, 5, .ints .u8 [])], fun B j => [(3, .row B), (15, .v (.int .i64 (j : Int)))], fun B j => [(B, .own 5 (.ints .u8 (R.row n ++ bytF L j)))], fun j => j ≤ 21, fun j => 21 - j, 0⟩] | _ => []) Tryd.func23 (by kernel_rfl) (by kernel_rfl) rfl Tryd.ntmps23 (by decide) ?_ ?_
 ·intro ds p bs F h
  unfold g_sbytes at h
  split at h
  ·rename_i n L
   simp only [Option.some.injEq, Prod.mk.injEq] at h
   obtain ⟨_, _, rfl⟩ := h
   kernel_rfl
  ·cases h
 ·intro ds bs F hl h
  unfold g_sbytes at h
  split at h
  ·rename_i n L
   simp only [Option.some.injEq, Prod.mk.injEq, Bool.and_eq_true] at h
   obtain ⟨⟨h0, h1⟩, _, rfl⟩ := h
   exact wpc_sbytes O R W n L (fo_oo O hO) hR hW (by first | exact h0 | (simp only [Bool.and_eq_true]; exact h0)) (by first | exact h1 | (simp only [Bool.and_eq_true]; exact h1))
  ·cases h
def g_last (O : OO) (R : OB) (W : OW) (ds : List Dt) : Option (Bool × List Bool × (List Bool → Post)) := match ds with
 | [.v (.int .i64 n), .v (.int .i64 h)] => some ((iLe 0 n && iLe n 1048576) && (iLe 0 h && iLe h 20), [], fun _ => ⟨[.v (.int .i64 (lstP n h)), .v (.bool (lstB n h))], []⟩)
 | _ => none
set_option maxHeartbeats 4000000 in
theorem vc_last (O : OO) (R : OB) (W : OW) (n h : Int) (F : FO O) (hr : R = bO) (hw : W = wO O) (h0 : (iLe 0 n && iLe n 1048576) = true) (h1 : (iLe 0 h && iLe h 20) = true) :
 If (iLe (iNeg 1048576) (IntKind.i64.wrap (iSub n 1)) && iLe (IntKind.i64.wrap (iSub n 1)) 1048576) (If (iLt (IntKind.i64.wrap (iAdd h 1)) 0) False (If (iBeq h 20) ((Value.int .i64 0
  = Value.int .i64 (lstP n h) ∧ Value.bool (iBeq (iSub 1048575 (IntKind.i64.wrap (iSub n 1))) 0) = Value.bool (lstB n h)) ∧ True ∧ True) (If (iLt h 0) False (If (decide (IntKind.i64 =
  .i64) && !iEq (IntKind.i64.wrap (iMul 1 (iPow 2 (min (IntKind.i64.wrap (iAdd h 1)).toNat IntKind.i64.bits)))) 0) (If (decide (IntKind.i64 = .i64) && !iEq (IntKind.i64.wrap (iMul 1
  (iPow 2 (min (IntKind.i64.wrap (iAdd h 1)).toNat IntKind.i64.bits)))) 0) ((Value.int .i64 (IntKind.i64.wrap (iAdd (iSub 1048575 (IntKind.i64.wrap (iSub n 1))) ((IntKind.i64.wrap
  (iAdd ((IntKind.i64.wrap (iSub (IntKind.i64.wrap (iMul 1 (iPow 2 (min h.toNat 64)))) (iSub 1048575 (IntKind.i64.wrap (iSub n 1))))).tmod (IntKind.i64.wrap (iMul 1 (iPow 2 (min
  (IntKind.i64.wrap (iAdd h 1)).toNat 64))))) (IntKind.i64.wrap (iMul 1 (iPow 2 (min (IntKind.i64.wrap (iAdd h 1)).toNat 64)))))).tmod (IntKind.i64.wrap (iMul 1 (iPow 2 (min
  (IntKind.i64.wrap (iAdd h 1)).toNat 64))))))) = Value.int .i64 (lstP n h) ∧ Value.bool (iLt (IntKind.i64.wrap (iAdd (iSub 1048575 (IntKind.i64.wrap (iSub n 1))) ((IntKind.i64.wrap
  (iAdd ((IntKind.i64.wrap (iSub (IntKind.i64.wrap (iMul 1 (iPow 2 (min h.toNat IntKind.i64.bits)))) (iSub 1048575 (IntKind.i64.wrap (iSub n 1))))).tmod (IntKind.i64.wrap (iMul 1
  (iPow 2 (min (IntKind.i64.wrap (iAdd h 1)).toNat IntKind.i64.bits))))) (IntKind.i64.wrap (iMul 1 (iPow 2 (min (IntKind.i64.wrap (iAdd h 1)).toNat IntKind.i64.bits)))))).tmod
  (IntKind.i64.wrap (iMul 1 (iPow 2 (min (IntKind.i64.wrap (iAdd h 1)).toNat IntKind.i64.bits))))))) 1048576) = Value.bool (lstB n h)) ∧ True ∧ True) False) False)))) False := by
 simp only [Bool.and_eq_true, Bool.or_eq_true, Sx.iLt_t, Sx.iLt_f, Sx.iLe_t, Sx.iLe_f, Sx.iEq_t, Sx.iEq_f, Sx.iBeq_t, Sx.iBeq_f, Sx.iBne_t, Sx.iBne_f, Nat.ble_eq, Nat.beq_eq, Sx.Cont.n] at h0 h1
 obtain ⟨k, rfl⟩ : ∃ k : Nat, h = (k : Int) := ⟨h.toNat, by omega⟩
 have wn : IntKind.i64.wrap (iSub n 1) = n - 1 := by simp only [Sx.app, Sx.nAdd, Sx.nSub, Sx.nMul, Sx.nPow, Sx.nDiv, Sx.nMod, Sx.iAdd, Sx.iSub, Sx.iMul, Sx.iNeg, Sx.iPow, Sx.iOf]; rw [IntKind.wrap_i64]; omega
 have wk : IntKind.i64.wrap (iAdd (k : Int) 1) = ((k + 1 : Nat) : Int) := by simp only [Sx.app, Sx.nAdd, Sx.nSub, Sx.nMul, Sx.nPow, Sx.nDiv, Sx.nMod, Sx.iAdd, Sx.iSub, Sx.iMul, Sx.iNeg, Sx.iPow, Sx.iOf]; rw [IntKind.wrap_i64]; omega
 rw [wn, wk]
 refine Sx.if_true (by simp only [Sx.app, Sx.nAdd, Sx.nSub, Sx.nMul, Sx.nPow, Sx.nDiv, Sx.nMod, Sx.iAdd, Sx.iSub, Sx.iMul, Sx.iNeg, Sx.iPow, Sx.iOf, Bool.and_eq_true, Bool.or_eq_true, Sx.iLt_t, Sx.iLt_f, Sx.iLe_t, Sx.iLe_f, Sx.iEq_t, Sx.iEq_f, Sx.iBeq_t, Sx.iBeq_f, Sx.iBne_t, Sx.iBne_f, Nat.ble_eq, Nat.beq_eq, Sx.Cont.n]; omega) (Sx.if_false (by simp only [Sx.app, Sx.nAdd, Sx.nSub, Sx.nMul, Sx.nPow, Sx.nDiv, Sx.nMod, Sx.iAdd, Sx.iSub, Sx.iMul, Sx.iNeg, Sx.iPow, Sx.iOf, Bool.and_eq_true, Bool.or_eq_true, Sx.iLt_t, Sx.iLt_f, Sx.iLe_t, Sx.iLe_f, Sx.iEq_t, Sx.iEq_f, Sx.iBeq_t, Sx.iBeq_f, Sx.iBne_t, Sx.iBne_f, Nat.ble_eq, Nat.beq_eq, Sx.Cont.n]; omega) (Sx.if_both (fun h2 => ?_) (fun h2 => Sx.if_false (by simp only [Bool.and_eq_true, Bool.or_eq_true, Sx.iLt_t, Sx.iLt_f, Sx.iLe_t, Sx.iLe_f, Sx.iEq_t, Sx.iEq_f, Sx.iBeq_t, Sx.iBeq_f, Sx.iBne_t, Sx.iBne_f, Nat.ble_eq, Nat.beq_eq, Sx.Cont.n]; omega) ?_)))
 ·have e : lstP n (k : Int) = 0 := by unfold lstP; rw [h2]; rfl
  have e2 : lstB n (k : Int) = iBeq (1048575 - (n - 1)) 0 := by unfold lstB; rw [h2]; rfl
  rw [e, e2]; exact ⟨⟨rfl, rfl⟩, trivial, trivial⟩
 have hb : IntKind.i64.bits = 64 := rfl
 have e : lstP n (k : Int) = (1048575 - (n - 1)) + ((2 ^ k - (1048575 - (n - 1))).tmod (2 ^ (k + 1)) + 2 ^ (k + 1)).tmod (2 ^ (k + 1)) := by unfold lstP; rw [h2, Int.toNat_natCast]; rfl
 have e2 : lstB n (k : Int) = iLt (lstP n (k : Int)) 1048576 := by unfold lstB; rw [h2]; rfl
 simp only [Bool.and_eq_true, Bool.or_eq_true, Sx.iLt_t, Sx.iLt_f, Sx.iLe_t, Sx.iLe_f, Sx.iEq_t, Sx.iEq_f, Sx.iBeq_t, Sx.iBeq_f, Sx.iBne_t, Sx.iBne_f, Nat.ble_eq, Nat.beq_eq, Sx.Cont.n] at h2
 have hk : k < 20 := by omega
 rw [hb, Int.toNat_natCast, Int.toNat_natCast, Nat.min_eq_left (show k + 1 ≤ 64 by omega), Nat.min_eq_left (show k ≤ 64 by omega)]
 rw [e2, e]
 have p1 : (2 : Int) ^ (k + 1) = 2 * 2 ^ k := by rw [Int.pow_succ]; omega
 have p0 : (1 : Int) ≤ 2 ^ k ∧ (2 : Int) ^ k ≤ 524288 := by
  have : k = 0 ∨ k = 1 ∨ k = 2 ∨ k = 3 ∨ k = 4 ∨ k = 5 ∨ k = 6 ∨ k = 7 ∨ k = 8 ∨ k = 9 ∨ k = 10 ∨ k = 11 ∨ k = 12 ∨ k = 13 ∨ k = 14 ∨ k = 15 ∨ k = 16 ∨ k = 17 ∨ k = 18 ∨ k = 19 := by omega
  rcases this with rfl | rfl | rfl | rfl | rfl | rfl | rfl | rfl | rfl | rfl | rfl | rfl | rfl | rfl | rfl | rfl | rfl | rfl | rfl | rfl <;> decide
 obtain ⟨s, hs⟩ : ∃ s : Int, (2 : Int) ^ k = s := ⟨_, rfl⟩
 rw [hs] at p0 p1
 simp only [Sx.app, Sx.nAdd, Sx.nSub, Sx.nMul, Sx.nPow, Sx.nDiv, Sx.nMod, Sx.iAdd, Sx.iSub, Sx.iMul, Sx.iNeg, Sx.iPow, Sx.iOf, p1, hs, Int.one_mul]
 have wa : IntKind.i64.wrap (2 * s) = 2 * s := by rw [IntKind.wrap_i64]; omega
 have wb : IntKind.i64.wrap s = s := by rw [IntKind.wrap_i64]; omega
 rw [wa, wb]
 have wc : IntKind.i64.wrap (s - (1048575 - (n - 1))) = s - (1048575 - (n - 1)) := by rw [IntKind.wrap_i64]; omega
 rw [wc]
 have b1 : (s - (1048575 - (n - 1))).tmod (2 * s) < 2 * s := Int.tmod_lt_of_pos _ (by omega)
 have b2 : -(2 * s) < (s - (1048575 - (n - 1))).tmod (2 * s) := Int.lt_tmod_of_pos _ (by omega)
 obtain ⟨t, ht⟩ : ∃ t, (s - (1048575 - (n - 1))).tmod (2 * s) = t := ⟨_, rfl⟩
 rw [ht] at b1 b2
 rw [ht]
 have wd : IntKind.i64.wrap (t + 2 * s) = t + 2 * s := by rw [IntKind.wrap_i64]; omega
 rw [wd]
 have b3 : (t + 2 * s).tmod (2 * s) < 2 * s := Int.tmod_lt_of_pos _ (by omega)
 have b4 : 0 ≤ (t + 2 * s).tmod (2 * s) := Int.tmod_nonneg _ (by omega)
 obtain ⟨u, hu⟩ : ∃ u, (t + 2 * s).tmod (2 * s) = u := ⟨_, rfl⟩
 rw [hu] at b3 b4
 rw [hu]
 have we : IntKind.i64.wrap (1048575 - (n - 1) + u) = 1048575 - (n - 1) + u := by rw [IntKind.wrap_i64]; omega
 rw [we]
 have q : (decide (IntKind.i64 = IntKind.i64) && !iEq (2 * s) 0) = true := by
  rw [show iEq (2 * s) 0 = false by simp only [Bool.and_eq_true, Bool.or_eq_true, Sx.iLt_t, Sx.iLt_f, Sx.iLe_t, Sx.iLe_f, Sx.iEq_t, Sx.iEq_f, Sx.iBeq_t, Sx.iBeq_f, Sx.iBne_t, Sx.iBne_f, Nat.ble_eq, Nat.beq_eq, Sx.Cont.n]; omega]; rfl
 exact Sx.if_true q (Sx.if_true q ⟨⟨rfl, rfl⟩, trivial, trivial⟩)
theorem wpc_last (O : OO) (R : OB) (W : OW) (n h : Int) (F : FO O) (hr : R = bO) (hw : W = wO O) (h0 : (iLe 0 n && iLe n 1048576) = true) (h1 : (iLe 0 h && iLe h 20) = true) : wpcI Tryd.prog (spW2 O R W) Tryd.f37.ntmps [] (bodyOf Tryd.f37) 0 64 (envP (mks [.v, .v] [.v (.int .i64 n), .v (.int .i64 h)] 0).1 0) (mks [.v, .v] [.v (.int .i64 n), .v (.int .i64 h)] 0).2 (retP Tryd.prog Tryd.f37.results.toList 0 (⟨[.v (.int .i64 (lstP n h)), .v (.bool (lstB n h))], []⟩ : Post)) :=
 Eq.mpr (by kernel_rfl) (vc_last O R W n h F hr hw h0 h1)
theorem ok_last (I : Sx.Interp) (hT : Tz I) (O : OO) (hO : O = oo) (R : OB) (hR : R = bO) (W : OW) (hW : W = wO O) : Sx.SpecOK I Tryd.prog 37 (pspec [.v, .v] false (g_last O R W)) := by
 refine spec_pI (spW2_ok I hT O hO R hR W hW) (by kernel_rfl) (fun ds => match ds with | [.v (.int .i64 n), .v (.int .i64 h)] => [] | _ => []) Tryd.func37 (by kernel_rfl) (by kernel_rfl) rfl Tryd.ntmps37 (by decide) ?_ ?_
 ·intro ds p bs F h
  unfold g_last at h
  split at h
  ·rename_i n h
   simp only [Option.some.injEq, Prod.mk.injEq] at h
   obtain ⟨_, _, rfl⟩ := h
   kernel_rfl
  ·cases h
 ·intro ds bs F hl h
  unfold g_last at h
  split at h
  ·rename_i n h
   simp only [Option.some.injEq, Prod.mk.injEq, Bool.and_eq_true] at h
   obtain ⟨⟨h0, h1⟩, _, rfl⟩ := h
   exact wpc_last O R W n h (fo_oo O hO) hR hW (by first | exact h0 | (simp only [Bool.and_eq_true]; exact h0)) (by first | exact h1 | (simp only [Bool.and_eq_true]; exact h1))
  ·cases h
def spW3 (O : OO) (R : OB) (W : OW) (f : FuncId) : Option Sx.Spec := match f with
 | 9 => some (pspec [.v, .v] false (g_scr O R W))
 | 11 => some (pspec [] true (g_new O R W))
 | 13 => some (pspec [.objs 54 [.v] KK 21, .v, .v] true (g_add O R W))
 | 19 => some (pspec [.robjs 54 [.v] KK 21, .v] false (g_get O R W))
 | 15 => some (pspec [.robjs 54 [.v] KK 21] false (g_next O R W))
 | 17 => some (pspec [.robjs 54 [.v] KK 21] false (g_size O R W))
 | 23 => some (pspec [.robjs 54 [.v] KK 21] false (g_sbytes O R W))
 | 37 => some (pspec [.v, .v] false (g_last O R W))
 | f => spW2 O R W f
theorem spW3_ok (I : Sx.Interp) (hT : Tz I) (O : OO) (hO : O = oo) (R : OB) (hR : R = bO) (W : OW) (hW : W = wO O) : ∀ f s, spW3 O R W f = some s → Sx.SpecOK I Tryd.prog f s := by
 intro f s h
 unfold spW3 at h
 split at h
 · cases h; exact ok_scr I hT O hO R hR W hW
 · cases h; exact ok_new I hT O hO R hR W hW
 · cases h; exact ok_add I hT O hO R hR W hW
 · cases h; exact ok_get I hT O hO R hR W hW
 · cases h; exact ok_next I hT O hO R hR W hW
 · cases h; exact ok_size I hT O hO R hR W hW
 · cases h; exact ok_sbytes I hT O hO R hR W hW
 · cases h; exact ok_last I hT O hO R hR W hW
 ·exact spW2_ok I hT O hO R hR W hW _ s h
end Go.Proofs.YtebffdgghkomjaaDoor
