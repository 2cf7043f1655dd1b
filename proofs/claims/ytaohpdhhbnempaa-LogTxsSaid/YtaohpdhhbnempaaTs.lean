/- LogTxs, plainly: transactions' bytes are bytes; what a log of them keeps. No program in sight. -/
import Derived.Test.YtaohpdhhbnempaaTr
import Derived.Test.YtaohpdhhbnempaaLx
namespace Go.Proofs.Ytaohpdhhbnempaa
open Go Go.RowKit Go.Lib Ckp Cfd Cpd Sx
set_option linter.unusedVariables false
set_option linter.unusedSimpArgs false
theorem u64B_byT (n : Int) : byB (u64B n) = true := by
 rw [byB_iff]
 intro x hx
 have h : ∀ i, 0 ≤ u64A n i ∧ u64A n i < 256 := fun i => by rw [u64A_eq]; omega
 unfold u64B at hx
 simp only [List.mem_cons, List.not_mem_nil, or_false] at hx
 rcases hx with rfl | rfl | rfl | rfl | rfl | rfl | rfl | rfl <;> exact h _
theorem xs_zero {O : OO} (hS : SB O) {R : OB} (hr : R = bO) : lgRows O R [] = [] ∧ lgEnd O R [] = 0 := by
 have k := lg_found hS hr (xs := []) (t := []) (fun x hx => by cases hx) rfl (torn_nil hr)
 exact ⟨k.1, k.2⟩
theorem flat_by {α : Type} {g : α → List Int} : ∀ {l : List α}, (∀ x ∈ l, byB (g x) = true) → byB (l.flatMap g) = true
 | [], _ => rfl
 | x :: l, h => by
  rw [List.flatMap_cons, byB_app, h x (List.mem_cons_self ..), flat_by fun y hy => h y (List.mem_cons_of_mem _ hy)]; rfl
theorem brB_by {O : OO} {R : OB} (hr : R = bO) {v : VB} (h : brOk O v = true) : byB (brB R v) = true := by
 obtain ⟨h1, _, h3, h4, _⟩ := brOk_iff.1 h
 obtain ⟨a0, a1⟩ := hgtO_iff.1 h3
 obtain ⟨d0, d1⟩ := hgtO_iff.1 h4
 unfold brB
 rw [byB_app, byB_app, byB_app, byB_app, byB_row hr (by omega), flat_by fun x _ => u64B_byT x, byB_row hr a0, byB_row hr d0, u64B_byT]; rfl
theorem lkB_by {O : OO} {R : OB} (hr : R = bO) {l : List VB} (h : lkOk O l = true) : byB (lkB R l) = true := by
 obtain ⟨h1, _, _⟩ := lkOk_iff.1 h
 unfold lkB
 rw [byB_app, byB_row hr (by omega), flat_by fun x hx => brB_by hr (List.all_eq_true.1 h1 x hx)]; rfl
theorem txB_by {O : OO} {R : OB} (hr : R = bO) {I : List VI} {U : List VO} {n : Int} (hk : txOk O I U n = true) (hw : txW O I U n = true) : byB (txB R I U n) = true := by
 obtain ⟨k1, k2, k3, k4, k5, k6⟩ := txOk_iff.1 hk
 obtain ⟨w1, w2, w3, w4, w5⟩ := txW_iff.1 hw
 have a : byB (I.flatMap (inP R)) = true := flat_by fun v hv => by
  obtain ⟨_, _, _, _, _, q⟩ := inW_iff.1 (List.all_eq_true.1 w1 v hv)
  obtain ⟨x, hx, rfl⟩ := mem_viAt hv
  unfold inP
  rw [byB_app, q, byB_row hr (txo_in k5 hx).1]; rfl
 have b : byB (U.flatMap (ouP R)) = true := flat_by fun v hv => by
  obtain ⟨x, hx, rfl⟩ := mem_voAt hv
  obtain ⟨q1, q2, q3⟩ := txo_ou k6 hx
  unfold ouP
  rw [byB_app, byB_app, byB_row hr q1, byB_row hr (by omega), lkB_by hr q3]; rfl
 have c : byB (I.flatMap (wiB R)) = true := flat_by fun v hv => by
  obtain ⟨x, hx, rfl⟩ := mem_viAt hv
  obtain ⟨_, _, q1, _, _⟩ := txo_in k5 hx
  unfold wiB
  rw [byB_app, byB_app, byB_app, byB_row hr q1, byB_row hr (by omega), u64B_byT, flat_by fun g _ => (by show byB (u64B _ ++ u64B _) = true; rw [byB_app, u64B_byT, u64B_byT]; rfl)]; rfl
 rw [txB_eq]
 unfold txA txU txT
 simp only [List.drop_zero]
 rw [byB_app, byB_app, byB_app, byB_app, byB_app, byB_row hr (by omega), byB_row hr (by omega), byB_row hr k4, a, b, c]; rfl
def brV (v : VB) : Bool := inUs 18446744073709551616 v.k && inU v.s 18446744073709551616
def inV (O : OO) (v : VI) : Bool := Nat.beq v.h.length 32 && O.isH (Array.mk (v.h.map (Value.int .u8))) && v.g.all sgW && inU v.s 18446744073709551616 && byB v.h
def ouV (v : VO) : Bool := v.b.all brV
def txV (O : OO) (i : List VI) (o : List VO) (n : Int) : Bool := i.all (inV O) && o.all ouV && iLe n 9223372036854775807
def smI (v : VI) : Bool := Nat.ble v.g.length 14
def smB (v : VB) : Bool := Nat.ble v.k.length 14
def smO (v : VO) : Bool := Nat.ble v.b.length 6 && v.b.all smB
def smT (i : List VI) (o : List VO) : Bool := Nat.ble i.length 66 && Nat.ble o.length 66 && i.all smI && o.all smO
theorem smT_iff {i : List VI} {o : List VO} : smT i o = true ↔ i.length ≤ 66 ∧ o.length ≤ 66 ∧ i.all smI = true ∧ o.all smO = true := by
 unfold smT
 simp only [zaT, Nat.ble_eq, and_assoc]
theorem smO_iff {v : VO} : smO v = true ↔ v.b.length ≤ 6 ∧ v.b.all smB = true := by
 unfold smO
 simp only [zaT, Nat.ble_eq]
def isIntT : Value → Bool
 | .int _ _ => true
 | _ => false
theorem eqL_intsT : ∀ l : List Value, l.all isIntT = true → eqL l l = true
 | [], _ => rfl
 | v :: l, h => by
  simp only [List.all_cons, zaT] at h
  cases v <;> simp only [isIntT, Bool.false_eq_true, false_and] at h
  have := eqL_intsT l h.2
  simp [eqL, this]
theorem eqv_intsT (l : List Value) (h : l.all isIntT = true) : eqv (Array.mk l) (Array.mk l) = true := eqL_intsT l h
theorem eqv_AVT (f : Nat → Int) : eqv (AV f) (AV f) = true := eqv_intsT _ (by
 rw [List.all_eq_true]
 intro x hx
 obtain ⟨y, _, rfl⟩ := List.mem_map.1 hx
 rfl)
theorem vbAt_mem {l : List VB} {x : Nat} (h : x < l.length) : vbAt l x ∈ l := by
 unfold vbAt
 rw [List.getD_eq_getElem?_getD, List.getElem?_eq_getElem h]
 exact List.getElem_mem h
theorem and_t {a b : Bool} (h : a = true) (k : b = true) : (a && b) = true := by rw [h, k]; rfl
theorem ble_t {a b : Nat} (h : a ≤ b) : a.ble b = true := by rw [Nat.ble_eq]; exact h
theorem iBeq_r (x : Int) : iBeq x x = true := by simp only [Bz, Sx.Cont.n]
def u8s : Nat → List Dt → Option (List Int × List Dt)
 | 0, l => some ([], l)
 | n + 1, l => match l with
  | .v (.int .u8 x) :: l => match u8s n l with
   | some (xs, r) => some (x :: xs, r)
   | none => none
  | _ => none
def inDt (d : Dt) : Option VI := match d with
 | .node l => match u8s 32 l with
  | some (h, [.v (.int .i64 n), .v (.int .i64 b), .structs g, .v (.int .u64 s)]) => some ⟨h, n, b, g, s⟩
  | _ => none
 | _ => none
theorem u8s_spec : ∀ (n : Nat) (l : List Dt) (h : List Int) (r : List Dt), u8s n l = some (h, r) → h.length = n ∧ l = h.map (fun x => Dt.v (.int .u8 x)) ++ r
 | 0, l, h, r, e => by
  simp only [u8s, zsI, zpI] at e
  obtain ⟨rfl, rfl⟩ := e
  exact ⟨rfl, rfl⟩
 | n + 1, l, h, r, e => by
  unfold u8s at e
  split at e
  ·rename_i x l
   split at e
   ·rename_i xs r' e2
    simp only [zsI, zpI] at e
    obtain ⟨rfl, rfl⟩ := e
    obtain ⟨h1, h2⟩ := u8s_spec n l xs r' e2
    exact ⟨by rw [List.length_cons, h1], by rw [h2]; rfl⟩
   ·cases e
  ·cases e
theorem inDt_spec {d : Dt} {v : VI} (e : inDt d = some v) : v.h.length = 32 ∧ d = .node (v.h.map (fun x => Dt.v (.int .u8 x)) ++ [.v (.int .i64 v.n), .v (.int .i64 v.b), .structs v.g, .v (.int .u64 v.s)]) := by
 unfold inDt at e
 split at e
 ·rename_i l
  split at e
  ·rename_i h n b g s e2
   simp only [zsI] at e
   subst e
   obtain ⟨h1, h2⟩ := u8s_spec 32 l h _ e2
   exact ⟨h1, by rw [h2]⟩
  ·cases e
 ·cases e
theorem list32 {l : List Int} (h : l.length = 32) : ∃ x0 x1 x2 x3 x4 x5 x6 x7 x8 x9 x10 x11 x12 x13 x14 x15 x16 x17 x18 x19 x20 x21 x22 x23 x24 x25 x26 x27 x28 x29 x30 x31, l = [x0, x1, x2, x3, x4, x5, x6, x7, x8, x9, x10, x11, x12, x13, x14, x15, x16, x17, x18, x19, x20, x21, x22, x23, x24, x25, x26, x27, x28, x29, x30, x31] := by
 obtain _ | ⟨x0, l⟩ := l
 ·exact absurd h (by simp)
 obtain _ | ⟨x1, l⟩ := l
 ·exact absurd h (by simp)
 obtain _ | ⟨x2, l⟩ := l
 ·exact absurd h (by simp)
 obtain _ | ⟨x3, l⟩ := l
 ·exact absurd h (by simp)
 obtain _ | ⟨x4, l⟩ := l
 ·exact absurd h (by simp)
 obtain _ | ⟨x5, l⟩ := l
 ·exact absurd h (by simp)
 obtain _ | ⟨x6, l⟩ := l
 ·exact absurd h (by simp)
 obtain _ | ⟨x7, l⟩ := l
 ·exact absurd h (by simp)
 obtain _ | ⟨x8, l⟩ := l
 ·exact absurd h (by simp)
 obtain _ | ⟨x9, l⟩ := l
 ·exact absurd h (by simp)
 obtain _ | ⟨x10, l⟩ := l
 ·exact absurd h (by simp)
 obtain _ | ⟨x11, l⟩ := l
 ·exact absurd h (by simp)
 obtain _ | ⟨x12, l⟩ := l
 ·exact absurd h (by simp)
 obtain _ | ⟨x13, l⟩ := l
 ·exact absurd h (by simp)
 obtain _ | ⟨x14, l⟩ := l
 ·exact absurd h (by simp)
 obtain _ | ⟨x15, l⟩ := l
 ·exact absurd h (by simp)
 obtain _ | ⟨x16, l⟩ := l
 ·exact absurd h (by simp)
 obtain _ | ⟨x17, l⟩ := l
 ·exact absurd h (by simp)
 obtain _ | ⟨x18, l⟩ := l
 ·exact absurd h (by simp)
 obtain _ | ⟨x19, l⟩ := l
 ·exact absurd h (by simp)
 obtain _ | ⟨x20, l⟩ := l
 ·exact absurd h (by simp)
 obtain _ | ⟨x21, l⟩ := l
 ·exact absurd h (by simp)
 obtain _ | ⟨x22, l⟩ := l
 ·exact absurd h (by simp)
 obtain _ | ⟨x23, l⟩ := l
 ·exact absurd h (by simp)
 obtain _ | ⟨x24, l⟩ := l
 ·exact absurd h (by simp)
 obtain _ | ⟨x25, l⟩ := l
 ·exact absurd h (by simp)
 obtain _ | ⟨x26, l⟩ := l
 ·exact absurd h (by simp)
 obtain _ | ⟨x27, l⟩ := l
 ·exact absurd h (by simp)
 obtain _ | ⟨x28, l⟩ := l
 ·exact absurd h (by simp)
 obtain _ | ⟨x29, l⟩ := l
 ·exact absurd h (by simp)
 obtain _ | ⟨x30, l⟩ := l
 ·exact absurd h (by simp)
 obtain _ | ⟨x31, l⟩ := l
 ·exact absurd h (by simp)
 obtain _ | ⟨y, l⟩ := l
 ·exact ⟨x0, x1, x2, x3, x4, x5, x6, x7, x8, x9, x10, x11, x12, x13, x14, x15, x16, x17, x18, x19, x20, x21, x22, x23, x24, x25, x26, x27, x28, x29, x30, x31, rfl⟩
 ·exact absurd h (by simp only [List.length_cons]; omega)
theorem map_atT {α : Type} {f : List DD → α} {l m : List (List DD)} (h : l.map f = m.map f) {x : Nat} (hx : x < l.length) : f (l.getD x []) = f (m.getD x []) := by
 have hl : l.length = m.length := by have := congrArg List.length h; rwa [List.length_map, List.length_map] at this
 have hm : x < m.length := by omega
 have e := congrArg (fun z => z[x]?) h
 simp only [List.getElem?_map, List.getElem?_eq_getElem hx, List.getElem?_eq_getElem hm, Option.map_some, zsI] at e
 rw [List.getD_eq_getElem?_getD, List.getD_eq_getElem?_getD, List.getElem?_eq_getElem hx, List.getElem?_eq_getElem hm]
 exact e
theorem map_lenT {α : Type} {f : List DD → α} {l m : List (List DD)} (h : l.map f = m.map f) : l.length = m.length := by
 have := congrArg List.length h
 rwa [List.length_map, List.length_map] at this
theorem txW_of {O : OO} {i : List VI} {o : List VO} {n : Int} (h : txV O i o n = true) (hs : smT i o = true) : txW O i o n = true := by
 unfold txV at h
 unfold smT at hs
 simp only [zaT, Nat.ble_eq, Bz, Sx.Cont.n] at h hs
 obtain ⟨⟨h1, h2⟩, h3⟩ := h
 obtain ⟨⟨⟨s1, s2⟩, s3⟩, s4⟩ := hs
 refine txW_iff.2 ⟨List.all_eq_true.2 fun v hv => ?_, List.all_eq_true.2 fun v hv => ?_, h3, by omega, by omega⟩
 ·have a := List.all_eq_true.1 h1 v hv
  have b := List.all_eq_true.1 s3 v hv
  unfold inV at a
  unfold smI at b
  simp only [zaT, Nat.ble_eq, Nat.beq_eq] at a b
  obtain ⟨⟨⟨⟨a1, a2⟩, a3⟩, a4⟩, a5⟩ := a
  exact inW_iff.2 ⟨a1, a2, a3, a4, by omega, a5⟩
 ·have a := List.all_eq_true.1 h2 v hv
  have b := List.all_eq_true.1 s4 v hv
  unfold ouV at a
  unfold smO at b
  simp only [zaT, Nat.ble_eq] at b
  refine ouW_iff.2 ⟨List.all_eq_true.2 fun x hx => ?_, by omega⟩
  have c := List.all_eq_true.1 a x hx
  have d := List.all_eq_true.1 b.2 x hx
  unfold brV at c
  unfold smB at d
  simp only [zaT, Nat.ble_eq] at c d
  exact brW_iff.2 ⟨c.1, c.2, by omega⟩
def xI (l : List (List DD)) (k : Nat) : List VI := ((l.getD k []).getD 0 (.n 0)).l.map vI
def xO (l : List (List DD)) (k : Nat) : List VO := ((l.getD k []).getD 1 (.n 0)).l.map vO
def xN (l : List (List DD)) (k : Nat) : Int := ((l.getD k []).getD 2 (.n 0)).i
def xG (O : OO) (R : OB) (l : List (List DD)) (k : Nat) : List Int := txZ O R (xI l k) (xO l k) (xN l k)
def xS (O : OO) (R : OB) (l : List (List DD)) (bu : Int) : Nat → BK
 | 0 => opS O R ⟨lgRows O R [], [], 0, false, 0, false⟩ bu
 | k + 1 => bif Nat.beq (xG O R l k).length 0 then xS O R l bu k else bkN1 O R (xS O R l bu k) (xG O R l k)
def xX (O : OO) (R : OB) (l : List (List DD)) (bu : Int) (k : Nat) : List (List Int) := (xS O R l bu k).X
def xL (O : OO) (R : OB) (l : List (List DD)) (bu : Int) (k : Nat) : List Int := (xS O R l bu k).L
def xB (O : OO) (R : OB) (l : List (List DD)) (bu : Int) (k : Nat) : Int := (xS O R l bu k).B
def xD (O : OO) (R : OB) (l : List (List DD)) (bu : Int) (k : Nat) : Bool := (xS O R l bu k).D
def xE (O : OO) (R : OB) (l : List (List DD)) (bu : Int) (k : Nat) : Int := (xS O R l bu k).N
def xR (O : OO) (R : OB) (l : List (List DD)) (bu : Int) (k : Nat) : Bool := (xS O R l bu k).Br
def xK (O : OO) (R : OB) (l : List (List DD)) (bu : Int) (k : Nat) : Bool := bif Nat.beq (xG O R l k).length 0 then false else iBeq (apE O R (xL O R l bu k) (xB O R l bu k) (xD O R l bu k) (xR O R l bu k) (xE O R l bu k) (xG O R l k)) 0
def xRow (l : List (List DD)) (k : Nat) : List DD := [.s ((l.getD k []).getD 0 (.n 0)).l, .s ((l.getD k []).getD 1 (.n 0)).l, .n ((l.getD k []).getD 2 (.n 0)).i]
def xQ (O : OO) (R : OB) (l : List (List DD)) (bu : Int) : Nat → List (List DD)
 | 0 => []
 | k + 1 => bif xK O R l bu k then xQ O R l bu k ++ [xRow l k] else xQ O R l bu k
def xAll (O : OO) (l : List (List DD)) : Bool := (List.range l.length).all fun j => txV O (xI l j) (xO l j) (xN l j)
def xF (l : List (List DD)) (k : Nat) : Bool := (List.range k).all fun j => smT (xI l j) (xO l j)
theorem xF_le {l : List (List DD)} {k j : Nat} (h : xF l k = true) (hj : j < k) : smT (xI l j) (xO l j) = true := List.all_eq_true.1 h j (List.mem_range.2 hj)
theorem xF_succ {l : List (List DD)} {k : Nat} : xF l (k + 1) = (xF l k && smT (xI l k) (xO l k)) := by
 unfold xF
 rw [List.range_succ, List.all_append]; simp
theorem xAll_at {O : OO} {l : List (List DD)} (h : xAll O l = true) {j : Nat} (hj : j < l.length) : txV O (xI l j) (xO l j) (xN l j) = true := List.all_eq_true.1 h j (List.mem_range.2 hj)
theorem txZ_cases (O : OO) (R : OB) (i : List VI) (o : List VO) (n : Int) : txZ O R i o n = [] ∨ (txOk O i o n = true ∧ txZ O R i o n = txB R i o n) := by
 unfold txZ
 cases txOk O i o n
 ·exact .inl rfl
 ·exact .inr ⟨rfl, rfl⟩
theorem xG_ok {O : OO} {R : OB} (hr : R = bO) {l : List (List DD)} {k : Nat} (hw : txW O (xI l k) (xO l k) (xN l k) = true) : byB (xG O R l k) = true ∧ (xG O R l k).length ≤ 60000 := by
 unfold xG
 rcases txZ_cases O R (xI l k) (xO l k) (xN l k) with e | ⟨e1, e2⟩
 ·rw [e]; exact ⟨rfl, by simp⟩
 ·rw [e2]
  have := txJ_len hr (txW_iff.1 hw).1 e1 (xI l k).length
  exact ⟨txB_by hr e1 hw, by unfold txB; omega⟩
theorem bx_mono {O : OO} {R : OB} {s : BK} {m n : Nat} (h : BkX O R s m) (hm : m ≤ n) : BkX O R s n := ⟨⟨h.ok, Nat.le_trans h.few hm, h.bu, h.torn⟩, h.dead, h.ends⟩
theorem xs_inv {O : OO} (hS : SB O) {R : OB} (hr : R = bO) {l : List (List DD)} (hl : l.length ≤ 12) (ha : xAll O l = true) {bu : Int} (hbu : -9223372036854775808 ≤ bu ∧ bu ≤ 9223372036854775807) : ∀ (k : Nat), k ≤ l.length → xF l k = true → BkX O R (xS O R l bu k) k
 | 0, _, _ => by
  refine ox_inv hS hr (s := ⟨lgRows O R [], [], 0, false, 0, false⟩) (m := 0) ⟨fun x hx => ?_, ?_, (show (-9223372036854775808 : Int) ≤ 0 ∧ (0 : Int) ≤ 9223372036854775807 by decide), [], torn_nil hr, rfl, by simp, ?_, fun _ => ⟨rfl, rfl⟩⟩ hbu
  ·have hx : x ∈ lgRows O R [] := hx
   rw [(xs_zero hS hr).1] at hx; cases hx
  ·show (lgRows O R []).length ≤ 0
   rw [(xs_zero hS hr).1]; exact Nat.le_refl _
  ·show ([] : List Int) = rowsB O R (lgRows O R []) ++ []
   rw [(xs_zero hS hr).1]; rfl
 | k + 1, hk, hF => by
  rw [xF_succ, zaT] at hF
  have ih := xs_inv hS hr hl ha hbu k (by omega) hF.1
  have hg := xG_ok (R := R) hr (txW_of (xAll_at ha (show k < l.length by omega)) hF.2)
  show BkX O R (bif Nat.beq (xG O R l k).length 0 then xS O R l bu k else bkN1 O R (xS O R l bu k) (xG O R l k)) (k + 1)
  cases Nat.beq (xG O R l k).length 0
  ·exact (bx_step hS hr (row_len hr) ih (by omega) hg.1 hg.2).1
  ·exact bx_mono ih (Nat.le_succ k)
theorem xX_succ (O : OO) (R : OB) (l : List (List DD)) (bu : Int) (k : Nat) : xX O R l bu (k + 1) = bif xK O R l bu k then xX O R l bu k ++ [xG O R l k] else xX O R l bu k := by
 unfold xK
 show (bif Nat.beq (xG O R l k).length 0 then xS O R l bu k else bkN1 O R (xS O R l bu k) (xG O R l k)).X = _
 cases Nat.beq (xG O R l k).length 0
 ·rfl
 ·rfl
theorem xq_inv {O : OO} {R : OB} {l : List (List DD)} {bu : Int} (h0 : xX O R l bu 0 = []) : ∀ k : Nat, (xX O R l bu k).length = (xQ O R l bu k).length ∧ ∀ r, r < (xQ O R l bu k).length → ∃ j, j < k ∧ (xQ O R l bu k).getD r [] = xRow l j ∧ (xX O R l bu k).getD r [] = xG O R l j ∧ (xG O R l j).length ≠ 0
 | 0 => ⟨by rw [h0]; rfl, fun r hr => absurd hr (Nat.not_lt_zero _)⟩
 | k + 1 => by
  obtain ⟨ih1, ih2⟩ := xq_inv h0 k
  have eQ : xQ O R l bu (k + 1) = bif xK O R l bu k then xQ O R l bu k ++ [xRow l k] else xQ O R l bu k := rfl
  have eX := xX_succ O R l bu k
  cases hK : xK O R l bu k
  ·rw [hK, cond_false] at eQ eX
   rw [eQ, eX]
   refine ⟨ih1, fun r hr => ?_⟩
   obtain ⟨j, j1, j2⟩ := ih2 r hr
   exact ⟨j, by omega, j2⟩
  ·rw [hK, cond_true] at eQ eX
   rw [eQ, eX, zlA, zlA, ih1]
   refine ⟨rfl, fun r hr => ?_⟩
   rcases Nat.lt_or_ge r (xQ O R l bu k).length with h | h
   ·obtain ⟨j, j1, j2, j3, j4⟩ := ih2 r h
    refine ⟨j, by omega, ?_, ?_, j4⟩
    ·rw [List.getD_eq_getElem?_getD, List.getElem?_append_left h, ← List.getD_eq_getElem?_getD]; exact j2
    ·rw [List.getD_eq_getElem?_getD, List.getElem?_append_left (by omega), ← List.getD_eq_getElem?_getD]; exact j3
   ·have hr : r = (xQ O R l bu k).length := by simp only [List.length_cons, List.length_nil] at hr; omega
    subst hr
    refine ⟨k, by omega, ?_, ?_, fun h0 => ?_⟩
    ·rw [List.getD_eq_getElem?_getD, List.getElem?_append_right (Nat.le_refl _), Nat.sub_self]; rfl
    ·rw [List.getD_eq_getElem?_getD, List.getElem?_append_right (by omega), ih1, Nat.sub_self]; rfl
    ·unfold xK at hK
     rw [show Nat.beq (xG O R l k).length 0 = true by rw [Nat.beq_eq]; exact h0] at hK
     cases hK
end Go.Proofs.Ytaohpdhhbnempaa
