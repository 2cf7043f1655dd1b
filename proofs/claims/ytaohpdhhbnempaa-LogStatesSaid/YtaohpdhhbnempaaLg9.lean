/- LogStates: the walk, by the symbolic machine (printed by genLg9.py; VCs by VcTool). -/
import Derived.Test.YtaohpdhhbnempaaLg3
import Derived.Test.YtaohpdhhbnempaaLw
import Derived.Test.YtaohpdhhbnempaaSbq
import Derived.Test.YtaohpdhhbnempaaSm
import Derived.Test.YtaohpdhhbnempaaDp
namespace Go.Proofs.Ytaohpdhhbnempaa
open Go.RowKit Go.Lib Ckp Cfd Cpd Sx
set_option linter.unusedVariables false
set_option linter.unusedSimpArgs false
set_option maxRecDepth 1000000
/-- A state's shape. -/
def stD : List DS := [.n .i64, .n .i64, .n .i64, .s [.n .i64, .n .i64, .n .i64, .n .u64, .n .i64], .n .i64]
def stAt (l : List (List DD)) (k c : Nat) : Int := ((l.getD k []).getD c (.n 0)).i
def stCs (l : List (List DD)) (k : Nat) : List (List Int) := ((l.getD k []).getD 3 (.n 0)).l.map ddI
/-- A state's row. -/
def lsG (R : OB) (l : List (List DD)) (k : Nat) : List Int := stB R (stAt l k 0) (stAt l k 1) (stAt l k 2) (stAt l k 4) (stCs l k)
def lsS (O : OO) (R : OB) (l : List (List DD)) (bu : Int) : Nat → BK
 | 0 => opS O R ⟨lgRows O R [], [], 0, false, 0, false⟩ bu
 | k + 1 => bif Nat.beq (lsG R l k).length 0 then lsS O R l bu k else bkN1 O R (lsS O R l bu k) (lsG R l k)
def lsX (O : OO) (R : OB) (l : List (List DD)) (bu : Int) (k : Nat) : List (List Int) := (lsS O R l bu k).X
def lsL (O : OO) (R : OB) (l : List (List DD)) (bu : Int) (k : Nat) : List Int := (lsS O R l bu k).L
def lsB (O : OO) (R : OB) (l : List (List DD)) (bu : Int) (k : Nat) : Int := (lsS O R l bu k).B
def lsD (O : OO) (R : OB) (l : List (List DD)) (bu : Int) (k : Nat) : Bool := (lsS O R l bu k).D
def lsN (O : OO) (R : OB) (l : List (List DD)) (bu : Int) (k : Nat) : Int := (lsS O R l bu k).N
def lsR (O : OO) (R : OB) (l : List (List DD)) (bu : Int) (k : Nat) : Bool := (lsS O R l bu k).Br
def lsC (O : OO) (R : OB) (l : List (List DD)) (bu : Int) (k : Nat) : Nat := (lsX O R l bu k).length
/-- Is the k-th one kept, and which one was it last? -/
def lsK (O : OO) (R : OB) (l : List (List DD)) (bu : Int) (k : Nat) : Bool := bif Nat.beq (lsG R l k).length 0 then false else iBeq (apE O R (lsL O R l bu k) (lsB O R l bu k) (lsD O R l bu k) (lsR O R l bu k) (lsN O R l bu k) (lsG R l k)) 0
def lsT (O : OO) (R : OB) (l : List (List DD)) (bu : Int) : Nat → Int
 | 0 => -1
 | k + 1 => bif lsK O R l bu k then (k : Int) else lsT O R l bu k
/-- Have the first ones few conditions? -/
def lsF (l : List (List DD)) (k : Nat) : Bool := (List.range k).all fun j => Nat.ble (stCs l j).length 16
/-- Conditions are conditions. -/
def stAll (l : List (List DD)) : Bool := (List.range l.length).all fun j => pqB (stCs l j)

theorem u64B_by (n : Int) : byB (u64B n) = true := by
 rw [byB_iff]
 intro x hx
 have h : ∀ i, 0 ≤ u64A n i ∧ u64A n i < 256 := fun i => by rw [u64A_eq]; omega
 unfold u64B at hx
 simp only [List.mem_cons, List.not_mem_nil, or_false] at hx
 rcases hx with rfl | rfl | rfl | rfl | rfl | rfl | rfl | rfl <;> exact h _
theorem rowsF_by {R : OB} (hr : R = bO) : ∀ l : List Int, allQ 0 9223372036854775807 l = true → byB (rowsF R l) = true
 | [], _ => rfl
 | x :: l, h => by
  rw [allQ_mem] at h
  have e : rowsF R (x :: l) = R.row x ++ rowsF R l := rfl
  rw [e, byB_app, byB_row hr (h x (List.mem_cons_self ..)).1, rowsF_by hr l (allQ_mem.2 fun y hy => h y (List.mem_cons_of_mem _ hy))]; rfl
theorem cdsF_by {R : OB} (hr : R = bO) : ∀ l : List (List Int), cdsOk l = true → byB (cdsF R l) = true
 | [], _ => rfl
 | x :: l, h => by
  unfold cdsOk at h
  rw [List.all_cons, Bool.and_eq_true] at h
  have e : cdsF R (x :: l) = cdRow R x ++ cdsF R l := rfl
  have e2 : cdRow R x = rowsF R [x.getD 0 0, x.getD 1 0, x.getD 2 0, x.getD 4 0] ++ u64B (x.getD 3 0) := rfl
  rw [e, byB_app, e2, byB_app, rowsF_by hr _ h.1, u64B_by, cdsF_by hr l h.2]; rfl
theorem stB_casesL (R : OB) (no h0 h1 rt : Int) (l : List (List Int)) : stB R no h0 h1 rt l = [] ∨ (allQ 0 9223372036854775807 [no, h0, h1, rt, (l.length : Int)] = true ∧ cdsOk l = true ∧ stB R no h0 h1 rt l = rowsF R [no, h0, h1, rt, (l.length : Int)] ++ cdsF R l) := by
 unfold stB
 cases allQ 0 9223372036854775807 [no, h0, h1, rt, (l.length : Int)]
 ·exact .inl rfl
 ·cases cdsOk l
  ·exact .inl rfl
  ·exact .inr ⟨rfl, rfl, rfl⟩
theorem stB_ok {R : OB} (hr : R = bO) {no h0 h1 rt : Int} {l : List (List Int)} (h : l.length ≤ 16) : byB (stB R no h0 h1 rt l) = true ∧ (stB R no h0 h1 rt l).length ≤ 1000 := by
 rcases stB_casesL R no h0 h1 rt l with e | ⟨e1, e2, e3⟩
 ·rw [e]; exact ⟨rfl, by simp⟩
 ·have a := rowsF_len hr [no, h0, h1, rt, (l.length : Int)]
  have c := cdsF_len hr l
  simp only [List.length_cons, List.length_nil] at a
  rw [e3, byB_app, rowsF_by hr _ e1, cdsF_by hr _ e2, List.length_append]
  exact ⟨rfl, by omega⟩
theorem ls_zero {O : OO} (hS : SB O) {R : OB} (hr : R = bO) : lgRows O R [] = [] ∧ lgEnd O R [] = 0 := by
 have k := lg_found hS hr (xs := []) (t := []) (fun x hx => by cases hx) rfl (torn_nil hr)
 exact ⟨k.1, k.2⟩
theorem lsF_le {l : List (List DD)} {k j : Nat} (h : lsF l k = true) (hj : j < k) : (stCs l j).length ≤ 16 := by
 unfold lsF at h
 rw [List.all_eq_true] at h
 exact Nat.le_of_ble_eq_true (h j (List.mem_range.2 hj))
theorem lsF_succ {l : List (List DD)} {k : Nat} : lsF l (k + 1) = (lsF l k && Nat.ble (stCs l k).length 16) := by
 unfold lsF
 rw [List.range_succ, List.all_append]; simp
theorem bj_mono {O : OO} {R : OB} {s : BK} {m n : Nat} (h : BkJ O R s m) (hm : m ≤ n) : BkJ O R s n := ⟨⟨h.ok, Nat.le_trans h.few hm, h.bu, h.torn⟩, h.dead, h.ends⟩
theorem ls_inv {O : OO} (hS : SB O) {R : OB} (hr : R = bO) {l : List (List DD)} (hl : l.length ≤ 12) {bu : Int} (hbu : -9223372036854775808 ≤ bu ∧ bu ≤ 9223372036854775807) : ∀ (k : Nat), k ≤ l.length → lsF l k = true → BkJ O R (lsS O R l bu k) k
 | 0, _, _ => by
  refine oj_inv hS hr (s := ⟨lgRows O R [], [], 0, false, 0, false⟩) (m := 0) ⟨fun x hx => ?_, ?_, (show (-9223372036854775808 : Int) ≤ 0 ∧ (0 : Int) ≤ 9223372036854775807 by decide), [], torn_nil hr, rfl, by simp, ?_, fun _ => ⟨rfl, rfl⟩⟩ hbu
  ·have hx : x ∈ lgRows O R [] := hx
   rw [(ls_zero hS hr).1] at hx; cases hx
  ·show (lgRows O R []).length ≤ 0
   rw [(ls_zero hS hr).1]; exact Nat.le_refl _
  ·show ([] : List Int) = rowsB O R (lgRows O R []) ++ []
   rw [(ls_zero hS hr).1]; rfl
 | k + 1, hk, hF => by
  rw [lsF_succ, Bool.and_eq_true] at hF
  have ih := ls_inv hS hr hl hbu k (by omega) hF.1
  have hg := stB_ok (R := R) hr (no := stAt l k 0) (h0 := stAt l k 1) (h1 := stAt l k 2) (rt := stAt l k 4) (Nat.le_of_ble_eq_true hF.2)
  show BkJ O R (bif Nat.beq (lsG R l k).length 0 then lsS O R l bu k else bkN1 O R (lsS O R l bu k) (lsG R l k)) (k + 1)
  cases Nat.beq (lsG R l k).length 0
  ·exact (bj_step hS hr (row_len hr) ih (by omega) hg.1 hg.2).1
  ·exact bj_mono ih (Nat.le_succ k)
theorem lsX_succ (O : OO) (R : OB) (l : List (List DD)) (bu : Int) (k : Nat) : lsX O R l bu (k + 1) = bif lsK O R l bu k then lsX O R l bu k ++ [lsG R l k] else lsX O R l bu k := by
 unfold lsK
 show (bif Nat.beq (lsG R l k).length 0 then lsS O R l bu k else bkN1 O R (lsS O R l bu k) (lsG R l k)).X = _
 cases Nat.beq (lsG R l k).length 0
 ·rfl
 ·rfl
theorem ls_last {O : OO} {R : OB} {l : List (List DD)} {bu : Int} (h0 : lsX O R l bu 0 = []) : ∀ k : Nat, 0 < lsC O R l bu k → ∃ j : Nat, lsT O R l bu k = (j : Int) ∧ j < k ∧ (lsX O R l bu k).getD (lsC O R l bu k - 1) [] = lsG R l j ∧ (lsG R l j).length ≠ 0
 | 0, h => by unfold lsC at h; rw [h0] at h; exact absurd h (by decide)
 | k + 1, h => by
  have eT : lsT O R l bu (k + 1) = bif lsK O R l bu k then (k : Int) else lsT O R l bu k := rfl
  have eX := lsX_succ O R l bu k
  cases hK : lsK O R l bu k
  ·rw [hK] at eT eX
   have eX : lsX O R l bu (k + 1) = lsX O R l bu k := eX
   have eT : lsT O R l bu (k + 1) = lsT O R l bu k := eT
   have eC : lsC O R l bu (k + 1) = lsC O R l bu k := by unfold lsC; rw [eX]
   rw [eC] at h
   obtain ⟨j, j1, j2, j3, j4⟩ := ls_last h0 k h
   exact ⟨j, by rw [eT, j1], by omega, by rw [eX, eC]; exact j3, j4⟩
  ·rw [hK] at eT eX
   have eX : lsX O R l bu (k + 1) = lsX O R l bu k ++ [lsG R l k] := eX
   refine ⟨k, eT, by omega, ?_, fun h0 => ?_⟩
   ·unfold lsC
    rw [eX, List.length_append]
    show (lsX O R l bu k ++ [lsG R l k]).getD ((lsX O R l bu k).length + 1 - 1) [] = _
    rw [Nat.add_sub_cancel, List.getD_eq_getElem?_getD, List.getElem?_append_right (Nat.le_refl _), Nat.sub_self]; rfl
   ·unfold lsK at hK
    rw [show Nat.beq (lsG R l k).length 0 = true by rw [Nat.beq_eq]; exact h0] at hK
    cases hK
theorem sameM_refl (no h0 h1 rt : Int) (l : List (List Int)) : sameM no h0 h1 rt l no h0 h1 rt l = true := by
 unfold sameM
 rw [show iBne no no = false by simp only [Sx.Bz, Sx.Cont.n], show iBeq h0 h0 = true by simp only [Sx.Bz, Sx.Cont.n], show iBeq h1 h1 = true by simp only [Sx.Bz, Sx.Cont.n], show iBne rt rt = false by simp only [Sx.Bz, Sx.Cont.n], show iBne (l.length : Int) (l.length : Int) = false by simp only [Sx.Bz, Sx.Cont.n]]
 exact decide_eq_true rfl

def spF0 (O : OO) (R : OB) (f : FuncId) : Option Sx.Spec := match f with
 | 10 => some (pspec [.obj 28 [.own 5 .u8, .v, .v]] true (g_gopen O R))
 | 21 => some (pspec [.robj 28 [.ro .u8, .v, .v], .v] false (g_dagain O R))
 | 22 => some (pspec [.agg [.v, .v, .v, .roS [.i64, .i64, .i64, .u64, .i64], .v]] true (g_stbytes O R))
 | 23 => some (pspec [.ro .u8] true (g_stread O R))
 | 24 => some (pspec [.agg [.v, .v, .v, .roS [.i64, .i64, .i64, .u64, .i64], .v], .agg [.v, .v, .v, .roS [.i64, .i64, .i64, .u64, .i64], .v]] false (g_sameM O R))
 | f => spG4 O R f
theorem spF0_ok (I : Sx.Interp) (O : OO) (hO : O = oo) (R : OB) (hR : R = bO) : ∀ f s, spF0 O R f = some s → Sx.SpecOK I Try.prog f s := by
 intro f s h
 unfold spF0 at h
 split at h
 · cases h; exact ok_gopen I O hO R hR
 · cases h; exact ok_dagain I O hO R hR
 · cases h; exact ok_stbytes I O hO R hR
 · cases h; exact ok_stread I O hO R hR
 · cases h; exact ok_sameM I O hO R hR
 ·exact spG4_ok I O hO R hR _ s h
def g_gstates (O : OO) (R : OB) (ds : List Dt) : Option (Bool × List Bool × (List Bool → Post)) := match ds with
 | [.deep l, .v (.int .i64 bu), .v (.int .i64 mo)] => some ((stAll l) && (iLe (-9223372036854775808) bu && iLe bu 9223372036854775807) && (iLe (-9223372036854775808) mo && iLe mo 9223372036854775807), [], fun _ => ⟨[.v (.bool true)], []⟩)
 | _ => none
set_option maxHeartbeats 4000000 in
theorem vc_gstates (O : OO) (R : OB) (l : List (List DD)) (bu mo : Int) (F : FO O) (hr : R = bO) (hS : SB O) (h0 : (stAll l) = true) (h1 : (iLe (-9223372036854775808) bu && iLe bu 9223372036854775807) = true) (h2 : (iLe (-9223372036854775808) mo && iLe mo 9223372036854775807) = true) :
 If (iLt 12 (iOf l.length)) (Value.bool true = Value.bool true ∧ True ∧ True) ((∃ (x : Nat), (x ≤ l.length ∧ lsF l x = true) ∧ (Value.int .i64 (iNeg 1) = Value.int .i64 (lsT O R l bu
  x) ∧ Value.int .i64 0 = Value.int .i64 (iOf (lsC O R l bu x)) ∧ Value.int .i64 0 = Value.int .i64 (iOf x) ∧ Value.int .i64 bu = Value.int .i64 bu ∧ Value.int .i64 mo = Value.int
  .i64 mo ∧ Value.bool false = Value.bool false ∧ Value.bool true = Value.bool true ∧ True) ∧ (Value.int .i64 bu = Value.int .i64 (lsB O R l bu x) ∧ Value.bool false = Value.bool (lsD
  O R l bu x)) ∧ EqI (List.take (lgEnd O R []) []) (lsL O R l bu x) ∧ (Value.int .i64 (iOf (lgEnd O R [])) = Value.int .i64 (lsN O R l bu x) ∧ Value.bool false = Value.bool (lsR O R l
  bu x)) ∧ EqII (lgRows O R []) (lsX O R l bu x) ∧ Res.deep [DS.n .i64, DS.n .i64, DS.n .i64, DS.s [DS.n .i64, DS.n .i64, DS.n .i64, DS.n .u64, DS.n .i64], DS.n .i64] l = Res.deep
  [DS.n .i64, DS.n .i64, DS.n .i64, DS.s [DS.n .i64, DS.n .i64, DS.n .i64, DS.n .u64, DS.n .i64], DS.n .i64] l ∧ True) ∧ ∀ (x : Nat), x ≤ l.length ∧ lsF l x = true → If (iLt (iOf x)
  (iOf l.length)) (If (iLe 0 (iOf x) && (iOf x).toNat.blt l.length) (If ((iOf x).toNat.blt l.length) (If (true && Nat.beq 5 5 && (iOf x).toNat.blt l.length) (If (iLt 16 (iOf
  (Cont.structs [.i64, .i64, .i64, .u64, .i64] (List.map ddI (ddAt l (iOf x).toNat (nAdd 0 (Array.mk [Field.mk "No" 3 0 false "" "" 0, Field.mk "Have" 50 1 false "" "" 8, Field.mk
  "Conds" 51 3 false "" "" 24, Field.mk "Rate" 3 4 false "" "" 48])[2].offset)).l)).n)) (Value.bool true = Value.bool true ∧ True ∧ True) (If (iLe 0 (iOf x) && (iOf x).toNat.blt
  l.length) (If (true && Nat.beq 5 5 && (iOf x).toNat.blt l.length) (If ((List.map ddI ((l.getD (iOf x).toNat []).getD 3 (DD.n 0)).l).length.ble 1000 && pqB (List.map ddI ((l.getD
  (iOf x).toNat []).getD 3 (DD.n 0)).l)) (If (iLt 0 (iOf (Cont.ints .u8 (stB R ((l.getD (iOf x).toNat []).getD 0 (DD.n 0)).i ((l.getD (iOf x).toNat []).getD (nAdd 0 1) (DD.n 0)).i
  ((l.getD (iOf x).toNat []).getD (nAdd (nAdd 0 1) 1) (DD.n 0)).i ((l.getD (iOf x).toNat []).getD (nAdd (nAdd (nAdd (nAdd 0 1) 1) 1) 1) (DD.n 0)).i (List.map ddI ((l.getD (iOf
  x).toNat []).getD (nAdd (nAdd (nAdd 0 1) 1) 1) (DD.n 0)).l))).n)) (If ((lsL O R l bu x).length.ble 4194304 && (stB R ((l.getD (iOf x).toNat []).getD 0 (DD.n 0)).i ((l.getD (iOf
  x).toNat []).getD 1 (DD.n 0)).i ((l.getD (iOf x).toNat []).getD 2 (DD.n 0)).i ((l.getD (iOf x).toNat []).getD 4 (DD.n 0)).i (List.map ddI ((l.getD (iOf x).toNat []).getD 3 (DD.n
  0)).l)).length.ble 1000000 && (lsX O R l bu x).length.ble 1000000 && (iLe (iNeg 9223372036854775808) (lsB O R l bu x) && iLe (lsB O R l bu x) 9223372036854775807) && (iLe 0 (lsN O R
  l bu x) && iLe (lsN O R l bu x) 4194304)) (If (iBeq (apE O R (lsL O R l bu x) (lsB O R l bu x) (lsD O R l bu x) (lsR O R l bu x) (lsN O R l bu x) (stB R ((l.getD (iOf x).toNat
  []).getD 0 (DD.n 0)).i ((l.getD (iOf x).toNat []).getD 1 (DD.n 0)).i ((l.getD (iOf x).toNat []).getD 2 (DD.n 0)).i ((l.getD (iOf x).toNat []).getD 4 (DD.n 0)).i (List.map ddI
  ((l.getD (iOf x).toNat []).getD 3 (DD.n 0)).l))) 0) (∃ (x' : Nat), (x' ≤ l.length ∧ lsF l x' = true) ∧ (nSub l.length x').succ ≤ nSub l.length x ∧ (Value.int .i64 (iOf x) =
  Value.int .i64 (lsT O R l bu x') ∧ Value.int .i64 (IntKind.i64.wrap (iAdd (iOf (lsC O R l bu x)) 1)) = Value.int .i64 (iOf (lsC O R l bu x')) ∧ Value.int .i64 (IntKind.i64.wrap
  (iAdd (iOf x) 1)) = Value.int .i64 (iOf x') ∧ Value.int .i64 bu = Value.int .i64 bu ∧ Value.int .i64 mo = Value.int .i64 mo ∧ Value.bool false = Value.bool false ∧ Value.bool true =
  Value.bool true ∧ True) ∧ (Value.int .i64 (apB O R (lsL O R l bu x) (lsB O R l bu x) (lsD O R l bu x) (lsR O R l bu x) (lsN O R l bu x) (stB R ((l.getD (iOf x).toNat []).getD 0
  (DD.n 0)).i ((l.getD (iOf x).toNat []).getD 1 (DD.n 0)).i ((l.getD (iOf x).toNat []).getD 2 (DD.n 0)).i ((l.getD (iOf x).toNat []).getD 4 (DD.n 0)).i (List.map ddI ((l.getD (iOf
  x).toNat []).getD 3 (DD.n 0)).l))) = Value.int .i64 (lsB O R l bu x') ∧ Value.bool (apD O R (lsL O R l bu x) (lsB O R l bu x) (lsD O R l bu x) (lsR O R l bu x) (lsN O R l bu x) (stB
  R ((l.getD (iOf x).toNat []).getD 0 (DD.n 0)).i ((l.getD (iOf x).toNat []).getD 1 (DD.n 0)).i ((l.getD (iOf x).toNat []).getD 2 (DD.n 0)).i ((l.getD (iOf x).toNat []).getD 4 (DD.n
  0)).i (List.map ddI ((l.getD (iOf x).toNat []).getD 3 (DD.n 0)).l))) = Value.bool (lsD O R l bu x')) ∧ EqI (apL O R (lsL O R l bu x) (lsB O R l bu x) (lsD O R l bu x) (lsR O R l bu
  x) (lsN O R l bu x) (stB R ((l.getD (iOf x).toNat []).getD 0 (DD.n 0)).i ((l.getD (iOf x).toNat []).getD 1 (DD.n 0)).i ((l.getD (iOf x).toNat []).getD 2 (DD.n 0)).i ((l.getD (iOf
  x).toNat []).getD 4 (DD.n 0)).i (List.map ddI ((l.getD (iOf x).toNat []).getD 3 (DD.n 0)).l))) (lsL O R l bu x') ∧ (Value.int .i64 (apM O R (lsL O R l bu x) (lsB O R l bu x) (lsD O
  R l bu x) (lsR O R l bu x) (lsN O R l bu x) (stB R ((l.getD (iOf x).toNat []).getD 0 (DD.n 0)).i ((l.getD (iOf x).toNat []).getD 1 (DD.n 0)).i ((l.getD (iOf x).toNat []).getD 2
  (DD.n 0)).i ((l.getD (iOf x).toNat []).getD 4 (DD.n 0)).i (List.map ddI ((l.getD (iOf x).toNat []).getD 3 (DD.n 0)).l))) = Value.int .i64 (lsN O R l bu x') ∧ Value.bool (apR O R
  (lsL O R l bu x) (lsB O R l bu x) (lsD O R l bu x) (lsR O R l bu x) (lsN O R l bu x) (stB R ((l.getD (iOf x).toNat []).getD 0 (DD.n 0)).i ((l.getD (iOf x).toNat []).getD 1 (DD.n
  0)).i ((l.getD (iOf x).toNat []).getD 2 (DD.n 0)).i ((l.getD (iOf x).toNat []).getD 4 (DD.n 0)).i (List.map ddI ((l.getD (iOf x).toNat []).getD 3 (DD.n 0)).l))) = Value.bool (lsR O
  R l bu x')) ∧ EqII (apX O R (lsL O R l bu x) (lsB O R l bu x) (lsD O R l bu x) (lsR O R l bu x) (lsN O R l bu x) (stB R ((l.getD (iOf x).toNat []).getD 0 (DD.n 0)).i ((l.getD (iOf
  x).toNat []).getD 1 (DD.n 0)).i ((l.getD (iOf x).toNat []).getD 2 (DD.n 0)).i ((l.getD (iOf x).toNat []).getD 4 (DD.n 0)).i (List.map ddI ((l.getD (iOf x).toNat []).getD 3 (DD.n
  0)).l)) (lsX O R l bu x)) (lsX O R l bu x') ∧ Res.deep [DS.n .i64, DS.n .i64, DS.n .i64, DS.s [DS.n .i64, DS.n .i64, DS.n .i64, DS.n .u64, DS.n .i64], DS.n .i64] l = Res.deep [DS.n
  .i64, DS.n .i64, DS.n .i64, DS.s [DS.n .i64, DS.n .i64, DS.n .i64, DS.n .u64, DS.n .i64], DS.n .i64] l ∧ True) (∃ (x' : Nat), (x' ≤ l.length ∧ lsF l x' = true) ∧ (nSub l.length
  x').succ ≤ nSub l.length x ∧ (Value.int .i64 (lsT O R l bu x) = Value.int .i64 (lsT O R l bu x') ∧ Value.int .i64 (iOf (lsC O R l bu x)) = Value.int .i64 (iOf (lsC O R l bu x')) ∧
  Value.int .i64 (IntKind.i64.wrap (iAdd (iOf x) 1)) = Value.int .i64 (iOf x') ∧ Value.int .i64 bu = Value.int .i64 bu ∧ Value.int .i64 mo = Value.int .i64 mo ∧ Value.bool false =
  Value.bool false ∧ Value.bool true = Value.bool true ∧ True) ∧ (Value.int .i64 (apB O R (lsL O R l bu x) (lsB O R l bu x) (lsD O R l bu x) (lsR O R l bu x) (lsN O R l bu x) (stB R
  ((l.getD (iOf x).toNat []).getD 0 (DD.n 0)).i ((l.getD (iOf x).toNat []).getD 1 (DD.n 0)).i ((l.getD (iOf x).toNat []).getD 2 (DD.n 0)).i ((l.getD (iOf x).toNat []).getD 4 (DD.n
  0)).i (List.map ddI ((l.getD (iOf x).toNat []).getD 3 (DD.n 0)).l))) = Value.int .i64 (lsB O R l bu x') ∧ Value.bool (apD O R (lsL O R l bu x) (lsB O R l bu x) (lsD O R l bu x) (lsR
  O R l bu x) (lsN O R l bu x) (stB R ((l.getD (iOf x).toNat []).getD 0 (DD.n 0)).i ((l.getD (iOf x).toNat []).getD 1 (DD.n 0)).i ((l.getD (iOf x).toNat []).getD 2 (DD.n 0)).i
  ((l.getD (iOf x).toNat []).getD 4 (DD.n 0)).i (List.map ddI ((l.getD (iOf x).toNat []).getD 3 (DD.n 0)).l))) = Value.bool (lsD O R l bu x')) ∧ EqI (apL O R (lsL O R l bu x) (lsB O R
  l bu x) (lsD O R l bu x) (lsR O R l bu x) (lsN O R l bu x) (stB R ((l.getD (iOf x).toNat []).getD 0 (DD.n 0)).i ((l.getD (iOf x).toNat []).getD 1 (DD.n 0)).i ((l.getD (iOf x).toNat
  []).getD 2 (DD.n 0)).i ((l.getD (iOf x).toNat []).getD 4 (DD.n 0)).i (List.map ddI ((l.getD (iOf x).toNat []).getD 3 (DD.n 0)).l))) (lsL O R l bu x') ∧ (Value.int .i64 (apM O R (lsL
  O R l bu x) (lsB O R l bu x) (lsD O R l bu x) (lsR O R l bu x) (lsN O R l bu x) (stB R ((l.getD (iOf x).toNat []).getD 0 (DD.n 0)).i ((l.getD (iOf x).toNat []).getD 1 (DD.n 0)).i
  ((l.getD (iOf x).toNat []).getD 2 (DD.n 0)).i ((l.getD (iOf x).toNat []).getD 4 (DD.n 0)).i (List.map ddI ((l.getD (iOf x).toNat []).getD 3 (DD.n 0)).l))) = Value.int .i64 (lsN O R
  l bu x') ∧ Value.bool (apR O R (lsL O R l bu x) (lsB O R l bu x) (lsD O R l bu x) (lsR O R l bu x) (lsN O R l bu x) (stB R ((l.getD (iOf x).toNat []).getD 0 (DD.n 0)).i ((l.getD
  (iOf x).toNat []).getD 1 (DD.n 0)).i ((l.getD (iOf x).toNat []).getD 2 (DD.n 0)).i ((l.getD (iOf x).toNat []).getD 4 (DD.n 0)).i (List.map ddI ((l.getD (iOf x).toNat []).getD 3
  (DD.n 0)).l))) = Value.bool (lsR O R l bu x')) ∧ EqII (apX O R (lsL O R l bu x) (lsB O R l bu x) (lsD O R l bu x) (lsR O R l bu x) (lsN O R l bu x) (stB R ((l.getD (iOf x).toNat
  []).getD 0 (DD.n 0)).i ((l.getD (iOf x).toNat []).getD 1 (DD.n 0)).i ((l.getD (iOf x).toNat []).getD 2 (DD.n 0)).i ((l.getD (iOf x).toNat []).getD 4 (DD.n 0)).i (List.map ddI
  ((l.getD (iOf x).toNat []).getD 3 (DD.n 0)).l)) (lsX O R l bu x)) (lsX O R l bu x') ∧ Res.deep [DS.n .i64, DS.n .i64, DS.n .i64, DS.s [DS.n .i64, DS.n .i64, DS.n .i64, DS.n .u64,
  DS.n .i64], DS.n .i64] l = Res.deep [DS.n .i64, DS.n .i64, DS.n .i64, DS.s [DS.n .i64, DS.n .i64, DS.n .i64, DS.n .u64, DS.n .i64], DS.n .i64] l ∧ True)) False) (∃ (x' : Nat), (x' ≤
  l.length ∧ lsF l x' = true) ∧ (nSub l.length x').succ ≤ nSub l.length x ∧ (Value.int .i64 (lsT O R l bu x) = Value.int .i64 (lsT O R l bu x') ∧ Value.int .i64 (iOf (lsC O R l bu x))
  = Value.int .i64 (iOf (lsC O R l bu x')) ∧ Value.int .i64 (IntKind.i64.wrap (iAdd (iOf x) 1)) = Value.int .i64 (iOf x') ∧ Value.int .i64 bu = Value.int .i64 bu ∧ Value.int .i64 mo =
  Value.int .i64 mo ∧ Value.bool false = Value.bool false ∧ Value.bool true = Value.bool true ∧ True) ∧ (Value.int .i64 (lsB O R l bu x) = Value.int .i64 (lsB O R l bu x') ∧
  Value.bool (lsD O R l bu x) = Value.bool (lsD O R l bu x')) ∧ EqI (lsL O R l bu x) (lsL O R l bu x') ∧ (Value.int .i64 (lsN O R l bu x) = Value.int .i64 (lsN O R l bu x') ∧
  Value.bool (lsR O R l bu x) = Value.bool (lsR O R l bu x')) ∧ EqII (lsX O R l bu x) (lsX O R l bu x') ∧ Res.deep [DS.n .i64, DS.n .i64, DS.n .i64, DS.s [DS.n .i64, DS.n .i64, DS.n
  .i64, DS.n .u64, DS.n .i64], DS.n .i64] l = Res.deep [DS.n .i64, DS.n .i64, DS.n .i64, DS.s [DS.n .i64, DS.n .i64, DS.n .i64, DS.n .u64, DS.n .i64], DS.n .i64] l ∧ True)) False)
  False) False)) False) False) False) (If ((lsL O R l bu x).length.ble 8388608) (If ((lsL O R l bu x).length.ble 1000000 && byB (lsL O R l bu x)) (If ((lgRows O R (lsL O R l bu
  x)).length.ble 1000000 && (lgRows O R (lsL O R l bu x)).all fun (x : List Int) => x.length.ble 1000000) (If (iBne (iOf (lgRows O R (lsL O R l bu x)).length) (iOf (lsC O R l bu x)))
  (Value.bool false = Value.bool true ∧ True ∧ True) (If (iBeq (iOf (lsC O R l bu x)) 0) (Value.bool true = Value.bool true ∧ True ∧ True) (If (iLe 0 (IntKind.i64.wrap (iSub (iOf (lsC
  O R l bu x)) 1)) && (IntKind.i64.wrap (iSub (iOf (lsC O R l bu x)) 1)).toNat.blt (lgRows O R (lsL O R l bu x)).length) (If (true && !false && Nat.beq 1 1 && Nat.beq 0 0 &&
  (IntKind.i64.wrap (iSub (iOf (lsC O R l bu x)) 1)).toNat.blt (lgRows O R (lsL O R l bu x)).length) (If (((lgRows O R (lsL O R l bu x)).getD (IntKind.i64.wrap (iSub (iOf (lsC O R l
  bu x)) 1)).toNat []).length.ble 1000000) (If (stOk R ((lgRows O R (lsL O R l bu x)).getD (IntKind.i64.wrap (iSub (iOf (lsC O R l bu x)) 1)).toNat [])) (If (iLe 0 (lsT O R l bu x) &&
  (lsT O R l bu x).toNat.blt l.length) (If (true && Nat.beq 5 5 && (lsT O R l bu x).toNat.blt l.length) (If ((snC R ((lgRows O R (lsL O R l bu x)).getD (IntKind.i64.wrap (iSub (iOf
  (lsC O R l bu x)) 1)).toNat [])).length.ble 1000 && pqB (snC R ((lgRows O R (lsL O R l bu x)).getD (IntKind.i64.wrap (iSub (iOf (lsC O R l bu x)) 1)).toNat [])) && (List.map ddI
  ((l.getD (lsT O R l bu x).toNat []).getD 3 (DD.n 0)).l).length.ble 1000 && pqB (List.map ddI ((l.getD (lsT O R l bu x).toNat []).getD 3 (DD.n 0)).l)) (Value.bool (sameM (stNo R
  ((lgRows O R (lsL O R l bu x)).getD (IntKind.i64.wrap (iSub (iOf (lsC O R l bu x)) 1)).toNat [])) (stH0 R ((lgRows O R (lsL O R l bu x)).getD (IntKind.i64.wrap (iSub (iOf (lsC O R l
  bu x)) 1)).toNat [])) (stH1 R ((lgRows O R (lsL O R l bu x)).getD (IntKind.i64.wrap (iSub (iOf (lsC O R l bu x)) 1)).toNat [])) (stRt R ((lgRows O R (lsL O R l bu x)).getD
  (IntKind.i64.wrap (iSub (iOf (lsC O R l bu x)) 1)).toNat [])) (snC R ((lgRows O R (lsL O R l bu x)).getD (IntKind.i64.wrap (iSub (iOf (lsC O R l bu x)) 1)).toNat [])) ((l.getD (lsT
  O R l bu x).toNat []).getD 0 (DD.n 0)).i ((l.getD (lsT O R l bu x).toNat []).getD 1 (DD.n 0)).i ((l.getD (lsT O R l bu x).toNat []).getD 2 (DD.n 0)).i ((l.getD (lsT O R l bu
  x).toNat []).getD 4 (DD.n 0)).i (List.map ddI ((l.getD (lsT O R l bu x).toNat []).getD 3 (DD.n 0)).l)) = Value.bool true ∧ True ∧ True) False) False) False) (Value.bool false =
  Value.bool true ∧ True ∧ True)) False) False) False))) False) False) False)) := by
 simp only [Sx.Bz, Sx.Cont.n] at h1 h2
 have hbu : -9223372036854775808 ≤ bu ∧ bu ≤ 9223372036854775807 := h1
 have z0 := ls_zero (O := O) hS hr
 have x0 : lsX O R l bu 0 = [] := z0.1
 have hR := row_len hr
 have hAll : ∀ j, j < l.length → pqB (stCs l j) = true := fun j hj => by
  unfold stAll at h0
  rw [List.all_eq_true] at h0
  exact h0 j (List.mem_range.2 hj)
 refine Sx.if_both (fun _ => ⟨rfl, trivial, trivial⟩) (fun hl => ?_)
 simp only [Sx.Bz, Sx.Cont.n, Sx.app, Sx.nAdd, Sx.nSub, Sx.nMul, Sx.nPow, Sx.nDiv, Sx.nMod, Sx.iAdd, Sx.iSub, Sx.iMul, Sx.iNeg, Sx.iPow, Sx.iOf] at hl
 have hl : l.length ≤ 12 := by omega
 refine ⟨⟨0, ⟨Nat.zero_le _, rfl⟩, ⟨rfl, ?_, rfl, rfl, rfl, rfl, rfl, trivial⟩, (by repeat' (first | exact True.intro | exact rfl | refine ⟨?_, ?_⟩)), rfl, (by repeat' (first | exact True.intro | exact rfl | refine ⟨?_, ?_⟩)), rfl, rfl, trivial⟩, fun x ⟨x1, x2⟩ => ?_⟩
 ·unfold lsC; rw [x0]; rfl
 have hn : (iOf x).toNat = x := by simp only [Sx.app, Sx.nAdd, Sx.nSub, Sx.nMul, Sx.nPow, Sx.nDiv, Sx.nMod, Sx.iAdd, Sx.iSub, Sx.iMul, Sx.iNeg, Sx.iPow, Sx.iOf, Int.toNat_natCast]
 rw [hn]
 have I := ls_inv hS hr hl hbu x x1 x2
 have g1 : (lsL O R l bu x).length ≤ 1018 * x + 1018 := (oj_len hr hR I.toOtJ).2
 have g2 : (lsX O R l bu x).length ≤ x := I.few
 have g4 : -9223372036854775808 ≤ lsB O R l bu x ∧ lsB O R l bu x ≤ 9223372036854775807 := I.bu
 have g5 : lsN O R l bu x = ((rowsB O R (lsX O R l bu x)).length : Int) := I.ends
 have g6 : (rowsB O R (lsX O R l bu x)).length ≤ 1018 * x := (oj_len hr hR I.toOtJ).1
 refine Sx.if_both (fun d => ?_) (fun d => ?_)
 ·simp only [Sx.Bz, Sx.Cont.n, Sx.app, Sx.nAdd, Sx.nSub, Sx.nMul, Sx.nPow, Sx.nDiv, Sx.nMod, Sx.iAdd, Sx.iSub, Sx.iMul, Sx.iNeg, Sx.iPow, Sx.iOf] at d
  have hx : x < l.length := by omega
  have hb : x.blt l.length = true := by rw [Nat.blt_eq]; exact hx
  have w1 : IntKind.i64.wrap (iAdd (iOf x) 1) = iOf (x + 1) := by simp only [Sx.app, Sx.nAdd, Sx.nSub, Sx.nMul, Sx.nPow, Sx.nDiv, Sx.nMod, Sx.iAdd, Sx.iSub, Sx.iMul, Sx.iNeg, Sx.iPow, Sx.iOf]; rw [IntKind.wrap_i64]; omega
  have p1 := hAll x hx
  rw [hb, w1]
  have b1 : (iLe 0 (iOf x) && true) = true := by simp only [Sx.Bz, Sx.Cont.n, Sx.app, Sx.nAdd, Sx.nSub, Sx.nMul, Sx.nPow, Sx.nDiv, Sx.nMod, Sx.iAdd, Sx.iSub, Sx.iMul, Sx.iNeg, Sx.iPow, Sx.iOf]; exact ⟨by omega, trivial⟩
  refine Sx.if_true b1 (Sx.if_true rfl (Sx.if_true rfl (Sx.if_both (fun _ => ⟨rfl, trivial, trivial⟩) (fun e => Sx.if_true b1 (Sx.if_true rfl ?_)))))
  have e : iLt 16 (iOf (stCs l x).length) = false := e
  simp only [Sx.Bz, Sx.Cont.n, Sx.app, Sx.nAdd, Sx.nSub, Sx.nMul, Sx.nPow, Sx.nDiv, Sx.nMod, Sx.iAdd, Sx.iSub, Sx.iMul, Sx.iNeg, Sx.iPow, Sx.iOf] at e
  have hc16 : (stCs l x).length ≤ 16 := by omega
  have hF : lsF l (x + 1) = true := by rw [lsF_succ, x2]; show Nat.ble _ _ = true; rw [Nat.ble_eq]; exact hc16
  have hg := stB_ok (R := R) hr (no := stAt l x 0) (h0 := stAt l x 1) (h1 := stAt l x 2) (rt := stAt l x 4) hc16
  have hgl : (lsG R l x).length ≤ 1000 := hg.2
  refine Sx.if_true (by show ((stCs l x).length.ble 1000 && pqB (stCs l x)) = true; rw [p1, Bool.and_true, Nat.ble_eq]; omega) (Sx.if_both (fun f => ?_) (fun f => ?_))
  ·have f : iLt 0 (iOf (lsG R l x).length) = true := f
   simp only [Sx.Bz, Sx.Cont.n, Sx.app, Sx.nAdd, Sx.nSub, Sx.nMul, Sx.nPow, Sx.nDiv, Sx.nMod, Sx.iAdd, Sx.iSub, Sx.iMul, Sx.iNeg, Sx.iPow, Sx.iOf] at f
   have hz : Nat.beq (lsG R l x).length 0 = false := by rw [Bool.eq_false_iff, Ne, Nat.beq_eq]; omega
   have eS : lsS O R l bu (x + 1) = bkN1 O R (lsS O R l bu x) (lsG R l x) := by
    show (bif Nat.beq (lsG R l x).length 0 then _ else _) = _
    rw [hz]; rfl
   have eB : lsB O R l bu (x + 1) = apB O R (lsL O R l bu x) (lsB O R l bu x) (lsD O R l bu x) (lsR O R l bu x) (lsN O R l bu x) (lsG R l x) := by
    show (lsS O R l bu (x + 1)).B = _; rw [eS]; rfl
   have eL : lsL O R l bu (x + 1) = apL O R (lsL O R l bu x) (lsB O R l bu x) (lsD O R l bu x) (lsR O R l bu x) (lsN O R l bu x) (lsG R l x) := by
    show (lsS O R l bu (x + 1)).L = _; rw [eS]; rfl
   have eD : lsD O R l bu (x + 1) = apD O R (lsL O R l bu x) (lsB O R l bu x) (lsD O R l bu x) (lsR O R l bu x) (lsN O R l bu x) (lsG R l x) := by
    show (lsS O R l bu (x + 1)).D = _; rw [eS]; rfl
   have eN : lsN O R l bu (x + 1) = apM O R (lsL O R l bu x) (lsB O R l bu x) (lsD O R l bu x) (lsR O R l bu x) (lsN O R l bu x) (lsG R l x) := by
    show (lsS O R l bu (x + 1)).N = _; rw [eS]; rfl
   have eR : lsR O R l bu (x + 1) = apR O R (lsL O R l bu x) (lsB O R l bu x) (lsD O R l bu x) (lsR O R l bu x) (lsN O R l bu x) (lsG R l x) := by
    show (lsS O R l bu (x + 1)).Br = _; rw [eS]; rfl
   have eX : lsX O R l bu (x + 1) = apX O R (lsL O R l bu x) (lsB O R l bu x) (lsD O R l bu x) (lsR O R l bu x) (lsN O R l bu x) (lsG R l x) (lsX O R l bu x) := by
    show (lsS O R l bu (x + 1)).X = _; rw [eS]; rfl
   have eT : lsT O R l bu (x + 1) = bif lsK O R l bu x then (x : Int) else lsT O R l bu x := rfl
   have eX2 := lsX_succ O R l bu x
   have eK : lsK O R l bu x = iBeq (apE O R (lsL O R l bu x) (lsB O R l bu x) (lsD O R l bu x) (lsR O R l bu x) (lsN O R l bu x) (lsG R l x)) 0 := by unfold lsK; rw [hz]; rfl
   rw [show stB R ((l.getD x []).getD 0 (DD.n 0)).i ((l.getD x []).getD 1 (DD.n 0)).i ((l.getD x []).getD 2 (DD.n 0)).i ((l.getD x []).getD 4 (DD.n 0)).i (List.map ddI ((l.getD x []).getD 3 (DD.n 0)).l) = lsG R l x from rfl]
   rw [← eK]
   refine Sx.if_true (by simp only [Sx.Bz, Sx.Cont.n, Sx.app, Sx.nAdd, Sx.nSub, Sx.nMul, Sx.nPow, Sx.nDiv, Sx.nMod, Sx.iAdd, Sx.iSub, Sx.iMul, Sx.iNeg, Sx.iPow, Sx.iOf]; rw [g5]; omega) (Sx.if_both (fun k => ?_) (fun k => ?_))
   ·rw [k] at eT eX2
    have eT : lsT O R l bu (x + 1) = (x : Int) := eT
    have eX2 : lsX O R l bu (x + 1) = lsX O R l bu x ++ [lsG R l x] := eX2
    have eC : lsC O R l bu (x + 1) = lsC O R l bu x + 1 := by unfold lsC; rw [eX2, List.length_append]; rfl
    have hC : lsC O R l bu x ≤ x := g2
    have w2 : IntKind.i64.wrap (iAdd (iOf (lsC O R l bu x)) 1) = iOf (lsC O R l bu x + 1) := by simp only [Sx.app, Sx.nAdd, Sx.nSub, Sx.nMul, Sx.nPow, Sx.nDiv, Sx.nMod, Sx.iAdd, Sx.iSub, Sx.iMul, Sx.iNeg, Sx.iPow, Sx.iOf]; rw [IntKind.wrap_i64]; omega
    refine ⟨x + 1, ⟨hx, hF⟩, by simp only [Sx.app, Sx.nAdd, Sx.nSub, Sx.nMul, Sx.nPow, Sx.nDiv, Sx.nMod, Sx.iAdd, Sx.iSub, Sx.iMul, Sx.iNeg, Sx.iPow, Sx.iOf]; omega, ⟨?_, ?_, rfl, rfl, rfl, rfl, rfl, trivial⟩, ⟨?_, ?_⟩, ?_, ⟨?_, ?_⟩, ?_, rfl, trivial⟩
    ·rw [eT]; rfl
    ·rw [w2, eC]
    ·rw [eB]
    ·rw [eD]
    ·exact eL.symm
    ·rw [eN]
    ·rw [eR]
    ·exact eX.symm
   ·rw [k] at eT eX2
    have eT : lsT O R l bu (x + 1) = lsT O R l bu x := eT
    have eX2 : lsX O R l bu (x + 1) = lsX O R l bu x := eX2
    have eC : lsC O R l bu (x + 1) = lsC O R l bu x := by unfold lsC; rw [eX2]
    refine ⟨x + 1, ⟨hx, hF⟩, by simp only [Sx.app, Sx.nAdd, Sx.nSub, Sx.nMul, Sx.nPow, Sx.nDiv, Sx.nMod, Sx.iAdd, Sx.iSub, Sx.iMul, Sx.iNeg, Sx.iPow, Sx.iOf]; omega, ⟨?_, ?_, rfl, rfl, rfl, rfl, rfl, trivial⟩, ⟨?_, ?_⟩, ?_, ⟨?_, ?_⟩, ?_, rfl, trivial⟩
    ·rw [eT]
    ·rw [eC]
    ·rw [eB]
    ·rw [eD]
    ·exact eL.symm
    ·rw [eN]
    ·rw [eR]
    ·exact eX.symm
  ·have f : iLt 0 (iOf (lsG R l x).length) = false := f
   simp only [Sx.Bz, Sx.Cont.n, Sx.app, Sx.nAdd, Sx.nSub, Sx.nMul, Sx.nPow, Sx.nDiv, Sx.nMod, Sx.iAdd, Sx.iSub, Sx.iMul, Sx.iNeg, Sx.iPow, Sx.iOf] at f
   have hz : Nat.beq (lsG R l x).length 0 = true := by rw [Nat.beq_eq]; omega
   have eS : lsS O R l bu (x + 1) = lsS O R l bu x := by
    show (bif Nat.beq (lsG R l x).length 0 then _ else _) = _
    rw [hz]; rfl
   have eT : lsT O R l bu (x + 1) = lsT O R l bu x := by
    show (bif lsK O R l bu x then _ else _) = _
    rw [show lsK O R l bu x = false by unfold lsK; rw [hz]; rfl]; rfl
   refine ⟨x + 1, ⟨hx, hF⟩, by simp only [Sx.app, Sx.nAdd, Sx.nSub, Sx.nMul, Sx.nPow, Sx.nDiv, Sx.nMod, Sx.iAdd, Sx.iSub, Sx.iMul, Sx.iNeg, Sx.iPow, Sx.iOf]; omega, ⟨?_, ?_, rfl, rfl, rfl, rfl, rfl, trivial⟩, ⟨?_, ?_⟩, ?_, ⟨?_, ?_⟩, ?_, rfl, trivial⟩
   ·rw [eT]
   ·unfold lsC lsX; rw [eS]
   ·unfold lsB; rw [eS]
   ·unfold lsD; rw [eS]
   ·unfold lsL; rw [eS]
   ·unfold lsN; rw [eS]
   ·unfold lsR; rw [eS]
   ·unfold lsX; rw [eS]
 ·simp only [Sx.Bz, Sx.Cont.n, Sx.app, Sx.nAdd, Sx.nSub, Sx.nMul, Sx.nPow, Sx.nDiv, Sx.nMod, Sx.iAdd, Sx.iSub, Sx.iMul, Sx.iNeg, Sx.iPow, Sx.iOf] at d
  obtain rfl : x = l.length := by omega
  have fnd := oj_found hS hr I.toOtJ
  have f1 : lgRows O R (lsL O R l bu l.length) = lsX O R l bu l.length := fnd.1
  have bL : byB (lsL O R l bu l.length) = true := oj_byB hS hr I.toOtJ
  have hall : ((lsX O R l bu l.length).all fun (x : List Int) => x.length.ble 1000000) = true := by
   rw [List.all_eq_true]
   intro y hy
   have : y.length ≤ 1000 := (I.ok y hy).2
   rw [Nat.ble_eq]; omega
  have hlast := ls_last (R := R) x0 l.length
  have hC : lsC O R l bu l.length = (lsX O R l bu l.length).length := rfl
  rw [f1, bL, hall, ← hC]
  obtain ⟨c, hc⟩ : ∃ c, lsC O R l bu l.length = c := ⟨_, rfl⟩
  have hcl : c ≤ l.length := by rw [← hc]; exact g2
  rw [hc] at hlast ⊢
  refine Sx.if_true (by rw [Nat.ble_eq]; omega) (Sx.if_true (by rw [Bool.and_true, Nat.ble_eq]; omega) (Sx.if_true (by rw [Bool.and_true, Nat.ble_eq]; omega) (Sx.if_false (by simp only [Sx.Bz, Sx.Cont.n]) (Sx.if_both (fun _ => ⟨rfl, trivial, trivial⟩) (fun e => ?_)))))
  simp only [Sx.Bz, Sx.Cont.n, Sx.app, Sx.nAdd, Sx.nSub, Sx.nMul, Sx.nPow, Sx.nDiv, Sx.nMod, Sx.iAdd, Sx.iSub, Sx.iMul, Sx.iNeg, Sx.iPow, Sx.iOf] at e
  obtain ⟨j, j1, j2, j3, j4⟩ := hlast (by omega)
  have w2 : IntKind.i64.wrap (iSub (iOf c) 1) = iOf (c - 1) := by simp only [Sx.app, Sx.nAdd, Sx.nSub, Sx.nMul, Sx.nPow, Sx.nDiv, Sx.nMod, Sx.iAdd, Sx.iSub, Sx.iMul, Sx.iNeg, Sx.iPow, Sx.iOf]; rw [IntKind.wrap_i64]; omega
  have w3 : (iOf (c - 1)).toNat = c - 1 := by simp only [Sx.app, Sx.nAdd, Sx.nSub, Sx.nMul, Sx.nPow, Sx.nDiv, Sx.nMod, Sx.iAdd, Sx.iSub, Sx.iMul, Sx.iNeg, Sx.iPow, Sx.iOf, Int.toNat_natCast]
  have b3 : (c - 1).blt c = true := by rw [Nat.blt_eq]; omega
  have hj16 := lsF_le x2 j2
  have hjl : (lsG R l j).length ≤ 1000 := (stB_ok (R := R) hr (no := stAt l j 0) (h0 := stAt l j 1) (h1 := stAt l j 2) (rt := stAt l j 4) hj16).2
  have pj := hAll j j2
  rw [w2, w3, b3, j3, j1]
  have jn : ((j : Int)).toNat = j := Int.toNat_natCast j
  rw [jn]
  have hbj : j.blt l.length = true := by rw [Nat.blt_eq]; exact j2
  obtain ⟨G, hG⟩ : ∃ G, lsG R l j = G := ⟨_, rfl⟩
  have st : stOk R G = true ∧ stNo R G = stAt l j 0 ∧ stH0 R G = stAt l j 1 ∧ stH1 R G = stAt l j 2 ∧ stRt R G = stAt l j 4 ∧ snC R G = stCs l j := by
   rcases stB_casesL R (stAt l j 0) (stAt l j 1) (stAt l j 2) (stAt l j 4) (stCs l j) with q | ⟨q1, q2, _⟩
   ·exact absurd (by rw [show lsG R l j = [] from q]; rfl) j4
   ·exact st_fwd hr q1 q2 pj G hG.symm
  obtain ⟨s1, s2, s3, s4, s5, s6⟩ := st
  rw [hG] at hjl ⊢
  rw [s1, s2, s3, s4, s5, s6, hbj]
  refine Sx.if_true (by simp only [Sx.Bz, Sx.Cont.n, Sx.app, Sx.nAdd, Sx.nSub, Sx.nMul, Sx.nPow, Sx.nDiv, Sx.nMod, Sx.iAdd, Sx.iSub, Sx.iMul, Sx.iNeg, Sx.iPow, Sx.iOf]; exact ⟨by omega, trivial⟩) (Sx.if_true rfl (Sx.if_true (by rw [Nat.ble_eq]; omega) (Sx.if_true rfl (Sx.if_true (by simp only [Sx.Bz, Sx.Cont.n]; exact ⟨by omega, trivial⟩) (Sx.if_true rfl (Sx.if_true ?_ ⟨?_, trivial, trivial⟩))))))
  ·show ((stCs l j).length.ble 1000 && pqB (stCs l j) && (stCs l j).length.ble 1000 && pqB (stCs l j)) = true
   rw [pj, show (stCs l j).length.ble 1000 = true by rw [Nat.ble_eq]; omega]; rfl
  ·show Value.bool (sameM (stAt l j 0) (stAt l j 1) (stAt l j 2) (stAt l j 4) (stCs l j) (stAt l j 0) (stAt l j 1) (stAt l j 2) (stAt l j 4) (stCs l j)) = Value.bool true
   rw [sameM_refl]
theorem wpc_gstates (O : OO) (R : OB) (l : List (List DD)) (bu mo : Int) (F : FO O) (hr : R = bO) (hS : SB O) (h0 : (stAll l) = true) (h1 : (iLe (-9223372036854775808) bu && iLe bu 9223372036854775807) = true) (h2 : (iLe (-9223372036854775808) mo && iLe mo 9223372036854775807) = true) : wpcI Try.prog (spF0 O R) Try.f6.ntmps [⟨Nat, [0, 1, 2, 5, 6, 7, 8, 9], [(100008, 5, .ints .u8 []), (200009, 22, .ints .u8 []), (1000200009, 22, .ints .u8 [])], fun B k => [(11, .v (.int .i64 (lsT O R l bu k))), (12, .v (.int .i64 ((lsC O R l bu k) : Nat))), (13, .v (.int .i64 (k : Nat)))], fun B k => [(576, .blk 28 [.row B, .v (.int .i64 (lsB O R l bu k)), .v (.bool (lsD O R l bu k))]), (B, .own 5 (.ints .u8 (lsL O R l bu k))), (768, .blk 74 [.ptr 576 0, .row (B + 1), .v (.int .i64 (lsN O R l bu k)), .v (.bool (lsR O R l bu k))]), (B + 1, .ownp 22 (B + 2)), (B + 2, .pool (lsX O R l bu k))], fun k => k ≤ l.length ∧ lsF l k = true, fun k => l.length - k, 0⟩] (bodyOf Try.f6) 0 64 (envP (mks [.deep stD, .v, .v] [.deep l, .v (.int .i64 bu), .v (.int .i64 mo)] 0).1 0) (mks [.deep stD, .v, .v] [.deep l, .v (.int .i64 bu), .v (.int .i64 mo)] 0).2 (retP Try.prog Try.f6.results.toList 1 (⟨[.v (.bool true)], []⟩ : Post)) :=
 Eq.mpr (by kernel_rfl) (vc_gstates O R l bu mo F hr hS h0 h1 h2)
theorem ok_gstates (I : Sx.Interp) (O : OO) (hO : O = oo) (R : OB) (hR : R = bO) : Sx.SpecOK I Try.prog 6 (pspec [.deep stD, .v, .v] false (g_gstates O R)) := by
 refine spec_pI (spF0_ok I O hO R hR) (by kernel_rfl) (fun ds => match ds with | [.deep l, .v (.int .i64 bu), .v (.int .i64 mo)] => [⟨Nat, [0, 1, 2, 5, 6, 7, 8, 9], [(100008, 5, .ints .u8 []), (200009, 22, .ints .u8 []), (1000200009, 22, .ints .u8 [])], fun B k => [(11, .v (.int .i64 (lsT O R l bu k))), (12, .v (.int .i64 ((lsC O R l bu k) : Nat))), (13, .v (.int .i64 (k : Nat)))], fun B k => [(576, .blk 28 [.row B, .v (.int .i64 (lsB O R l bu k)), .v (.bool (lsD O R l bu k))]), (B, .own 5 (.ints .u8 (lsL O R l bu k))), (768, .blk 74 [.ptr 576 0, .row (B + 1), .v (.int .i64 (lsN O R l bu k)), .v (.bool (lsR O R l bu k))]), (B + 1, .ownp 22 (B + 2)), (B + 2, .pool (lsX O R l bu k))], fun k => k ≤ l.length ∧ lsF l k = true, fun k => l.length - k, 0⟩] | _ => []) Try.func6 (by kernel_rfl) (by kernel_rfl) rfl Try.ntmps6 (by decide) ?_ ?_
 ·intro ds p bs F h
  unfold g_gstates at h
  split at h
  ·rename_i l bu mo
   simp only [Option.some.injEq, Prod.mk.injEq] at h
   obtain ⟨_, _, rfl⟩ := h
   kernel_rfl
  ·cases h
 ·intro ds bs F hl h
  unfold g_gstates at h
  split at h
  ·rename_i l bu mo
   simp only [Option.some.injEq, Prod.mk.injEq, Bool.and_eq_true] at h
   obtain ⟨⟨⟨h0, h1⟩, h2⟩, _, rfl⟩ := h
   exact wpc_gstates O R l bu mo (fo_oo O hO) hR (by subst hO; exact sb_oo) (by first | exact h0 | (simp only [Bool.and_eq_true]; exact h0)) (by first | exact h1 | (simp only [Bool.and_eq_true]; exact h1)) (by first | exact h2 | (simp only [Bool.and_eq_true]; exact h2))
  ·cases h
end Go.Proofs.Ytaohpdhhbnempaa
