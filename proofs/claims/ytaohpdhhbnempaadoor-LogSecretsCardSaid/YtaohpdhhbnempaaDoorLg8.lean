/- LogSecrets: the walk, by the symbolic machine (printed by genLg8.py; VCs by VcTool). -/
import Derived.Test.YtaohpdhhbnempaaDoorLg3
import Derived.Test.YtaohpdhhbnempaaDoorLu
import Derived.Test.YtaohpdhhbnempaaDoorSs
namespace Go.Proofs.YtaohpdhhbnempaaDoor
open Go.RowKit Go.Lib Ckp Cfd Cpd Sx
set_option linter.unusedVariables false
set_option linter.unusedSimpArgs false
set_option maxRecDepth 1000000
/-- The rows of a seed's secrets. -/
def scL (W : OW) (a : Array Value) (n : Nat) : List (List Int) := (List.range n).map fun (j : Nat) => tabI (secF' W (j : Int) a) 32
/-- The log behind k of them. -/
def seA (O : OO) (R : OB) (W : OW) (a : Array Value) (n : Nat) (bu : Int) (k : Nat) : BK := bkS O R (scL W a n) (opS O R ⟨lgRows O R [], [], 0, false, 0, false⟩ bu) k
def seX (O : OO) (R : OB) (W : OW) (a : Array Value) (n : Nat) (bu : Int) (k : Nat) : List (List Int) := (seA O R W a n bu k).X
def seL (O : OO) (R : OB) (W : OW) (a : Array Value) (n : Nat) (bu : Int) (k : Nat) : List Int := (seA O R W a n bu k).L
def seB (O : OO) (R : OB) (W : OW) (a : Array Value) (n : Nat) (bu : Int) (k : Nat) : Int := (seA O R W a n bu k).B
def seD (O : OO) (R : OB) (W : OW) (a : Array Value) (n : Nat) (bu : Int) (k : Nat) : Bool := (seA O R W a n bu k).D
def seN (O : OO) (R : OB) (W : OW) (a : Array Value) (n : Nat) (bu : Int) (k : Nat) : Int := (seA O R W a n bu k).N
def seR (O : OO) (R : OB) (W : OW) (a : Array Value) (n : Nat) (bu : Int) (k : Nat) : Bool := (seA O R W a n bu k).Br
/-- How many are kept. -/
def seC (O : OO) (R : OB) (W : OW) (a : Array Value) (n : Nat) (bu : Int) (k : Nat) : Nat := (seX O R W a n bu k).length
theorem scL_len {W : OW} {a : Array Value} {n : Nat} : (scL W a n).length = n := by simp [scL]
theorem scL_get {W : OW} {a : Array Value} {n k : Nat} (h : k < n) : (scL W a n).getD k [] = tabI (secF' W (k : Int) a) 32 := by
 unfold scL
 rw [List.getD_eq_getElem?_getD, List.getElem?_map, List.getElem?_range h]; rfl
theorem se_zero {O : OO} (hS : SB O) {R : OB} (hr : R = bO) : lgRows O R [] = [] ∧ lgEnd O R [] = 0 := by
 have h : OtI O R ⟨[], [], 0, false, 0, false⟩ 0 := ⟨fun x hx => (by cases hx), Nat.le_refl _, (show (-9223372036854775808 : Int) ≤ 0 ∧ (0 : Int) ≤ 9223372036854775807 by decide), [], torn_nil hr, rfl, by simp, rfl, fun _ => ⟨rfl, rfl⟩⟩
 have := ot_found hS hr h
 exact ⟨this.1, this.2.1⟩
theorem se_inv {O : OO} (hS : SB O) {R : OB} (hr : R = bO) (hR : ∀ n : Int, (R.row n).length ≤ 10) {W : OW} {a : Array Value} (hB : ∀ j : Int, byB (tabI (secF' W j a) 32) = true) {n : Nat} (hn : n ≤ 40) {bu : Int} (hbu : -9223372036854775808 ≤ bu ∧ bu ≤ 9223372036854775807) (k : Nat) (hk : k ≤ n) : BkI O R (seA O R W a n bu k) k := by
 have h : OtI O R ⟨lgRows O R [], [], 0, false, 0, false⟩ 0 := by
  rw [(se_zero hS hr).1]
  exact ⟨fun x hx => (by cases hx), Nat.le_refl _, (show (-9223372036854775808 : Int) ≤ 0 ∧ (0 : Int) ≤ 9223372036854775807 by decide), [], torn_nil hr, rfl, by simp, rfl, fun _ => ⟨rfl, rfl⟩⟩
 have hl : ∀ x ∈ scL W a n, byB x = true ∧ x.length ≤ 100 := fun x hx => by
  unfold scL at hx
  obtain ⟨j, _, rfl⟩ := List.mem_map.1 hx
  exact ⟨hB _, by rw [tab32]; decide⟩
 have := bk_inv hS hr hR hl (op_inv hS hr h hbu) (by rw [scL_len]; omega) k (by rw [scL_len]; exact hk)
 rwa [Nat.zero_add] at this
/-- What is kept: the first ones; all, if the disk has not stopped. -/
theorem se_pre {O : OO} (hS : SB O) {R : OB} (hr : R = bO) (hR : ∀ n : Int, (R.row n).length ≤ 10) {W : OW} {a : Array Value} (hB : ∀ j : Int, byB (tabI (secF' W j a) 32) = true) {n : Nat} (hn : n ≤ 40) {bu : Int} (hbu : -9223372036854775808 ≤ bu ∧ bu ≤ 9223372036854775807) : ∀ (k : Nat), k ≤ n →
  seX O R W a n bu k = (scL W a n).take (seC O R W a n bu k) ∧ seC O R W a n bu k ≤ k ∧ (seD O R W a n bu k = false → seC O R W a n bu k = k)
 | 0, _ => by
  have e : seX O R W a n bu 0 = [] := (se_zero hS hr).1
  refine ⟨?_, ?_, fun _ => ?_⟩
  ·unfold seC; rw [e]; rfl
  ·unfold seC; rw [e]; exact Nat.le_refl _
  ·unfold seC; rw [e]; rfl
 | k + 1, hk => by
  obtain ⟨i1, i2, i3⟩ := se_pre hS hr hR hB hn hbu k (by omega)
  have I := se_inv hS hr hR hB hn hbu k (by omega)
  have hg := scL_get (W := W) (a := a) (n := n) (k := k) (by omega)
  have st := (bk_step hS hr hR I (by omega) (b := (scL W a n).getD k []) (by rw [hg]; exact hB _) (by rw [hg, tab32]; decide)).2
  have eX : seX O R W a n bu (k + 1) = bif iBeq (apE O R (seL O R W a n bu k) (seB O R W a n bu k) (seD O R W a n bu k) (seR O R W a n bu k) (seN O R W a n bu k) ((scL W a n).getD k [])) 0 then seX O R W a n bu k ++ [(scL W a n).getD k []] else seX O R W a n bu k := rfl
  have eD : seD O R W a n bu (k + 1) = apD O R (seL O R W a n bu k) (seB O R W a n bu k) (seD O R W a n bu k) (seR O R W a n bu k) (seN O R W a n bu k) ((scL W a n).getD k []) := rfl
  cases hd : seD O R W a n bu k
  ·have ck := i3 hd
   rcases st with E | ⟨E, E2⟩
   ·have E : apE O R (seL O R W a n bu k) (seB O R W a n bu k) (seD O R W a n bu k) (seR O R W a n bu k) (seN O R W a n bu k) ((scL W a n).getD k []) = 0 := E
    rw [E] at eX
    have eX : seX O R W a n bu (k + 1) = seX O R W a n bu k ++ [(scL W a n).getD k []] := eX
    have c1 : seC O R W a n bu (k + 1) = k + 1 := by
     show (seX O R W a n bu (k + 1)).length = k + 1
     rw [eX, List.length_append]
     have : (seX O R W a n bu k).length = k := ck
     rw [this]; rfl
    refine ⟨?_, by omega, fun _ => c1⟩
    rw [c1, eX, i1, ck, List.take_add_one, List.getElem?_eq_getElem (show k < (scL W a n).length by rw [scL_len]; omega), List.getD_eq_getElem?_getD, List.getElem?_eq_getElem (show k < (scL W a n).length by rw [scL_len]; omega)]
    rfl
   ·have E : apE O R (seL O R W a n bu k) (seB O R W a n bu k) (seD O R W a n bu k) (seR O R W a n bu k) (seN O R W a n bu k) ((scL W a n).getD k []) = 21 := E
    rw [E] at eX
    have eX : seX O R W a n bu (k + 1) = seX O R W a n bu k := eX
    have c1 : seC O R W a n bu (k + 1) = seC O R W a n bu k := by unfold seC; rw [eX]
    refine ⟨by rw [eX, c1]; exact i1, by omega, fun h => ?_⟩
    rw [eD] at h
    rw [show apD O R (seL O R W a n bu k) (seB O R W a n bu k) (seD O R W a n bu k) (seR O R W a n bu k) (seN O R W a n bu k) ((scL W a n).getD k []) = true from E2] at h
    cases h
  ·have E : apE O R (seL O R W a n bu k) (seB O R W a n bu k) (seD O R W a n bu k) (seR O R W a n bu k) (seN O R W a n bu k) ((scL W a n).getD k []) = 21 := by
    unfold apE; rw [hd]; cases seR O R W a n bu k <;> rfl
   rw [E] at eX
   have eX : seX O R W a n bu (k + 1) = seX O R W a n bu k := eX
   have c1 : seC O R W a n bu (k + 1) = seC O R W a n bu k := by unfold seC; rw [eX]
   refine ⟨by rw [eX, c1]; exact i1, by omega, fun h => ?_⟩
   rw [eD] at h
   have : apD O R (seL O R W a n bu k) (seB O R W a n bu k) (seD O R W a n bu k) (seR O R W a n bu k) (seN O R W a n bu k) ((scL W a n).getD k []) = true := by
    unfold apD apW; rw [hd]; cases seR O R W a n bu k <;> rfl
   rw [this] at h; cases h
/-- A row more. -/
theorem se_step {O : OO} (hS : SB O) {R : OB} (hr : R = bO) (hR : ∀ n : Int, (R.row n).length ≤ 10) {W : OW} {a : Array Value} (hB : ∀ j : Int, byB (tabI (secF' W j a) 32) = true) {n : Nat} (hn : n ≤ 40) {bu : Int} (hbu : -9223372036854775808 ≤ bu ∧ bu ≤ 9223372036854775807) (k : Nat) (hk : k < n) :
  (iBeq (apE O R (seL O R W a n bu k) (seB O R W a n bu k) (seD O R W a n bu k) (seR O R W a n bu k) (seN O R W a n bu k) ((scL W a n).getD k [])) 0 = true → seC O R W a n bu k = k ∧ seC O R W a n bu (k + 1) = k + 1) ∧
  (iBeq (apE O R (seL O R W a n bu k) (seB O R W a n bu k) (seD O R W a n bu k) (seR O R W a n bu k) (seN O R W a n bu k) ((scL W a n).getD k [])) 0 = false → seC O R W a n bu (k + 1) = seC O R W a n bu k) := by
 obtain ⟨i1, i2, i3⟩ := se_pre hS hr hR hB hn hbu k (by omega)
 have eX : seX O R W a n bu (k + 1) = bif iBeq (apE O R (seL O R W a n bu k) (seB O R W a n bu k) (seD O R W a n bu k) (seR O R W a n bu k) (seN O R W a n bu k) ((scL W a n).getD k [])) 0 then seX O R W a n bu k ++ [(scL W a n).getD k []] else seX O R W a n bu k := rfl
 refine ⟨fun h => ?_, fun h => ?_⟩
 ·have ck : seC O R W a n bu k = k := by
   cases hd : seD O R W a n bu k
   ·exact i3 hd
   ·exfalso
    have E : apE O R (seL O R W a n bu k) (seB O R W a n bu k) (seD O R W a n bu k) (seR O R W a n bu k) (seN O R W a n bu k) ((scL W a n).getD k []) = 21 := by
     unfold apE; rw [hd]; cases seR O R W a n bu k <;> rfl
    rw [E] at h; cases h
  rw [h, cond_true] at eX
  refine ⟨ck, ?_⟩
  show (seX O R W a n bu (k + 1)).length = k + 1
  rw [eX, List.length_append]
  have : (seX O R W a n bu k).length = k := ck
  rw [this]; rfl
 ·rw [h, cond_false] at eX
  unfold seC; rw [eX]
theorem hsh_tab (m : Nat → Int) : AV (hsh (tabI m 32) false) = AV m := by kernel_rfl
theorem isH_sec {O : OO} (F : FO O) {W : OW} (hw : W = wO O) {s : Nat → Int} (h : O.isH (AV s) = true) {j : Int} (hj : secB j = false) : O.isH (AV (secF' W j (AV s))) = true := by
 rw [sec_eq W hj]; exact hg_isH F hw h _ _
theorem sec_byB {O : OO} (F : FO O) (hC : ∀ m : Nat → Int, O.isH (AV m) = true → byB (tabI m 32) = true) {W : OW} (hw : W = wO O) {s : Nat → Int} (h : O.isH (AV s) = true) (j : Int) : byB (tabI (secF' W j (AV s)) 32) = true := by
 cases hj : secB j
 ·exact hC _ (isH_sec F hw h hj)
 ·have e : secF' W j (AV s) = fun _ => 0 := by funext i; unfold secF'; rw [hj]; rfl
  rw [e]; rfl
theorem take_getD {α : Type} {l : List α} {c k : Nat} {d : α} (h : k < c) : (l.take c).getD k d = l.getD k d := by
 rw [List.getD_eq_getElem?_getD, List.getElem?_take_of_lt h, ← List.getD_eq_getElem?_getD]
def spE0 (O : OO) (R : OB) (W : OW) (f : FuncId) : Option Sx.Spec := match f with
 | 5 => some (pspec [.obj 28 [.own 5 .u8, .v, .v]] true (g_gopen O R))
 | 8 => some (pspec [.obj 52 [.obj 28 [.own 5 .u8, .v, .v], .ownps 26, .v, .v], .ro .u8] true (g_gapp O R))
 | 12 => some (pspec [.obj 52 [.obj 28 [.own 5 .u8, .v, .v], .ownps 26, .v, .v]] true (g_grows O R))
 | 11 => some (pspec [.robj 28 [.ro .u8, .v, .v], .v] false (g_dagain O R))
 | 4 => some (Sx.vspec g_small44)
 | f => spW3 O R W f
theorem spE0_ok (I : Sx.Interp) (hT : Tz I) (O : OO) (hO : O = oo) (R : OB) (hR : R = bO) (W : OW) (hW : W = wO O) : ∀ f s, spE0 O R W f = some s → Sx.SpecOK I Tryd.prog f s := by
 intro f s h
 unfold spE0 at h
 split at h
 · cases h; exact ok_gopen I O hO R hR
 · cases h; exact ok_gapp I O hO R hR
 · cases h; exact ok_grows I O hO R hR
 · cases h; exact ok_dagain I O hO R hR
 · cases h; exact ok_small44 I
 ·exact spW3_ok I hT O hO R hR W hW _ s h
set_option maxHeartbeats 4000000 in
theorem vc_gsecs (O : OO) (R : OB) (W : OW) (n bu mo : Int) (s : Nat → Int) (F : FO O) (hC : ∀ m : Nat → Int, O.isH (AV m) = true → byB (tabI m 32) = true) (hr : R = bO) (hw : W = wO O) (hS : SB O) (h_n : -9223372036854775808 ≤ n ∧ n ≤ 9223372036854775807) (h_bu : -9223372036854775808 ≤ bu ∧ bu ≤ 9223372036854775807) (h_mo : -9223372036854775808 ≤ mo ∧ mo ≤ 9223372036854775807) (h_s : O.isH (AV s) = true) :
 If (iLt n 0) (Value.bool true = Value.bool true) (If (iLt 40 n) (Value.bool true = Value.bool true) ((∃ (x : Int), (iLe 0 x && iLe x n) = true ∧ (Value.int .i64 0 = Value.int .i64 x
  ∧ Value.int .i64 n = Value.int .i64 n ∧ Value.int .i64 bu = Value.int .i64 bu ∧ Value.int .i64 mo = Value.int .i64 mo ∧ Value.bool true = Value.bool true ∧ True) ∧ (Value.int .i64
  bu = Value.int .i64 (seB O R W (AV s) n.toNat bu x.toNat) ∧ Value.bool false = Value.bool (seD O R W (AV s) n.toNat bu x.toNat)) ∧ EqI (List.take (lgEnd O R []) []) (seL O R W (AV
  s) n.toNat bu x.toNat) ∧ (Value.int .i64 (iOf (lgEnd O R [])) = Value.int .i64 (seN O R W (AV s) n.toNat bu x.toNat) ∧ Value.bool false = Value.bool (seR O R W (AV s) n.toNat bu
  x.toNat)) ∧ EqII (lgRows O R []) (seX O R W (AV s) n.toNat bu x.toNat) ∧ Value.int .i64 0 = Value.int .i64 (iOf (seC O R W (AV s) n.toNat bu x.toNat)) ∧ nilL = sdL W (AV s) (seC O R
  W (AV s) n.toNat bu x.toNat) ∧ AV s = AV s ∧ True) ∧ ∀ (x : Int), (iLe 0 x && iLe x n) = true → If (iLt x n) (If (iLe (iNeg 9223372036854775808) x && O.isH (AV s)) (If (!!secB x)
  (Value.bool false = Value.bool true) (If (Nat.ble 0 1000000 && O.isH (AV (secF' W x (AV s)))) (If ((seL O R W (AV s) n.toNat bu x.toNat).length.ble 4194304 && (app [] (tabI (fnA (AV
  (secF' W x (AV s)))) 32)).length.ble 1000000 && (seX O R W (AV s) n.toNat bu x.toNat).length.ble 1000000 && (iLe (iNeg 9223372036854775808) (seB O R W (AV s) n.toNat bu x.toNat) &&
  iLe (seB O R W (AV s) n.toNat bu x.toNat) 9223372036854775807) && (iLe 0 (seN O R W (AV s) n.toNat bu x.toNat) && iLe (seN O R W (AV s) n.toNat bu x.toNat) 4194304)) (If (iBeq (apE
  O R (seL O R W (AV s) n.toNat bu x.toNat) (seB O R W (AV s) n.toNat bu x.toNat) (seD O R W (AV s) n.toNat bu x.toNat) (seR O R W (AV s) n.toNat bu x.toNat) (seN O R W (AV s) n.toNat
  bu x.toNat) (app [] (tabI (fnA (AV (secF' W x (AV s)))) 32))) 0) (If (iLe 0 (iOf (seC O R W (AV s) n.toNat bu x.toNat)) && iLe (iOf (seC O R W (AV s) n.toNat bu x.toNat)) 1048576 &&
  okL O (sdL W (AV s) (seC O R W (AV s) n.toNat bu x.toNat)) && O.isH (AV (secF' W x (AV s)))) (If (iBne (stE W (iOf (seC O R W (AV s) n.toNat bu x.toNat)) (sdL W (AV s) (seC O R W
  (AV s) n.toNat bu x.toNat)) x (AV (secF' W x (AV s)))) 0) (Value.bool false = Value.bool true) (∃ (x' : Int), (iLe 0 x' && iLe x' n) = true ∧ (iSub n x').toNat.succ ≤ (iSub n
  x).toNat ∧ (Value.int .i64 (IntKind.i64.wrap (iAdd x 1)) = Value.int .i64 x' ∧ Value.int .i64 n = Value.int .i64 n ∧ Value.int .i64 bu = Value.int .i64 bu ∧ Value.int .i64 mo =
  Value.int .i64 mo ∧ Value.bool true = Value.bool true ∧ True) ∧ (Value.int .i64 (apB O R (seL O R W (AV s) n.toNat bu x.toNat) (seB O R W (AV s) n.toNat bu x.toNat) (seD O R W (AV
  s) n.toNat bu x.toNat) (seR O R W (AV s) n.toNat bu x.toNat) (seN O R W (AV s) n.toNat bu x.toNat) (app [] (tabI (fnA (AV (secF' W x (AV s)))) 32))) = Value.int .i64 (seB O R W (AV
  s) n.toNat bu x'.toNat) ∧ Value.bool (apD O R (seL O R W (AV s) n.toNat bu x.toNat) (seB O R W (AV s) n.toNat bu x.toNat) (seD O R W (AV s) n.toNat bu x.toNat) (seR O R W (AV s)
  n.toNat bu x.toNat) (seN O R W (AV s) n.toNat bu x.toNat) (app [] (tabI (fnA (AV (secF' W x (AV s)))) 32))) = Value.bool (seD O R W (AV s) n.toNat bu x'.toNat)) ∧ EqI (apL O R (seL
  O R W (AV s) n.toNat bu x.toNat) (seB O R W (AV s) n.toNat bu x.toNat) (seD O R W (AV s) n.toNat bu x.toNat) (seR O R W (AV s) n.toNat bu x.toNat) (seN O R W (AV s) n.toNat bu
  x.toNat) (app [] (tabI (fnA (AV (secF' W x (AV s)))) 32))) (seL O R W (AV s) n.toNat bu x'.toNat) ∧ (Value.int .i64 (apM O R (seL O R W (AV s) n.toNat bu x.toNat) (seB O R W (AV s)
  n.toNat bu x.toNat) (seD O R W (AV s) n.toNat bu x.toNat) (seR O R W (AV s) n.toNat bu x.toNat) (seN O R W (AV s) n.toNat bu x.toNat) (app [] (tabI (fnA (AV (secF' W x (AV s))))
  32))) = Value.int .i64 (seN O R W (AV s) n.toNat bu x'.toNat) ∧ Value.bool (apR O R (seL O R W (AV s) n.toNat bu x.toNat) (seB O R W (AV s) n.toNat bu x.toNat) (seD O R W (AV s)
  n.toNat bu x.toNat) (seR O R W (AV s) n.toNat bu x.toNat) (seN O R W (AV s) n.toNat bu x.toNat) (app [] (tabI (fnA (AV (secF' W x (AV s)))) 32))) = Value.bool (seR O R W (AV s)
  n.toNat bu x'.toNat)) ∧ EqII (apX O R (seL O R W (AV s) n.toNat bu x.toNat) (seB O R W (AV s) n.toNat bu x.toNat) (seD O R W (AV s) n.toNat bu x.toNat) (seR O R W (AV s) n.toNat bu
  x.toNat) (seN O R W (AV s) n.toNat bu x.toNat) (app [] (tabI (fnA (AV (secF' W x (AV s)))) 32)) (seX O R W (AV s) n.toNat bu x.toNat)) (seX O R W (AV s) n.toNat bu x'.toNat) ∧
  Value.int .i64 (stN W (iOf (seC O R W (AV s) n.toNat bu x.toNat)) (sdL W (AV s) (seC O R W (AV s) n.toNat bu x.toNat)) x (AV (secF' W x (AV s)))) = Value.int .i64 (iOf (seC O R W
  (AV s) n.toNat bu x'.toNat)) ∧ stL W (iOf (seC O R W (AV s) n.toNat bu x.toNat)) (sdL W (AV s) (seC O R W (AV s) n.toNat bu x.toNat)) x (AV (secF' W x (AV s))) = sdL W (AV s) (seC O
  R W (AV s) n.toNat bu x'.toNat) ∧ AV s = AV s ∧ True)) False) (∃ (x' : Int), (iLe 0 x' && iLe x' n) = true ∧ (iSub n x').toNat.succ ≤ (iSub n x).toNat ∧ (Value.int .i64
  (IntKind.i64.wrap (iAdd x 1)) = Value.int .i64 x' ∧ Value.int .i64 n = Value.int .i64 n ∧ Value.int .i64 bu = Value.int .i64 bu ∧ Value.int .i64 mo = Value.int .i64 mo ∧ Value.bool
  true = Value.bool true ∧ True) ∧ (Value.int .i64 (apB O R (seL O R W (AV s) n.toNat bu x.toNat) (seB O R W (AV s) n.toNat bu x.toNat) (seD O R W (AV s) n.toNat bu x.toNat) (seR O R
  W (AV s) n.toNat bu x.toNat) (seN O R W (AV s) n.toNat bu x.toNat) (app [] (tabI (fnA (AV (secF' W x (AV s)))) 32))) = Value.int .i64 (seB O R W (AV s) n.toNat bu x'.toNat) ∧
  Value.bool (apD O R (seL O R W (AV s) n.toNat bu x.toNat) (seB O R W (AV s) n.toNat bu x.toNat) (seD O R W (AV s) n.toNat bu x.toNat) (seR O R W (AV s) n.toNat bu x.toNat) (seN O R
  W (AV s) n.toNat bu x.toNat) (app [] (tabI (fnA (AV (secF' W x (AV s)))) 32))) = Value.bool (seD O R W (AV s) n.toNat bu x'.toNat)) ∧ EqI (apL O R (seL O R W (AV s) n.toNat bu
  x.toNat) (seB O R W (AV s) n.toNat bu x.toNat) (seD O R W (AV s) n.toNat bu x.toNat) (seR O R W (AV s) n.toNat bu x.toNat) (seN O R W (AV s) n.toNat bu x.toNat) (app [] (tabI (fnA
  (AV (secF' W x (AV s)))) 32))) (seL O R W (AV s) n.toNat bu x'.toNat) ∧ (Value.int .i64 (apM O R (seL O R W (AV s) n.toNat bu x.toNat) (seB O R W (AV s) n.toNat bu x.toNat) (seD O R
  W (AV s) n.toNat bu x.toNat) (seR O R W (AV s) n.toNat bu x.toNat) (seN O R W (AV s) n.toNat bu x.toNat) (app [] (tabI (fnA (AV (secF' W x (AV s)))) 32))) = Value.int .i64 (seN O R
  W (AV s) n.toNat bu x'.toNat) ∧ Value.bool (apR O R (seL O R W (AV s) n.toNat bu x.toNat) (seB O R W (AV s) n.toNat bu x.toNat) (seD O R W (AV s) n.toNat bu x.toNat) (seR O R W (AV
  s) n.toNat bu x.toNat) (seN O R W (AV s) n.toNat bu x.toNat) (app [] (tabI (fnA (AV (secF' W x (AV s)))) 32))) = Value.bool (seR O R W (AV s) n.toNat bu x'.toNat)) ∧ EqII (apX O R
  (seL O R W (AV s) n.toNat bu x.toNat) (seB O R W (AV s) n.toNat bu x.toNat) (seD O R W (AV s) n.toNat bu x.toNat) (seR O R W (AV s) n.toNat bu x.toNat) (seN O R W (AV s) n.toNat bu
  x.toNat) (app [] (tabI (fnA (AV (secF' W x (AV s)))) 32)) (seX O R W (AV s) n.toNat bu x.toNat)) (seX O R W (AV s) n.toNat bu x'.toNat) ∧ Value.int .i64 (iOf (seC O R W (AV s)
  n.toNat bu x.toNat)) = Value.int .i64 (iOf (seC O R W (AV s) n.toNat bu x'.toNat)) ∧ sdL W (AV s) (seC O R W (AV s) n.toNat bu x.toNat) = sdL W (AV s) (seC O R W (AV s) n.toNat bu
  x'.toNat) ∧ AV s = AV s ∧ True)) False) False)) False) (If ((seL O R W (AV s) n.toNat bu x.toNat).length.ble 8388608) (If ((seL O R W (AV s) n.toNat bu x.toNat).length.ble 1000000
  && byB (seL O R W (AV s) n.toNat bu x.toNat)) (If ((lgRows O R (seL O R W (AV s) n.toNat bu x.toNat)).length.ble 1000000 && (lgRows O R (seL O R W (AV s) n.toNat bu x.toNat)).all
  fun (x : List Int) => x.length.ble 1000000) ((∃ (x_1 : Nat), x_1 ≤ (lgRows O R (seL O R W (AV s) n.toNat bu n.toNat)).length ∧ (Value.int .i64 0 = Value.int .i64 (iOf x_1) ∧
  Value.int .i64 n = Value.int .i64 n ∧ Value.int .i64 bu = Value.int .i64 bu ∧ Value.int .i64 mo = Value.int .i64 mo ∧ Value.bool true = Value.bool true ∧ True) ∧ Value.int .i64 0 =
  Value.int .i64 (iOf x_1) ∧ nilL = sdL W (AV s) x_1 ∧ EqII (lgRows O R (seL O R W (AV s) n.toNat bu x.toNat)) (lgRows O R (seL O R W (AV s) n.toNat bu x.toNat)) ∧ (Value.int .i64
  (iOf (lgEnd O R (seL O R W (AV s) n.toNat bu x.toNat))) = Value.int .i64 (iOf (lgEnd O R (seL O R W (AV s) n.toNat bu x.toNat))) ∧ Value.bool false = Value.bool false) ∧ EqII
  (lgRows O R (seL O R W (AV s) n.toNat bu x.toNat)) (lgRows O R (seL O R W (AV s) n.toNat bu x.toNat)) ∧ (Value.int .i64 mo = Value.int .i64 mo ∧ Value.bool false = Value.bool false)
  ∧ EqI (List.take (lgEnd O R (seL O R W (AV s) n.toNat bu x.toNat)) (seL O R W (AV s) n.toNat bu x.toNat)) (List.take (lgEnd O R (seL O R W (AV s) n.toNat bu x.toNat)) (seL O R W (AV
  s) n.toNat bu x.toNat)) ∧ EqII (lgRows O R (seL O R W (AV s) n.toNat bu x.toNat)) (lgRows O R (seL O R W (AV s) n.toNat bu x.toNat)) ∧ (Value.int .i64 (seB O R W (AV s) n.toNat bu
  x.toNat) = Value.int .i64 (seB O R W (AV s) n.toNat bu x.toNat) ∧ Value.bool (seD O R W (AV s) n.toNat bu x.toNat) = Value.bool (seD O R W (AV s) n.toNat bu x.toNat)) ∧ EqI (seL O R
  W (AV s) n.toNat bu x.toNat) (seL O R W (AV s) n.toNat bu x.toNat) ∧ (Value.int .i64 (seN O R W (AV s) n.toNat bu x.toNat) = Value.int .i64 (seN O R W (AV s) n.toNat bu x.toNat) ∧
  Value.bool (seR O R W (AV s) n.toNat bu x.toNat) = Value.bool (seR O R W (AV s) n.toNat bu x.toNat)) ∧ EqII (seX O R W (AV s) n.toNat bu x.toNat) (seX O R W (AV s) n.toNat bu
  x.toNat) ∧ Value.int .i64 (iOf (seC O R W (AV s) n.toNat bu x.toNat)) = Value.int .i64 (iOf (seC O R W (AV s) n.toNat bu x.toNat)) ∧ sdL W (AV s) (seC O R W (AV s) n.toNat bu
  x.toNat) = sdL W (AV s) (seC O R W (AV s) n.toNat bu x.toNat) ∧ AV s = AV s ∧ True) ∧ ∀ (x_1 : Nat), x_1 ≤ (lgRows O R (seL O R W (AV s) n.toNat bu n.toNat)).length → If (iLt (iOf
  x_1) (iOf (lgRows O R (seL O R W (AV s) n.toNat bu x.toNat)).length)) (If (iLe 0 (iOf x_1) && (iOf x_1).toNat.blt (lgRows O R (seL O R W (AV s) n.toNat bu x.toNat)).length) (If
  (true && !false && Nat.beq 1 1 && Nat.beq 0 0 && (iOf x_1).toNat.blt (lgRows O R (seL O R W (AV s) n.toNat bu x.toNat)).length) (If (((lgRows O R (seL O R W (AV s) n.toNat bu
  x.toNat)).getD (iOf x_1).toNat []).length.ble 1000000) (If (((lgRows O R (seL O R W (AV s) n.toNat bu x.toNat)).getD (iOf x_1).toNat []).length.ble 1000000) (If (iLe 0 (iOf x_1) &&
  iLe (iOf x_1) 1048576 && okL O (sdL W (AV s) x_1) && O.isH (AV (hsh ((lgRows O R (seL O R W (AV s) n.toNat bu x.toNat)).getD (iOf x_1).toNat []) false))) (If (iBne (stE W (iOf x_1)
  (sdL W (AV s) x_1) (iOf x_1) (AV (hsh ((lgRows O R (seL O R W (AV s) n.toNat bu x.toNat)).getD (iOf x_1).toNat []) false))) 0) (Value.bool false = Value.bool true) (∃ (x' : Nat), x'
  ≤ (lgRows O R (seL O R W (AV s) n.toNat bu n.toNat)).length ∧ (nSub (lgRows O R (seL O R W (AV s) n.toNat bu n.toNat)).length x').succ ≤ nSub (lgRows O R (seL O R W (AV s) n.toNat
  bu n.toNat)).length x_1 ∧ (Value.int .i64 (IntKind.i64.wrap (iAdd (iOf x_1) 1)) = Value.int .i64 (iOf x') ∧ Value.int .i64 n = Value.int .i64 n ∧ Value.int .i64 bu = Value.int .i64
  bu ∧ Value.int .i64 mo = Value.int .i64 mo ∧ Value.bool true = Value.bool true ∧ True) ∧ Value.int .i64 (stN W (iOf x_1) (sdL W (AV s) x_1) (iOf x_1) (AV (hsh ((lgRows O R (seL O R
  W (AV s) n.toNat bu x.toNat)).getD (iOf x_1).toNat []) false) )) = Value.int .i64 (iOf x') ∧ stL W (iOf x_1) (sdL W (AV s) x_1) (iOf x_1) (AV (hsh ((lgRows O R (seL O R W (AV s)
  n.toNat bu x.toNat)).getD (iOf x_1).toNat []) false) ) = sdL W (AV s) x' ∧ EqII (lgRows O R (seL O R W (AV s) n.toNat bu x.toNat)) (lgRows O R (seL O R W (AV s) n.toNat bu x.toNat))
  ∧ (Value.int .i64 (iOf (lgEnd O R (seL O R W (AV s) n.toNat bu x.toNat))) = Value.int .i64 (iOf (lgEnd O R (seL O R W (AV s) n.toNat bu x.toNat))) ∧ Value.bool false = Value.bool
  false) ∧ EqII (lgRows O R (seL O R W (AV s) n.toNat bu x.toNat)) (lgRows O R (seL O R W (AV s) n.toNat bu x.toNat)) ∧ (Value.int .i64 mo = Value.int .i64 mo ∧ Value.bool false =
  Value.bool false) ∧ EqI (List.take (lgEnd O R (seL O R W (AV s) n.toNat bu x.toNat)) (seL O R W (AV s) n.toNat bu x.toNat)) (List.take (lgEnd O R (seL O R W (AV s) n.toNat bu
  x.toNat)) (seL O R W (AV s) n.toNat bu x.toNat)) ∧ EqII (lgRows O R (seL O R W (AV s) n.toNat bu x.toNat)) (lgRows O R (seL O R W (AV s) n.toNat bu x.toNat)) ∧ (Value.int .i64 (seB
  O R W (AV s) n.toNat bu x.toNat) = Value.int .i64 (seB O R W (AV s) n.toNat bu x.toNat) ∧ Value.bool (seD O R W (AV s) n.toNat bu x.toNat) = Value.bool (seD O R W (AV s) n.toNat bu
  x.toNat)) ∧ EqI (seL O R W (AV s) n.toNat bu x.toNat) (seL O R W (AV s) n.toNat bu x.toNat) ∧ (Value.int .i64 (seN O R W (AV s) n.toNat bu x.toNat) = Value.int .i64 (seN O R W (AV
  s) n.toNat bu x.toNat) ∧ Value.bool (seR O R W (AV s) n.toNat bu x.toNat) = Value.bool (seR O R W (AV s) n.toNat bu x.toNat)) ∧ EqII (seX O R W (AV s) n.toNat bu x.toNat) (seX O R W
  (AV s) n.toNat bu x.toNat) ∧ Value.int .i64 (iOf (seC O R W (AV s) n.toNat bu x.toNat)) = Value.int .i64 (iOf (seC O R W (AV s) n.toNat bu x.toNat)) ∧ sdL W (AV s) (seC O R W (AV s)
  n.toNat bu x.toNat) = sdL W (AV s) (seC O R W (AV s) n.toNat bu x.toNat) ∧ AV s = AV s ∧ True)) False) False) False) False) False) (If (iBne (iOf x_1) (iOf (seC O R W (AV s) n.toNat
  bu x.toNat))) (Value.bool false = Value.bool true) (If (iLe 0 (iOf x_1) && iLe (iOf x_1) 1048576 && okL O (sdL W (AV s) x_1)) (If (iLe 0 (iOf (seC O R W (AV s) n.toNat bu x.toNat))
  && iLe (iOf (seC O R W (AV s) n.toNat bu x.toNat)) 1048576 && okL O (sdL W (AV s) (seC O R W (AV s) n.toNat bu x.toNat))) (If (!(strOfNums (app (R.row (iOf x_1)) (bytF (sdL W (AV s)
  x_1) 21))).toList == (strOfNums (app (R.row (iOf (seC O R W (AV s) n.toNat bu x.toNat))) (bytF (sdL W (AV s) (seC O R W (AV s) n.toNat bu x.toNat)) 21))).toList) (Value.bool false =
  Value.bool true) ((∃ (x_2 : Nat), x_2 ≤ (lgRows O R (seL O R W (AV s) n.toNat bu n.toNat)).length ∧ (Value.int .i64 0 = Value.int .i64 (iOf x_2) ∧ Value.int .i64 n = Value.int .i64
  n ∧ Value.int .i64 bu = Value.int .i64 bu ∧ Value.int .i64 mo = Value.int .i64 mo ∧ Value.bool true = Value.bool true ∧ True) ∧ Value.int .i64 (iOf x_1) = Value.int .i64 (iOf x_1) ∧
  sdL W (AV s) x_1 = sdL W (AV s) x_1 ∧ EqII (lgRows O R (seL O R W (AV s) n.toNat bu x.toNat)) (lgRows O R (seL O R W (AV s) n.toNat bu x.toNat)) ∧ (Value.int .i64 (iOf (lgEnd O R
  (seL O R W (AV s) n.toNat bu x.toNat))) = Value.int .i64 (iOf (lgEnd O R (seL O R W (AV s) n.toNat bu x.toNat))) ∧ Value.bool false = Value.bool false) ∧ EqII (lgRows O R (seL O R W
  (AV s) n.toNat bu x.toNat)) (lgRows O R (seL O R W (AV s) n.toNat bu x.toNat)) ∧ (Value.int .i64 mo = Value.int .i64 mo ∧ Value.bool false = Value.bool false) ∧ EqI (List.take
  (lgEnd O R (seL O R W (AV s) n.toNat bu x.toNat)) (seL O R W (AV s) n.toNat bu x.toNat)) (List.take (lgEnd O R (seL O R W (AV s) n.toNat bu x.toNat)) (seL O R W (AV s) n.toNat bu
  x.toNat)) ∧ (Value.int .i64 (seB O R W (AV s) n.toNat bu x.toNat) = Value.int .i64 (seB O R W (AV s) n.toNat bu x.toNat) ∧ Value.bool (seD O R W (AV s) n.toNat bu x.toNat) =
  Value.bool (seD O R W (AV s) n.toNat bu x.toNat)) ∧ EqI (seL O R W (AV s) n.toNat bu x.toNat) (seL O R W (AV s) n.toNat bu x.toNat) ∧ (Value.int .i64 (seN O R W (AV s) n.toNat bu
  x.toNat) = Value.int .i64 (seN O R W (AV s) n.toNat bu x.toNat) ∧ Value.bool (seR O R W (AV s) n.toNat bu x.toNat) = Value.bool (seR O R W (AV s) n.toNat bu x.toNat)) ∧ EqII (seX O
  R W (AV s) n.toNat bu x.toNat) (seX O R W (AV s) n.toNat bu x.toNat) ∧ Value.int .i64 (iOf (seC O R W (AV s) n.toNat bu x.toNat)) = Value.int .i64 (iOf (seC O R W (AV s) n.toNat bu
  x.toNat)) ∧ sdL W (AV s) (seC O R W (AV s) n.toNat bu x.toNat) = sdL W (AV s) (seC O R W (AV s) n.toNat bu x.toNat) ∧ AV s = AV s ∧ True) ∧ ∀ (x_2 : Nat), x_2 ≤ (lgRows O R (seL O R
  W (AV s) n.toNat bu n.toNat)).length → If (iLt (iOf x_2) (iOf x_1)) (If (iLe 0 (iOf x_1) && iLe (iOf x_1) 1048576 && okL O (sdL W (AV s) x_1) && iLe (iNeg 9223372036854775808) (iOf
  x_2)) (If (iLe (iNeg 9223372036854775808) (iOf x_2) && O.isH (AV s)) (If (!getB (iOf x_1) (iOf x_2) (sdL W (AV s) x_1)) (Value.bool false = Value.bool true) (If (!!secB (iOf x_2))
  (Value.bool false = Value.bool true) (If (!eqv (AV (getF W (iOf x_1) (iOf x_2) (sdL W (AV s) x_1))) (AV (secF' W (iOf x_2) (AV s)))) (Value.bool false = Value.bool true) (∃ (x' :
  Nat), x' ≤ (lgRows O R (seL O R W (AV s) n.toNat bu n.toNat)).length ∧ (nSub (lgRows O R (seL O R W (AV s) n.toNat bu n.toNat)).length x').succ ≤ nSub (lgRows O R (seL O R W (AV s)
  n.toNat bu n.toNat)).length x_2 ∧ (Value.int .i64 (IntKind.i64.wrap (iAdd (iOf x_2) 1)) = Value.int .i64 (iOf x') ∧ Value.int .i64 n = Value.int .i64 n ∧ Value.int .i64 bu =
  Value.int .i64 bu ∧ Value.int .i64 mo = Value.int .i64 mo ∧ Value.bool true = Value.bool true ∧ True) ∧ Value.int .i64 (iOf x_1) = Value.int .i64 (iOf x_1) ∧ sdL W (AV s) x_1 = sdL
  W (AV s) x_1 ∧ EqII (lgRows O R (seL O R W (AV s) n.toNat bu x.toNat)) (lgRows O R (seL O R W (AV s) n.toNat bu x.toNat)) ∧ (Value.int .i64 (iOf (lgEnd O R (seL O R W (AV s) n.toNat
  bu x.toNat))) = Value.int .i64 (iOf (lgEnd O R (seL O R W (AV s) n.toNat bu x.toNat))) ∧ Value.bool false = Value.bool false) ∧ EqII (lgRows O R (seL O R W (AV s) n.toNat bu
  x.toNat)) (lgRows O R (seL O R W (AV s) n.toNat bu x.toNat)) ∧ (Value.int .i64 mo = Value.int .i64 mo ∧ Value.bool false = Value.bool false) ∧ EqI (List.take (lgEnd O R (seL O R W
  (AV s) n.toNat bu x.toNat)) (seL O R W (AV s) n.toNat bu x.toNat)) (List.take (lgEnd O R (seL O R W (AV s) n.toNat bu x.toNat)) (seL O R W (AV s) n.toNat bu x.toNat)) ∧ (Value.int
  .i64 (seB O R W (AV s) n.toNat bu x.toNat) = Value.int .i64 (seB O R W (AV s) n.toNat bu x.toNat) ∧ Value.bool (seD O R W (AV s) n.toNat bu x.toNat) = Value.bool (seD O R W (AV s)
  n.toNat bu x.toNat)) ∧ EqI (seL O R W (AV s) n.toNat bu x.toNat) (seL O R W (AV s) n.toNat bu x.toNat) ∧ (Value.int .i64 (seN O R W (AV s) n.toNat bu x.toNat) = Value.int .i64 (seN
  O R W (AV s) n.toNat bu x.toNat) ∧ Value.bool (seR O R W (AV s) n.toNat bu x.toNat) = Value.bool (seR O R W (AV s) n.toNat bu x.toNat)) ∧ EqII (seX O R W (AV s) n.toNat bu x.toNat)
  (seX O R W (AV s) n.toNat bu x.toNat) ∧ Value.int .i64 (iOf (seC O R W (AV s) n.toNat bu x.toNat)) = Value.int .i64 (iOf (seC O R W (AV s) n.toNat bu x.toNat)) ∧ sdL W (AV s) (seC O
  R W (AV s) n.toNat bu x.toNat) = sdL W (AV s) (seC O R W (AV s) n.toNat bu x.toNat) ∧ AV s = AV s ∧ True)))) False) False) (If (iLe (iNeg 9223372036854775808) (iOf x_1) && O.isH (AV
  s)) (If (iLe 0 (iOf x_1) && iLe (iOf x_1) 1048576 && okL O (sdL W (AV s) x_1) && O.isH (AV (secF' W (iOf x_1) (AV s)))) (Value.bool (iBeq (stE W (iOf x_1) (sdL W (AV s) x_1) (iOf
  x_1) (AV (secF' W (iOf x_1) (AV s)))) 0) = Value.bool true) False) False))) False) False))) False) False) False))) := by
 have hAs : O.isH (Array.mk (List.map (Value.int IntKind.u8) (tabI s 32))) = true := h_s
 refine Sx.if_both (fun _ => (by first | rfl | trivial)) (fun c1 => Sx.if_both (fun _ => (by first | rfl | trivial)) (fun c2 => ?_))
 simp only [Bool.and_eq_true, Bool.or_eq_true, Sx.iLt_t, Sx.iLt_f, Sx.iLe_t, Sx.iLe_f, Sx.iEq_t, Sx.iEq_f, Sx.iBeq_t, Sx.iBeq_f, Sx.iBne_t, Sx.iBne_f, Nat.ble_eq, Nat.beq_eq, Sx.Cont.n] at c1 c2
 have hn : n.toNat ≤ 40 := by omega
 have hR : ∀ n : Int, (R.row n).length ≤ 10 := row_len hr
 have hB : ∀ j : Int, byB (tabI (secF' W j (AV s)) 32) = true := sec_byB F hC hw h_s
 have iK : ∀ q, O.isH (AV (W.cm 20 q (AV s))) = true := fun q => hg_isH F hw h_s _ _
 have z0 := se_zero (O := O) hS hr
 have hbu := h_bu
 have okS : ∀ k : Nat, k ≤ 40 → okL O (sdL W (AV s) k) = true := fun k hk => by
  have := inv_ok (sd_inv hw (AV s) (j := (k : Int)) (by omega) (by omega)) iK
  rwa [Int.toNat_natCast] at this
 have zE : ∀ k : Nat, k ≤ 40 → stE W (k : Int) (sdL W (AV s) k) (k : Int) (AV (secF' W (k : Int) (AV s))) = 0 := fun k hk => by
  have := seed_add hw (sd_inv hw (AV s) (j := (k : Int)) (by omega) (by omega)) (by omega)
  rw [Int.toNat_natCast] at this
  rw [sec_eq W (secB_f.2 (by omega))]; exact this
 refine ⟨⟨0, by simp only [Bool.and_eq_true, Bool.or_eq_true, Sx.iLt_t, Sx.iLt_f, Sx.iLe_t, Sx.iLe_f, Sx.iEq_t, Sx.iEq_f, Sx.iBeq_t, Sx.iBeq_f, Sx.iBne_t, Sx.iBne_f, Nat.ble_eq, Nat.beq_eq, Sx.Cont.n]; omega, (by repeat' (first | exact True.intro | exact rfl | refine ⟨?_, ?_⟩)), (by repeat' (first | exact True.intro | exact rfl | refine ⟨?_, ?_⟩)), ?_, ⟨?_, rfl⟩, rfl, ?_, ?_, rfl, trivial⟩, fun x hx => ?_⟩
 ·show List.take (lgEnd O R []) [] = List.take (lgEnd O R []) []; rfl
 ·rfl
 ·show Value.int IntKind.i64 0 = Value.int IntKind.i64 ((lgRows O R []).length : Int)
  rw [z0.1]; rfl
 ·show nilL = sdL W (AV s) (lgRows O R []).length
  rw [z0.1]; rfl
 simp only [Bool.and_eq_true, Bool.or_eq_true, Sx.iLt_t, Sx.iLt_f, Sx.iLe_t, Sx.iLe_f, Sx.iEq_t, Sx.iEq_f, Sx.iBeq_t, Sx.iBeq_f, Sx.iBne_t, Sx.iBne_f, Nat.ble_eq, Nat.beq_eq, Sx.Cont.n] at hx
 obtain ⟨k, rfl⟩ : ∃ k : Nat, x = (k : Int) := ⟨x.toNat, by omega⟩
 have hkn : k ≤ n.toNat := by omega
 simp only [Int.toNat_natCast]
 have I := se_inv hS hr hR hB hn hbu k hkn
 obtain ⟨p1, p2, p3⟩ := se_pre hS hr hR hB hn hbu k hkn
 have g1 : (seL O R W (AV s) n.toNat bu k).length ≤ 118 * k + 118 := (ot_len hr hR I.toOtI).2
 have g2 : (seX O R W (AV s) n.toNat bu k).length ≤ k := I.few
 have g4 : -9223372036854775808 ≤ seB O R W (AV s) n.toNat bu k ∧ seB O R W (AV s) n.toNat bu k ≤ 9223372036854775807 := I.bu
 have g5 : seN O R W (AV s) n.toNat bu k = ((rowsB O R (seX O R W (AV s) n.toNat bu k)).length : Int) := I.ends
 have g6 : (rowsB O R (seX O R W (AV s) n.toNat bu k)).length ≤ 118 * k := (ot_len hr hR I.toOtI).1
 have sBk : secB (k : Int) = false := secB_f.2 (by omega)
 refine Sx.if_both (fun d => ?_) (fun d => ?_)
 ·simp only [Bool.and_eq_true, Bool.or_eq_true, Sx.iLt_t, Sx.iLt_f, Sx.iLe_t, Sx.iLe_f, Sx.iEq_t, Sx.iEq_f, Sx.iBeq_t, Sx.iBeq_f, Sx.iBne_t, Sx.iBne_f, Nat.ble_eq, Nat.beq_eq, Sx.Cont.n] at d
  have hk : k < n.toNat := by omega
  have st := se_step hS hr hR hB hn hbu k hk
  have hrow : app [] (tabI (fnA (AV (secF' W (k : Int) (AV s)))) 32) = (scL W (AV s) n.toNat).getD k [] := by
   rw [scL_get hk, Sx.app, List.nil_append, fn_tab]
  have hrl : ((scL W (AV s) n.toNat).getD k []).length = 32 := by rw [scL_get hk]; exact tab32 _
  have w1 : IntKind.i64.wrap (iAdd (k : Int) 1) = ((k + 1 : Nat) : Int) := by simp only [Sx.app, Sx.nAdd, Sx.nSub, Sx.nMul, Sx.nPow, Sx.nDiv, Sx.nMod, Sx.iAdd, Sx.iSub, Sx.iMul, Sx.iNeg, Sx.iPow, Sx.iOf]; rw [IntKind.wrap_i64]; omega
  rw [hrow, sBk, w1, isH_sec F hw h_s sBk, h_s]
  refine Sx.if_true (by rw [Bool.and_true]; simp only [Bool.and_eq_true, Bool.or_eq_true, Sx.iLt_t, Sx.iLt_f, Sx.iLe_t, Sx.iLe_f, Sx.iEq_t, Sx.iEq_f, Sx.iBeq_t, Sx.iBeq_f, Sx.iBne_t, Sx.iBne_f, Nat.ble_eq, Nat.beq_eq, Sx.Cont.n, Sx.app, Sx.nAdd, Sx.nSub, Sx.nMul, Sx.nPow, Sx.nDiv, Sx.nMod, Sx.iAdd, Sx.iSub, Sx.iMul, Sx.iNeg, Sx.iPow, Sx.iOf]; omega) (Sx.if_false rfl (Sx.if_true rfl (Sx.if_true (by simp only [Bool.and_eq_true, Bool.or_eq_true, Sx.iLt_t, Sx.iLt_f, Sx.iLe_t, Sx.iLe_f, Sx.iEq_t, Sx.iEq_f, Sx.iBeq_t, Sx.iBeq_f, Sx.iBne_t, Sx.iBne_f, Nat.ble_eq, Nat.beq_eq, Sx.Cont.n, Sx.app, Sx.nAdd, Sx.nSub, Sx.nMul, Sx.nPow, Sx.nDiv, Sx.nMod, Sx.iAdd, Sx.iSub, Sx.iMul, Sx.iNeg, Sx.iPow, Sx.iOf]; omega) (Sx.if_both (fun e => ?_) (fun e => ?_)))))
  ·obtain ⟨q1, q2⟩ := st.1 e
   rw [q1]
   have zN : stN W (iOf k) (sdL W (AV s) k) (k : Int) (AV (secF' W (k : Int) (AV s))) = ((k + 1 : Nat) : Int) := by
    unfold stN
    rw [show stE W (iOf k) (sdL W (AV s) k) (k : Int) (AV (secF' W (k : Int) (AV s))) = 0 from zE k (by omega)]
    show (k : Int) + 1 = _; omega
   refine Sx.if_true (by rw [okS k (by omega)]; simp only [Bool.and_eq_true, Bool.or_eq_true, Sx.iLt_t, Sx.iLt_f, Sx.iLe_t, Sx.iLe_f, Sx.iEq_t, Sx.iEq_f, Sx.iBeq_t, Sx.iBeq_f, Sx.iBne_t, Sx.iBne_f, Nat.ble_eq, Nat.beq_eq, Sx.Cont.n, Sx.app, Sx.nAdd, Sx.nSub, Sx.nMul, Sx.nPow, Sx.nDiv, Sx.nMod, Sx.iAdd, Sx.iSub, Sx.iMul, Sx.iNeg, Sx.iPow, Sx.iOf]; exact ⟨⟨by omega, trivial⟩, trivial⟩) (Sx.if_false (by rw [show stE W (iOf k) (sdL W (AV s) k) (k : Int) (AV (secF' W (k : Int) (AV s))) = 0 from zE k (by omega)]; rfl) ?_)
   refine ⟨((k + 1 : Nat) : Int), by simp only [Bool.and_eq_true, Bool.or_eq_true, Sx.iLt_t, Sx.iLt_f, Sx.iLe_t, Sx.iLe_f, Sx.iEq_t, Sx.iEq_f, Sx.iBeq_t, Sx.iBeq_f, Sx.iBne_t, Sx.iBne_f, Nat.ble_eq, Nat.beq_eq, Sx.Cont.n]; omega, by simp only [Sx.app, Sx.nAdd, Sx.nSub, Sx.nMul, Sx.nPow, Sx.nDiv, Sx.nMod, Sx.iAdd, Sx.iSub, Sx.iMul, Sx.iNeg, Sx.iPow, Sx.iOf]; omega, (by repeat' (first | exact True.intro | exact rfl | refine ⟨?_, ?_⟩)), ?_⟩
   rw [Int.toNat_natCast, q2]
   refine ⟨(by repeat' (first | exact True.intro | exact rfl | refine ⟨?_, ?_⟩)), (by first | rfl | trivial), (by repeat' (first | exact True.intro | exact rfl | refine ⟨?_, ?_⟩)), (by first | rfl | trivial), ?_, ?_, (by first | rfl | trivial), trivial⟩
   ·rw [zN]; rfl
   ·rfl
  ·have q2 := st.2 e
   refine ⟨((k + 1 : Nat) : Int), by simp only [Bool.and_eq_true, Bool.or_eq_true, Sx.iLt_t, Sx.iLt_f, Sx.iLe_t, Sx.iLe_f, Sx.iEq_t, Sx.iEq_f, Sx.iBeq_t, Sx.iBeq_f, Sx.iBne_t, Sx.iBne_f, Nat.ble_eq, Nat.beq_eq, Sx.Cont.n]; omega, by simp only [Sx.app, Sx.nAdd, Sx.nSub, Sx.nMul, Sx.nPow, Sx.nDiv, Sx.nMod, Sx.iAdd, Sx.iSub, Sx.iMul, Sx.iNeg, Sx.iPow, Sx.iOf]; omega, (by repeat' (first | exact True.intro | exact rfl | refine ⟨?_, ?_⟩)), ?_⟩
   rw [Int.toNat_natCast, q2]
   exact (by repeat' (first | exact True.intro | exact rfl | refine ⟨?_, ?_⟩))
 ·simp only [Bool.and_eq_true, Bool.or_eq_true, Sx.iLt_t, Sx.iLt_f, Sx.iLe_t, Sx.iLe_f, Sx.iEq_t, Sx.iEq_f, Sx.iBeq_t, Sx.iBeq_f, Sx.iBne_t, Sx.iBne_f, Nat.ble_eq, Nat.beq_eq, Sx.Cont.n] at d
  obtain rfl : n = (k : Int) := by omega
  simp only [Int.toNat_natCast] at *
  have fnd := ot_found hS hr I.toOtI
  have f1 : lgRows O R (seL O R W (AV s) k bu k) = seX O R W (AV s) k bu k := fnd.1
  have bL : byB (seL O R W (AV s) k bu k) = true := ot_byB hS hr I.toOtI
  obtain ⟨c, hc⟩ : ∃ c, seC O R W (AV s) k bu k = c := ⟨_, rfl⟩
  have hcl : (seX O R W (AV s) k bu k).length = c := hc
  rw [hc] at p1 p2
  have hx32 : ∀ i, i < c → (seX O R W (AV s) k bu k).getD i [] = tabI (secF' W (i : Int) (AV s)) 32 := fun i hi => by
   rw [p1, take_getD hi, scL_get (by omega)]
  have hall : ((seX O R W (AV s) k bu k).all fun (x : List Int) => x.length.ble 1000000) = true := by
   rw [List.all_eq_true]
   intro y hy
   have : y.length ≤ 100 := (I.ok y hy).2
   rw [Nat.ble_eq]; omega
  rw [f1, hc, hall, hcl, bL, h_s]
  generalize seX O R W (AV s) k bu k = X at *
  generalize seL O R W (AV s) k bu k = L at *
  generalize seB O R W (AV s) k bu k = Bb at *
  generalize seD O R W (AV s) k bu k = Dd at *
  generalize seN O R W (AV s) k bu k = Nn at *
  generalize seR O R W (AV s) k bu k = Rr at *
  refine Sx.if_true (by simp only [Bool.and_eq_true, Bool.or_eq_true, Sx.iLt_t, Sx.iLt_f, Sx.iLe_t, Sx.iLe_f, Sx.iEq_t, Sx.iEq_f, Sx.iBeq_t, Sx.iBeq_f, Sx.iBne_t, Sx.iBne_f, Nat.ble_eq, Nat.beq_eq, Sx.Cont.n]; omega) (Sx.if_true (by simp only [Bool.and_eq_true, Bool.or_eq_true, Sx.iLt_t, Sx.iLt_f, Sx.iLe_t, Sx.iLe_f, Sx.iEq_t, Sx.iEq_f, Sx.iBeq_t, Sx.iBeq_f, Sx.iBne_t, Sx.iBne_f, Nat.ble_eq, Nat.beq_eq, Sx.Cont.n]; exact ⟨by omega, trivial⟩) (Sx.if_true (by simp only [Bool.and_eq_true, Bool.or_eq_true, Sx.iLt_t, Sx.iLt_f, Sx.iLe_t, Sx.iLe_f, Sx.iEq_t, Sx.iEq_f, Sx.iBeq_t, Sx.iBeq_f, Sx.iBne_t, Sx.iBne_f, Nat.ble_eq, Nat.beq_eq, Sx.Cont.n]; exact ⟨by omega, trivial⟩) ?_))
  refine ⟨⟨0, Nat.zero_le _, (by repeat' (first | exact True.intro | exact rfl | refine ⟨?_, ?_⟩))⟩, fun y hy => ?_⟩
  have ey : (iOf y).toNat = y := Int.toNat_natCast y
  rw [ey]
  have sBy : secB (y : Int) = false := secB_f.2 (by omega)
  refine Sx.if_both (fun d2 => ?_) (fun d2 => ?_)
  ·simp only [Bool.and_eq_true, Bool.or_eq_true, Sx.iLt_t, Sx.iLt_f, Sx.iLe_t, Sx.iLe_f, Sx.iEq_t, Sx.iEq_f, Sx.iBeq_t, Sx.iBeq_f, Sx.iBne_t, Sx.iBne_f, Nat.ble_eq, Nat.beq_eq, Sx.Cont.n, Sx.app, Sx.nAdd, Sx.nSub, Sx.nMul, Sx.nPow, Sx.nDiv, Sx.nMod, Sx.iAdd, Sx.iSub, Sx.iMul, Sx.iNeg, Sx.iPow, Sx.iOf] at d2
   have hyc : y < c := by omega
   have hyb : y.blt c = true := by rw [Nat.blt_eq]; exact hyc
   have w2 : IntKind.i64.wrap (iAdd (iOf y) 1) = iOf (y + 1) := by simp only [Sx.app, Sx.nAdd, Sx.nSub, Sx.nMul, Sx.nPow, Sx.nDiv, Sx.nMod, Sx.iAdd, Sx.iSub, Sx.iMul, Sx.iNeg, Sx.iPow, Sx.iOf]; rw [IntKind.wrap_i64]; omega
   have zN : stN W (iOf y) (sdL W (AV s) y) (iOf y) (AV (secF' W (y : Int) (AV s))) = ((y + 1 : Nat) : Int) := by
    unfold stN
    rw [show stE W (iOf y) (sdL W (AV s) y) (iOf y) (AV (secF' W (y : Int) (AV s))) = 0 from zE y (by omega)]
    show (y : Int) + 1 = _; omega
   rw [hx32 y hyc, hsh_tab, tab32, hyb, w2, zN, okS y (by omega), isH_sec F hw h_s sBy, show stE W (iOf y) (sdL W (AV s) y) (iOf y) (AV (secF' W (y : Int) (AV s))) = 0 from zE y (by omega)]
   clear zN zE
   refine Sx.if_true (by simp only [Bool.and_eq_true, Bool.or_eq_true, Sx.iLt_t, Sx.iLt_f, Sx.iLe_t, Sx.iLe_f, Sx.iEq_t, Sx.iEq_f, Sx.iBeq_t, Sx.iBeq_f, Sx.iBne_t, Sx.iBne_f, Nat.ble_eq, Nat.beq_eq, Sx.Cont.n, Sx.app, Sx.nAdd, Sx.nSub, Sx.nMul, Sx.nPow, Sx.nDiv, Sx.nMod, Sx.iAdd, Sx.iSub, Sx.iMul, Sx.iNeg, Sx.iPow, Sx.iOf]; exact ⟨by omega, trivial⟩) (Sx.if_true rfl (Sx.if_true (by rw [Nat.ble_eq]; omega) (Sx.if_true (by rw [Nat.ble_eq]; omega) (Sx.if_true (by simp only [Bool.and_eq_true, Bool.or_eq_true, Sx.iLt_t, Sx.iLt_f, Sx.iLe_t, Sx.iLe_f, Sx.iEq_t, Sx.iEq_f, Sx.iBeq_t, Sx.iBeq_f, Sx.iBne_t, Sx.iBne_f, Nat.ble_eq, Nat.beq_eq, Sx.Cont.n, Sx.app, Sx.nAdd, Sx.nSub, Sx.nMul, Sx.nPow, Sx.nDiv, Sx.nMod, Sx.iAdd, Sx.iSub, Sx.iMul, Sx.iNeg, Sx.iPow, Sx.iOf]; exact ⟨⟨by omega, trivial⟩, trivial⟩) (Sx.if_false rfl ?_)))))
   exact ⟨y + 1, by omega, by simp only [Sx.app, Sx.nAdd, Sx.nSub, Sx.nMul, Sx.nPow, Sx.nDiv, Sx.nMod, Sx.iAdd, Sx.iSub, Sx.iMul, Sx.iNeg, Sx.iPow, Sx.iOf]; omega, (by repeat' (first | exact True.intro | exact rfl | refine ⟨?_, ?_⟩))⟩
  ·simp only [Bool.and_eq_true, Bool.or_eq_true, Sx.iLt_t, Sx.iLt_f, Sx.iLe_t, Sx.iLe_f, Sx.iEq_t, Sx.iEq_f, Sx.iBeq_t, Sx.iBeq_f, Sx.iBne_t, Sx.iBne_f, Nat.ble_eq, Nat.beq_eq, Sx.Cont.n, Sx.app, Sx.nAdd, Sx.nSub, Sx.nMul, Sx.nPow, Sx.nDiv, Sx.nMod, Sx.iAdd, Sx.iSub, Sx.iMul, Sx.iNeg, Sx.iPow, Sx.iOf] at d2
   obtain rfl : y = c := by omega
   rw [okS y (by omega)]
   refine Sx.if_false (by simp only [Bool.and_eq_true, Bool.or_eq_true, Sx.iLt_t, Sx.iLt_f, Sx.iLe_t, Sx.iLe_f, Sx.iEq_t, Sx.iEq_f, Sx.iBeq_t, Sx.iBeq_f, Sx.iBne_t, Sx.iBne_f, Nat.ble_eq, Nat.beq_eq, Sx.Cont.n]) (Sx.if_true (by simp only [Bool.and_eq_true, Bool.or_eq_true, Sx.iLt_t, Sx.iLt_f, Sx.iLe_t, Sx.iLe_f, Sx.iEq_t, Sx.iEq_f, Sx.iBeq_t, Sx.iBeq_f, Sx.iBne_t, Sx.iBne_f, Nat.ble_eq, Nat.beq_eq, Sx.Cont.n, Sx.app, Sx.nAdd, Sx.nSub, Sx.nMul, Sx.nPow, Sx.nDiv, Sx.nMod, Sx.iAdd, Sx.iSub, Sx.iMul, Sx.iNeg, Sx.iPow, Sx.iOf]; exact ⟨by omega, trivial⟩) (Sx.if_true (by simp only [Bool.and_eq_true, Bool.or_eq_true, Sx.iLt_t, Sx.iLt_f, Sx.iLe_t, Sx.iLe_f, Sx.iEq_t, Sx.iEq_f, Sx.iBeq_t, Sx.iBeq_f, Sx.iBne_t, Sx.iBne_f, Nat.ble_eq, Nat.beq_eq, Sx.Cont.n, Sx.app, Sx.nAdd, Sx.nSub, Sx.nMul, Sx.nPow, Sx.nDiv, Sx.nMod, Sx.iAdd, Sx.iSub, Sx.iMul, Sx.iNeg, Sx.iPow, Sx.iOf]; exact ⟨by omega, trivial⟩) (Sx.if_false (by simp) ?_)))
   refine ⟨⟨0, Nat.zero_le _, (by repeat' (first | exact True.intro | exact rfl | refine ⟨?_, ?_⟩))⟩, fun u hu => ?_⟩
   refine Sx.if_both (fun d3 => ?_) (fun d3 => ?_)
   ·simp only [Bool.and_eq_true, Bool.or_eq_true, Sx.iLt_t, Sx.iLt_f, Sx.iLe_t, Sx.iLe_f, Sx.iEq_t, Sx.iEq_f, Sx.iBeq_t, Sx.iBeq_f, Sx.iBne_t, Sx.iBne_f, Nat.ble_eq, Nat.beq_eq, Sx.Cont.n, Sx.app, Sx.nAdd, Sx.nSub, Sx.nMul, Sx.nPow, Sx.nDiv, Sx.nMod, Sx.iAdd, Sx.iSub, Sx.iMul, Sx.iNeg, Sx.iPow, Sx.iOf] at d3
    have huy : u < y := by omega
    have sBu : secB (iOf u) = false := secB_f.2 (by simp only [Sx.app, Sx.nAdd, Sx.nSub, Sx.nMul, Sx.nPow, Sx.nDiv, Sx.nMod, Sx.iAdd, Sx.iSub, Sx.iMul, Sx.iNeg, Sx.iPow, Sx.iOf]; omega)
    have w3 : IntKind.i64.wrap (iAdd (iOf u) 1) = iOf (u + 1) := by simp only [Sx.app, Sx.nAdd, Sx.nSub, Sx.nMul, Sx.nPow, Sx.nDiv, Sx.nMod, Sx.iAdd, Sx.iSub, Sx.iMul, Sx.iNeg, Sx.iPow, Sx.iOf]; rw [IntKind.wrap_i64]; omega
    have gt := inv_get (sd_inv hw (AV s) (j := (y : Int)) (by omega) (by omega)) (no := (u : Int)) (by omega) (by omega)
    rw [Int.toNat_natCast] at gt
    have ge : eqv (AV (getF W (iOf y) (iOf u) (sdL W (AV s) y))) (AV (secF' W (iOf u) (AV s))) = true := by
     rw [show AV (getF W (iOf y) (iOf u) (sdL W (AV s) y)) = _ from gt.2, sec_eq W sBu]
     exact eqv_AV.2 rfl
    rw [sBu, w3, show getB (iOf y) (iOf u) (sdL W (AV s) y) = true from gt.1, ge]
    refine Sx.if_true (by simp only [Bool.and_eq_true, Bool.or_eq_true, Sx.iLt_t, Sx.iLt_f, Sx.iLe_t, Sx.iLe_f, Sx.iEq_t, Sx.iEq_f, Sx.iBeq_t, Sx.iBeq_f, Sx.iBne_t, Sx.iBne_f, Nat.ble_eq, Nat.beq_eq, Sx.Cont.n, Sx.app, Sx.nAdd, Sx.nSub, Sx.nMul, Sx.nPow, Sx.nDiv, Sx.nMod, Sx.iAdd, Sx.iSub, Sx.iMul, Sx.iNeg, Sx.iPow, Sx.iOf]; exact ⟨⟨by omega, trivial⟩, by omega⟩) (Sx.if_true (by simp only [Bool.and_eq_true, Bool.or_eq_true, Sx.iLt_t, Sx.iLt_f, Sx.iLe_t, Sx.iLe_f, Sx.iEq_t, Sx.iEq_f, Sx.iBeq_t, Sx.iBeq_f, Sx.iBne_t, Sx.iBne_f, Nat.ble_eq, Nat.beq_eq, Sx.Cont.n, Sx.app, Sx.nAdd, Sx.nSub, Sx.nMul, Sx.nPow, Sx.nDiv, Sx.nMod, Sx.iAdd, Sx.iSub, Sx.iMul, Sx.iNeg, Sx.iPow, Sx.iOf]; exact ⟨by omega, trivial⟩) (Sx.if_false rfl (Sx.if_false rfl (Sx.if_false rfl ?_))))
    exact ⟨u + 1, by omega, by simp only [Sx.app, Sx.nAdd, Sx.nSub, Sx.nMul, Sx.nPow, Sx.nDiv, Sx.nMod, Sx.iAdd, Sx.iSub, Sx.iMul, Sx.iNeg, Sx.iPow, Sx.iOf]; omega, (by repeat' (first | exact True.intro | exact rfl | refine ⟨?_, ?_⟩))⟩
   ·rw [isH_sec F hw h_s (show secB (iOf y) = false from sBy), show stE W (iOf y) (sdL W (AV s) y) (iOf y) (AV (secF' W (iOf y) (AV s))) = 0 from zE y (by omega)]
    exact Sx.if_true (by simp only [Bool.and_eq_true, Bool.or_eq_true, Sx.iLt_t, Sx.iLt_f, Sx.iLe_t, Sx.iLe_f, Sx.iEq_t, Sx.iEq_f, Sx.iBeq_t, Sx.iBeq_f, Sx.iBne_t, Sx.iBne_f, Nat.ble_eq, Nat.beq_eq, Sx.Cont.n, Sx.app, Sx.nAdd, Sx.nSub, Sx.nMul, Sx.nPow, Sx.nDiv, Sx.nMod, Sx.iAdd, Sx.iSub, Sx.iMul, Sx.iNeg, Sx.iPow, Sx.iOf]; exact ⟨by omega, trivial⟩) (Sx.if_true (by simp only [Bool.and_eq_true, Bool.or_eq_true, Sx.iLt_t, Sx.iLt_f, Sx.iLe_t, Sx.iLe_f, Sx.iEq_t, Sx.iEq_f, Sx.iBeq_t, Sx.iBeq_f, Sx.iBne_t, Sx.iBne_f, Nat.ble_eq, Nat.beq_eq, Sx.Cont.n, Sx.app, Sx.nAdd, Sx.nSub, Sx.nMul, Sx.nPow, Sx.nDiv, Sx.nMod, Sx.iAdd, Sx.iSub, Sx.iMul, Sx.iNeg, Sx.iPow, Sx.iOf]; exact ⟨⟨by omega, trivial⟩, trivial⟩) rfl)
theorem wpc_gsecs (O : OO) (R : OB) (W : OW) (n bu mo : Int) (s : Nat → Int) (F : FO O) (hC : ∀ m : Nat → Int, O.isH (AV m) = true → byB (tabI m 32) = true) (hr : R = bO) (hw : W = wO O) (hS : SB O) (h_n : -9223372036854775808 ≤ n ∧ n ≤ 9223372036854775807) (h_bu : -9223372036854775808 ≤ bu ∧ bu ≤ 9223372036854775807) (h_mo : -9223372036854775808 ≤ mo ∧ mo ≤ 9223372036854775807) (h_s : O.isH (AV s) = true) : wpcI Tryd.prog (spE0 O R W) Tryd.f3.ntmps [⟨Int, [1, 2, 3, 4, 9, 10, 11, 13], [(100010, 5, .ints .u8 []), (200011, 26, .ints .u8 []), (1000200011, 26, .ints .u8 []), (200013, 5, .structs KK (List.replicate 21 []))], fun B j => [(14, .v (.int .i64 j))], fun B j => [(768, .blk 28 [.row B, .v (.int .i64 (seB O R W (AV s) n.toNat bu j.toNat)), .v (.bool (seD O R W (AV s) n.toNat bu j.toNat))]), (B, .own 5 (.ints .u8 (seL O R W (AV s) n.toNat bu j.toNat))), (960, .blk 52 [.ptr 768 0, .row (B + 1), .v (.int .i64 (seN O R W (AV s) n.toNat bu j.toNat)), .v (.bool (seR O R W (AV s) n.toNat bu j.toNat))]), (B + 1, .ownp 26 (B + 2)), (B + 2, .pool (seX O R W (AV s) n.toNat bu j.toNat)), (1344, .blk 58 (.v (.int .i64 (seC O R W (AV s) n.toNat bu j.toNat : Nat)) :: selList (B + 3) 21 0)), (B + 3, .sels KK (sdL W (AV s) (seC O R W (AV s) n.toNat bu j.toNat)))], fun j => (iLe 0 j && iLe j n) = true, fun j => (n - j).toNat, 0⟩, ⟨Nat, [1, 2, 3, 4, 9, 10, 11, 13, 17, 19, 20], [(200019, 5, .structs KK (List.replicate 21 []))], fun B k => [(21, .v (.int .i64 (k : Nat)))], fun B k => [(2952, .blk 58 (.v (.int .i64 (k : Nat)) :: selList B 21 0)), (B, .sels KK (sdL W (AV s) k))], fun k => k ≤ (lgRows O R (seL O R W (AV s) n.toNat bu n.toNat)).length, fun k => (lgRows O R (seL O R W (AV s) n.toNat bu n.toNat)).length - k, 0⟩, ⟨Nat, [1, 2, 3, 4, 9, 10, 11, 13, 17, 19, 20], [], fun B k => [(23, .v (.int .i64 (k : Nat)))], fun B k => [], fun k => k ≤ (lgRows O R (seL O R W (AV s) n.toNat bu n.toNat)).length, fun k => (lgRows O R (seL O R W (AV s) n.toNat bu n.toNat)).length - k, 0⟩] (bodyOf Tryd.f3) 0 0 (argEnv [.agg (AV s), .int .i64 n, .int .i64 bu, .int .i64 mo] 0) [] (retK Tryd.prog Tryd.f3.results.toList (.bool true)) :=
 Eq.mpr (by kernel_rfl) (vc_gsecs O R W n bu mo s F hC hr hw hS h_n h_bu h_mo h_s)
theorem walk_gsecs (l_s : List Nat) (hl_s : l_s.length = 32) (hb_s : ∀ i, l_s.getD i 0 < 256) (n : Int) (hb_n : -9223372036854775808 ≤ n ∧ n ≤ 9223372036854775807) (bu : Int) (hb_bu : -9223372036854775808 ≤ bu ∧ bu ≤ 9223372036854775807) (mo : Int) (hb_mo : -9223372036854775808 ≤ mo ∧ mo ≤ 9223372036854775807) (w : World) (ha : AmbW IT w) : Calls Tryd.prog 3 #[B8 l_s, .int .i64 n, .int .i64 bu, .int .i64 mo] w fun e w' => e = .returned (.bool true) ∧ Kp w w' := by
 obtain ⟨s, e_s, i_s⟩ := bcs_AV l_s hl_s hb_s
 rw [show (B8 l_s : Value) = .agg (AV s) from congrArg Value.agg e_s]
 exact (calls_realI (I := IT) (spE0_ok IT tz_IT oo rfl bO rfl (wO oo) rfl) (by kernel_rfl) _ (l := [.agg (AV s), .int .i64 n, .int .i64 bu, .int .i64 mo]) Tryd.func3 (by kernel_rfl) rfl Tryd.ntmps3 (by simp) (wpc_gsecs oo bO (wO oo) (n : Int) (bu : Int) (mo : Int) s (fo_oo oo rfl) by_isH rfl rfl sb_oo hb_n hb_bu hb_mo (isH_oo i_s)) w).mono fun _ _ ⟨he, hf⟩ => ⟨he, fr_below hf⟩
end Go.Proofs.YtaohpdhhbnempaaDoor
