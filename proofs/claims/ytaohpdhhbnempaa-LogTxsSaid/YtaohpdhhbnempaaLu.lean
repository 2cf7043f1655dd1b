/- Log, plainly: disks that fail time and again. No program in sight. -/
import Derived.Test.YtaohpdhhbnempaaLg2
import Derived.Test.YtaohpdhhbnempaaLt
namespace Go.Proofs.Ytaohpdhhbnempaa
open Go Go.RowKit Go.Lib Ckp Cfd Cpd Sx
set_option linter.unusedVariables false
set_option linter.unusedSimpArgs false
structure BK where
 X : List (List Int)
 L : List Int
 B : Int
 D : Bool
 N : Int
 Br : Bool
def bkN1 (O : OO) (R : OB) (s : BK) (b : List Int) : BK := ⟨apX O R s.L s.B s.D s.Br s.N b s.X, apL O R s.L s.B s.D s.Br s.N b, apB O R s.L s.B s.D s.Br s.N b, apD O R s.L s.B s.D s.Br s.N b, apM O R s.L s.B s.D s.Br s.N b, apR O R s.L s.B s.D s.Br s.N b⟩
def bkS (O : OO) (R : OB) (l : List (List Int)) (s : BK) : Nat → BK
 | 0 => s
 | k + 1 => bkN1 O R (bkS O R l s k) (l.getD k [])
def opS (O : OO) (R : OB) (s : BK) (n : Int) : BK := ⟨s.X, s.L.take (lgEnd O R s.L), n, false, (lgEnd O R s.L : Nat), false⟩
def otS (O : OO) (R : OB) (l : List (List Int)) (bs : List Int) : Nat → BK
 | 0 => ⟨[], [], -1, false, 0, false⟩
 | i + 1 => bkS O R l (opS O R (otS O R l bs i) (bs.getD i 0)) l.length
def otX (O : OO) (R : OB) (l : List (List Int)) (bs : List Int) (i : Nat) : List (List Int) := (otS O R l bs i).X
def otL (O : OO) (R : OB) (l : List (List Int)) (bs : List Int) (i : Nat) : List Int := (otS O R l bs i).L
def otB (O : OO) (R : OB) (l : List (List Int)) (bs : List Int) (i : Nat) : Int := (otS O R l bs i).B
def otD (O : OO) (R : OB) (l : List (List Int)) (bs : List Int) (i : Nat) : Bool := (otS O R l bs i).D
def bkA (O : OO) (R : OB) (l : List (List Int)) (bs : List Int) (i k : Nat) : BK := bkS O R l (opS O R (otS O R l bs i) (bs.getD i 0)) k
def bkX (O : OO) (R : OB) (l : List (List Int)) (bs : List Int) (i k : Nat) : List (List Int) := (bkA O R l bs i k).X
def bkL (O : OO) (R : OB) (l : List (List Int)) (bs : List Int) (i k : Nat) : List Int := (bkA O R l bs i k).L
def bkB (O : OO) (R : OB) (l : List (List Int)) (bs : List Int) (i k : Nat) : Int := (bkA O R l bs i k).B
def bkD (O : OO) (R : OB) (l : List (List Int)) (bs : List Int) (i k : Nat) : Bool := (bkA O R l bs i k).D
def bkN (O : OO) (R : OB) (l : List (List Int)) (bs : List Int) (i k : Nat) : Int := (bkA O R l bs i k).N
def bkR (O : OO) (R : OB) (l : List (List Int)) (bs : List Int) (i k : Nat) : Bool := (bkA O R l bs i k).Br
structure OtI (O : OO) (R : OB) (s : BK) (m : Nat) : Prop where
 ok : ∀ x ∈ s.X, byB x = true ∧ x.length ≤ 100
 few : s.X.length ≤ m
 bu : -9223372036854775808 ≤ s.B ∧ s.B ≤ 9223372036854775807
 torn : ∃ t, Torn O R t ∧ byB t = true ∧ t.length ≤ 118 ∧ s.L = rowsB O R s.X ++ t ∧ (s.Br = false → t = [] ∧ s.D = false)
structure BkI (O : OO) (R : OB) (s : BK) (m : Nat) : Prop extends OtI O R s m where
 dead : s.Br = true → s.D = true
 ends : s.N = ((rowsB O R s.X).length : Int)
theorem row118 {O : OO} {R : OB} (hr : R = bO) (hR : ∀ n : Int, (R.row n).length ≤ 10) (x : List Int) (hx : x.length ≤ 100) : (lgRow O R x).length ≤ 118 := by
 have := lg_len (O := O) hr x
 have := hR (x.length : Int)
 omega
theorem ot_len {O : OO} {R : OB} (hr : R = bO) (hR : ∀ n : Int, (R.row n).length ≤ 10) {s : BK} {m : Nat} (h : OtI O R s m) : (rowsB O R s.X).length ≤ 118 * m ∧ s.L.length ≤ 118 * m + 118 := by
 obtain ⟨t, _, _, h3, h4, _⟩ := h.torn
 have := rowsB_le (row118 (O := O) hr hR) (l := s.X) fun x hx => (h.ok x hx).2
 have := h.few
 have h5 : 118 * s.X.length ≤ 118 * m := Nat.mul_le_mul_left _ this
 rw [h4, zlA]
 omega
theorem ot_found {O : OO} (hS : SB O) {R : OB} (hr : R = bO) {s : BK} {m : Nat} (h : OtI O R s m) : lgRows O R s.L = s.X ∧ lgEnd O R s.L = (rowsB O R s.X).length ∧ s.L.take (lgEnd O R s.L) = rowsB O R s.X := by
 obtain ⟨t, h1, h2, _, h4, _⟩ := h.torn
 have k := lg_found hS hr (xs := s.X) (t := t) (fun x hx => ⟨(h.ok x hx).1, by have := (h.ok x hx).2; omega⟩) h2 h1
 rw [← h4] at k
 refine ⟨k.1, k.2, ?_⟩
 rw [k.2, h4, List.take_left]
theorem op_inv {O : OO} (hS : SB O) {R : OB} (hr : R = bO) {s : BK} {m : Nat} (h : OtI O R s m) {n : Int} (hn : -9223372036854775808 ≤ n ∧ n ≤ 9223372036854775807) : BkI O R (opS O R s n) m := by
 obtain ⟨_, f2, f3⟩ := ot_found hS hr h
 refine ⟨⟨h.ok, h.few, hn, [], torn_nil hr, rfl, by simp, ?_, fun _ => ⟨rfl, rfl⟩⟩, fun h => (by cases h), ?_⟩
 ·show s.L.take _ = _
  rw [f3, List.append_nil]; rfl
 ·show ((lgEnd O R s.L : Nat) : Int) = _
  rw [f2]; rfl
theorem bk_step {O : OO} (hS : SB O) {R : OB} (hr : R = bO) (hR : ∀ n : Int, (R.row n).length ≤ 10) {s : BK} {m : Nat} (h : BkI O R s m) (hm : m ≤ 1000) {b : List Int} (hb : byB b = true) (hl : b.length ≤ 100) :
  BkI O R (bkN1 O R s b) (m + 1) ∧ (apE O R s.L s.B s.D s.Br s.N b = 0 ∨ apE O R s.L s.B s.D s.Br s.N b = 21 ∧ apD O R s.L s.B s.D s.Br s.N b = true) := by
 obtain ⟨X, L, B, D, N, Br⟩ := s
 have hbu := h.bu
 have hot := ot_len hr hR h.toOtI
 obtain ⟨t, t1, t2, t3, t4, t5⟩ := h.torn
 cases Br with
 | true =>
  have hD : D = true := h.dead rfl
  subst hD
  have E : apE O R L B true true N b = 21 := rfl
  refine ⟨⟨⟨h.ok, Nat.le_succ_of_le h.few, h.bu, t, t1, t2, t3, t4, fun h => by cases h⟩, fun _ => rfl, h.ends⟩, .inr ⟨E, rfl⟩⟩
 | false =>
  obtain ⟨rfl, hD⟩ := t5 rfl
  have hD : D = false := hD
  subst hD
  have hL : L = rowsB O R X := by have : L = rowsB O R X ++ [] := t4; rw [this, List.append_nil]
  have hN : N = ((rowsB O R X).length : Int) := h.ends
  have hrow := row118 (O := O) hr hR b hl
  have hok : ∀ x ∈ X, byB x = true ∧ x.length ≤ 100 := h.ok
  have hfew : X.length ≤ m := h.few
  have hbu : -9223372036854775808 ≤ B ∧ B ≤ 9223372036854775807 := h.bu
  have hlen : (rowsB O R X).length ≤ 118 * m := hot.1
  have c1 : agN O R b N = false := by
   unfold agN
   rw [show iLt 65536 (b.length : Int) = false by simp only [iLt_f]; omega, cond_false]
   simp only [iLt_f]; omega
  have c2 : wrN L (lgRow O R b) false = false := by
   unfold wrN
   rw [cond_false, hL]
   simp only [iLt_f]; omega
  have W : apW O R false false N b = true := by unfold apW; rw [c1]; rfl
  have eL : apL O R L B false false N b = L ++ (lgRow O R b).take (wrK B (lgRow O R b).length) := by unfold apL wrL; rw [W, c2]; rfl
  have eB : apB O R L B false false N b = bif iLt B 0 then B else B - (wrK B (lgRow O R b).length : Nat) := by unfold apB wrB; rw [W, c2]; rfl
  have eD : apD O R L B false false N b = Nat.blt (wrK B (lgRow O R b).length) (lgRow O R b).length := by unfold apD wrD; rw [W, c2]; rfl
  have eO : wrO L (lgRow O R b) B false = !(Nat.blt (wrK B (lgRow O R b).length) (lgRow O R b).length) := by unfold wrO; rw [c2]; rfl
  have hB' : -9223372036854775808 ≤ apB O R L B false false N b ∧ apB O R L B false false N b ≤ 9223372036854775807 := by
   rw [eB]
   cases q : iLt B 0
   ·simp only [iLt_f] at q
    rw [cond_false]
    have : wrK B (lgRow O R b).length ≤ (lgRow O R b).length := by
     unfold wrK
     rw [show iLt B 0 = false by simp only [iLt_f]; exact q]
     exact Nat.min_le_left _ _
    omega
   ·rw [cond_true]; exact hbu
  have hlr := lg_byB hS hr hb
  cases q : Nat.blt (wrK B (lgRow O R b).length) (lgRow O R b).length
  ·have hK : (lgRow O R b).take (wrK B (lgRow O R b).length) = lgRow O R b := List.take_of_length_le (by
    have : ¬ wrK B (lgRow O R b).length < (lgRow O R b).length := fun h => by rw [← Nat.blt_eq, q] at h; cases h
    omega)
   rw [q] at eO eD
   rw [hK] at eL
   have E : apE O R L B false false N b = 0 := by unfold apE; rw [c1, eO]; rfl
   have eX : apX O R L B false false N b X = X ++ [b] := by unfold apX; rw [E]; rfl
   have eN : apM O R L B false false N b = N + ((lgRow O R b).length : Int) := by unfold apM; rw [E]; rfl
   have eR : apR O R L B false false N b = false := by unfold apR; rw [W, eO]; rfl
   have eRows : rowsB O R (X ++ [b]) = rowsB O R X ++ lgRow O R b := by rw [rowsB_app]; show _ ++ (lgRow O R b ++ []) = _; rw [List.append_nil]
   refine ⟨⟨⟨?_, ?_, hB', [], torn_nil hr, rfl, by simp, ?_, fun _ => ⟨rfl, ?_⟩⟩, fun h => ?_, ?_⟩, .inl E⟩
   ·intro x hx
    have hx : x ∈ apX O R L B false false N b X := hx
    rw [eX] at hx
    rcases List.mem_append.1 hx with hx | hx
    ·exact hok x hx
    ·rw [List.mem_singleton] at hx; subst hx; exact ⟨hb, hl⟩
   ·show (apX O R L B false false N b X).length ≤ m + 1
    rw [eX, zlA]; simp only [List.length_cons, List.length_nil]; omega
   ·show apL O R L B false false N b = rowsB O R (apX O R L B false false N b X) ++ []
    rw [eL, eX, eRows, hL, List.append_nil]
   ·exact eD
   ·have h : apR O R L B false false N b = true := h
    rw [eR] at h; cases h
   ·show apM O R L B false false N b = ((rowsB O R (apX O R L B false false N b X)).length : Int)
    rw [eN, eX, eRows, zlA, hN]; omega
  ·rw [q] at eO eD
   have hK : wrK B (lgRow O R b).length < (lgRow O R b).length := by rw [← Nat.blt_eq]; exact q
   have E : apE O R L B false false N b = 21 := by unfold apE; rw [c1, eO]; rfl
   have eX : apX O R L B false false N b X = X := by unfold apX; rw [E]; rfl
   have eN : apM O R L B false false N b = N := by unfold apM; rw [E]; rfl
   have eR : apR O R L B false false N b = true := by unfold apR; rw [W, eO]; rfl
   refine ⟨⟨⟨?_, ?_, hB', _, ⟨b, _, by omega, hK, rfl⟩, byB_take hlr _, by rw [List.length_take]; omega, ?_, fun h => ?_⟩, fun _ => eD, ?_⟩, .inr ⟨E, eD⟩⟩
   ·intro x hx
    have hx : x ∈ apX O R L B false false N b X := hx
    rw [eX] at hx
    exact hok x hx
   ·show (apX O R L B false false N b X).length ≤ m + 1
    rw [eX]; omega
   ·show apL O R L B false false N b = rowsB O R (apX O R L B false false N b X) ++ _
    rw [eL, eX, hL]
   ·have h : apR O R L B false false N b = false := h
    rw [eR] at h; cases h
   ·show apM O R L B false false N b = ((rowsB O R (apX O R L B false false N b X)).length : Int)
    rw [eN, eX, hN]
theorem bk_inv {O : OO} (hS : SB O) {R : OB} (hr : R = bO) (hR : ∀ n : Int, (R.row n).length ≤ 10) {l : List (List Int)} (hl : ∀ x ∈ l, byB x = true ∧ x.length ≤ 100) {s : BK} {m : Nat} (h : BkI O R s m) (hm : m + l.length ≤ 1000) : ∀ k, k ≤ l.length → BkI O R (bkS O R l s k) (m + k)
 | 0, _ => h
 | k + 1, hk => by
  have hg : l.getD k [] = l[k] := by rw [List.getD_eq_getElem?_getD, List.getElem?_eq_getElem hk]; rfl
  have hx := hl l[k] (List.getElem_mem hk)
  have ih := bk_inv hS hr hR hl h hm k (by omega)
  exact (bk_step hS hr hR ih (by omega) (b := l.getD k []) (by rw [hg]; exact hx.1) (by rw [hg]; exact hx.2)).1
theorem ot_inv {O : OO} (hS : SB O) {R : OB} (hr : R = bO) (hR : ∀ n : Int, (R.row n).length ≤ 10) {l : List (List Int)} (hl : ∀ x ∈ l, byB x = true ∧ x.length ≤ 100) (h20 : l.length ≤ 20) {bs : List Int} (hb : ∀ n ∈ bs, -9223372036854775808 ≤ n ∧ n ≤ 9223372036854775807) (h5 : bs.length ≤ 5) : ∀ i, i ≤ bs.length → OtI O R (otS O R l bs i) (20 * i)
 | 0, _ => ⟨fun x hx => (by cases hx), Nat.le_refl _, (show (-9223372036854775808 : Int) ≤ -1 ∧ (-1 : Int) ≤ 9223372036854775807 by decide), [], torn_nil hr, rfl, by simp, rfl, fun _ => ⟨rfl, rfl⟩⟩
 | i + 1, hi => by
  have hg : bs.getD i 0 = bs[i] := by rw [List.getD_eq_getElem?_getD, List.getElem?_eq_getElem hi]; rfl
  have ih := ot_inv hS hr hR hl h20 hb h5 i (by omega)
  have k := bk_inv hS hr hR hl (op_inv hS hr ih (n := bs.getD i 0) (by rw [hg]; exact hb _ (List.getElem_mem hi))) (by omega) l.length (Nat.le_refl _)
  exact ⟨k.ok, by have := k.few; show (bkS O R l (opS O R (otS O R l bs i) (bs.getD i 0)) l.length).X.length ≤ _; omega, k.bu, k.torn⟩
end Go.Proofs.Ytaohpdhhbnempaa
