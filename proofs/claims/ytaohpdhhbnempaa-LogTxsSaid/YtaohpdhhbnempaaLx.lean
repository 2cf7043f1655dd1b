/- Log, plainly: disks that fail, rows of up to sixty thousand bytes. No program in sight. -/
import Derived.Test.YtaohpdhhbnempaaLu
namespace Go.Proofs.Ytaohpdhhbnempaa
open Go Go.RowKit Go.Lib Ckp Cfd Cpd Sx
set_option linter.unusedVariables false
set_option linter.unusedSimpArgs false
structure OtX (O : OO) (R : OB) (s : BK) (m : Nat) : Prop where
 ok : ∀ x ∈ s.X, byB x = true ∧ x.length ≤ 60000
 few : s.X.length ≤ m
 bu : -9223372036854775808 ≤ s.B ∧ s.B ≤ 9223372036854775807
 torn : ∃ t, Torn O R t ∧ byB t = true ∧ t.length ≤ 60018 ∧ s.L = rowsB O R s.X ++ t ∧ (s.Br = false → t = [] ∧ s.D = false)
structure BkX (O : OO) (R : OB) (s : BK) (m : Nat) : Prop extends OtX O R s m where
 dead : s.Br = true → s.D = true
 ends : s.N = ((rowsB O R s.X).length : Int)
theorem row60018 {O : OO} {R : OB} (hr : R = bO) (hR : ∀ n : Int, (R.row n).length ≤ 10) (x : List Int) (hx : x.length ≤ 60000) : (lgRow O R x).length ≤ 60018 := by
 have := lg_len (O := O) hr x
 have := hR (x.length : Int)
 omega
theorem rowsB_leX {O : OO} {R : OB} {c : Nat} : ∀ {l : List (List Int)}, (∀ x ∈ l, (lgRow O R x).length ≤ c) → (rowsB O R l).length ≤ c * l.length
 | [], _ => Nat.le_refl _
 | x :: xs, h => by
  have h1 := h x (List.mem_cons_self ..)
  have h2 := rowsB_leX (l := xs) fun y hy => h y (List.mem_cons_of_mem _ hy)
  rw [rowsB, zlA, List.length_cons, Nat.mul_succ]; omega
theorem ox_len {O : OO} {R : OB} (hr : R = bO) (hR : ∀ n : Int, (R.row n).length ≤ 10) {s : BK} {m : Nat} (h : OtX O R s m) : (rowsB O R s.X).length ≤ 60018 * m ∧ s.L.length ≤ 60018 * m + 60018 := by
 obtain ⟨t, _, _, h3, h4, _⟩ := h.torn
 have := rowsB_leX (O := O) (R := R) (c := 60018) (l := s.X) fun x hx => row60018 (O := O) hr hR x (h.ok x hx).2
 have := h.few
 have h5 : 60018 * s.X.length ≤ 60018 * m := Nat.mul_le_mul_left _ this
 rw [h4, zlA]
 omega
theorem ox_byB {O : OO} (hS : SB O) {R : OB} (hr : R = bO) {s : BK} {m : Nat} (h : OtX O R s m) : byB s.L = true := by
 obtain ⟨t, _, h2, _, h4, _⟩ := h.torn
 rw [h4, byB_app, h2, tnB_byB hS hr fun x hx => (h.ok x hx).1]; rfl
theorem ox_found {O : OO} (hS : SB O) {R : OB} (hr : R = bO) {s : BK} {m : Nat} (h : OtX O R s m) : lgRows O R s.L = s.X ∧ lgEnd O R s.L = (rowsB O R s.X).length ∧ s.L.take (lgEnd O R s.L) = rowsB O R s.X := by
 obtain ⟨t, h1, h2, _, h4, _⟩ := h.torn
 have k := lg_found hS hr (xs := s.X) (t := t) (fun x hx => ⟨(h.ok x hx).1, by have := (h.ok x hx).2; omega⟩) h2 h1
 rw [← h4] at k
 refine ⟨k.1, k.2, ?_⟩
 rw [k.2, h4, List.take_left]
theorem ox_inv {O : OO} (hS : SB O) {R : OB} (hr : R = bO) {s : BK} {m : Nat} (h : OtX O R s m) {n : Int} (hn : -9223372036854775808 ≤ n ∧ n ≤ 9223372036854775807) : BkX O R (opS O R s n) m := by
 obtain ⟨_, f2, f3⟩ := ox_found hS hr h
 refine ⟨⟨h.ok, h.few, hn, [], torn_nil hr, rfl, by simp, ?_, fun _ => ⟨rfl, rfl⟩⟩, fun h => (by cases h), ?_⟩
 ·show s.L.take _ = _
  rw [f3, List.append_nil]; rfl
 ·show ((lgEnd O R s.L : Nat) : Int) = _
  rw [f2]; rfl
theorem bx_step {O : OO} (hS : SB O) {R : OB} (hr : R = bO) (hR : ∀ n : Int, (R.row n).length ≤ 10) {s : BK} {m : Nat} (h : BkX O R s m) (hm : m ≤ 12) {b : List Int} (hb : byB b = true) (hl : b.length ≤ 60000) :
  BkX O R (bkN1 O R s b) (m + 1) ∧ (apE O R s.L s.B s.D s.Br s.N b = 0 ∨ apE O R s.L s.B s.D s.Br s.N b = 21 ∧ apD O R s.L s.B s.D s.Br s.N b = true) := by
 obtain ⟨X, L, B, D, N, Br⟩ := s
 have hbu := h.bu
 have hot := ox_len hr hR h.toOtX
 obtain ⟨t, t1, t2, t3, t4, t5⟩ := h.torn
 cases Br with
 | true =>
  have hD : D = true := h.dead rfl
  subst hD
  have E : apE O R L B true true N b = 21 := rfl
  refine ⟨⟨⟨h.ok, Nat.le_succ_of_le h.few, h.bu, t, t1, t2, t3, t4, fun h => by cases h⟩, fun _ => rfl, h.ends⟩, .inr ⟨E, rfl⟩⟩
 | false =>
  obtain ⟨rfl, hD⟩ := t5 rfl
  have hD : D = false := hD
  subst hD
  have hL : L = rowsB O R X := by have : L = rowsB O R X ++ [] := t4; rw [this, List.append_nil]
  have hN : N = ((rowsB O R X).length : Int) := h.ends
  have hrow := row60018 (O := O) hr hR b hl
  have hok : ∀ x ∈ X, byB x = true ∧ x.length ≤ 60000 := h.ok
  have hfew : X.length ≤ m := h.few
  have hbu : -9223372036854775808 ≤ B ∧ B ≤ 9223372036854775807 := h.bu
  have hlen : (rowsB O R X).length ≤ 60018 * m := hot.1
  have c1 : agN O R b N = false := by
   unfold agN
   rw [show iLt 65536 (b.length : Int) = false by simp only [iLt_f]; omega, cond_false]
   simp only [iLt_f]; omega
  have c2 : wrN L (lgRow O R b) false = false := by
   unfold wrN
   rw [cond_false, hL]
   simp only [iLt_f]; omega
  have W : apW O R false false N b = true := by unfold apW; rw [c1]; rfl
  have eL : apL O R L B false false N b = L ++ (lgRow O R b).take (wrK B (lgRow O R b).length) := by unfold apL wrL; rw [W, c2]; rfl
  have eB : apB O R L B false false N b = bif iLt B 0 then B else B - (wrK B (lgRow O R b).length : Nat) := by unfold apB wrB; rw [W, c2]; rfl
  have eD : apD O R L B false false N b = Nat.blt (wrK B (lgRow O R b).length) (lgRow O R b).length := by unfold apD wrD; rw [W, c2]; rfl
  have eO : wrO L (lgRow O R b) B false = !(Nat.blt (wrK B (lgRow O R b).length) (lgRow O R b).length) := by unfold wrO; rw [c2]; rfl
  have hB' : -9223372036854775808 ≤ apB O R L B false false N b ∧ apB O R L B false false N b ≤ 9223372036854775807 := by
   rw [eB]
   cases q : iLt B 0
   ·simp only [iLt_f] at q
    rw [cond_false]
    have : wrK B (lgRow O R b).length ≤ (lgRow O R b).length := by
     unfold wrK
     rw [show iLt B 0 = false by simp only [iLt_f]; exact q]
     exact Nat.min_le_left _ _
    omega
   ·rw [cond_true]; exact hbu
  have hlr := lg_byB hS hr hb
  cases q : Nat.blt (wrK B (lgRow O R b).length) (lgRow O R b).length
  ·have hK : (lgRow O R b).take (wrK B (lgRow O R b).length) = lgRow O R b := List.take_of_length_le (by
    have : ¬ wrK B (lgRow O R b).length < (lgRow O R b).length := fun h => by rw [← Nat.blt_eq, q] at h; cases h
    omega)
   rw [q] at eO eD
   rw [hK] at eL
   have E : apE O R L B false false N b = 0 := by unfold apE; rw [c1, eO]; rfl
   have eX : apX O R L B false false N b X = X ++ [b] := by unfold apX; rw [E]; rfl
   have eN : apM O R L B false false N b = N + ((lgRow O R b).length : Int) := by unfold apM; rw [E]; rfl
   have eR : apR O R L B false false N b = false := by unfold apR; rw [W, eO]; rfl
   have eRows : rowsB O R (X ++ [b]) = rowsB O R X ++ lgRow O R b := by rw [rowsB_app]; show _ ++ (lgRow O R b ++ []) = _; rw [List.append_nil]
   refine ⟨⟨⟨?_, ?_, hB', [], torn_nil hr, rfl, by simp, ?_, fun _ => ⟨rfl, ?_⟩⟩, fun h => ?_, ?_⟩, .inl E⟩
   ·intro x hx
    have hx : x ∈ apX O R L B false false N b X := hx
    rw [eX] at hx
    rcases List.mem_append.1 hx with hx | hx
    ·exact hok x hx
    ·rw [List.mem_singleton] at hx; subst hx; exact ⟨hb, hl⟩
   ·show (apX O R L B false false N b X).length ≤ m + 1
    rw [eX, zlA]; simp only [List.length_cons, List.length_nil]; omega
   ·show apL O R L B false false N b = rowsB O R (apX O R L B false false N b X) ++ []
    rw [eL, eX, eRows, hL, List.append_nil]
   ·exact eD
   ·have h : apR O R L B false false N b = true := h
    rw [eR] at h; cases h
   ·show apM O R L B false false N b = ((rowsB O R (apX O R L B false false N b X)).length : Int)
    rw [eN, eX, eRows, zlA, hN]; omega
  ·rw [q] at eO eD
   have hK : wrK B (lgRow O R b).length < (lgRow O R b).length := by rw [← Nat.blt_eq]; exact q
   have E : apE O R L B false false N b = 21 := by unfold apE; rw [c1, eO]; rfl
   have eX : apX O R L B false false N b X = X := by unfold apX; rw [E]; rfl
   have eN : apM O R L B false false N b = N := by unfold apM; rw [E]; rfl
   have eR : apR O R L B false false N b = true := by unfold apR; rw [W, eO]; rfl
   refine ⟨⟨⟨?_, ?_, hB', _, ⟨b, _, by omega, hK, rfl⟩, byB_take hlr _, by rw [List.length_take]; omega, ?_, fun h => ?_⟩, fun _ => eD, ?_⟩, .inr ⟨E, eD⟩⟩
   ·intro x hx
    have hx : x ∈ apX O R L B false false N b X := hx
    rw [eX] at hx
    exact hok x hx
   ·show (apX O R L B false false N b X).length ≤ m + 1
    rw [eX]; omega
   ·show apL O R L B false false N b = rowsB O R (apX O R L B false false N b X) ++ _
    rw [eL, eX, hL]
   ·have h : apR O R L B false false N b = false := h
    rw [eR] at h; cases h
   ·show apM O R L B false false N b = ((rowsB O R (apX O R L B false false N b X)).length : Int)
    rw [eN, eX, hN]
end Go.Proofs.Ytaohpdhhbnempaa
