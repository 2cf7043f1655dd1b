/- Log, plainly: log and reference side by side. No program in sight. -/
import Derived.Test.YtaohpdhhbnempaaLg6
namespace Go.Proofs.Ytaohpdhhbnempaa
open Go Go.RowKit Go.Lib Ckp Cfd Cpd Sx
set_option linter.unusedVariables false
set_option linter.unusedSimpArgs false
/-- The log behind k rows more, on the disk b. -/
def tlA (O : OO) (R : OB) (b : List Int) (l : List (List Int)) (bu : Int) (k : Nat) : BK := bkS O R l (opS O R ⟨lgRows O R b, b, 0, false, 0, false⟩ bu) k
def tlX (O : OO) (R : OB) (b : List Int) (l : List (List Int)) (bu : Int) (k : Nat) : List (List Int) := (tlA O R b l bu k).X
def tlL (O : OO) (R : OB) (b : List Int) (l : List (List Int)) (bu : Int) (k : Nat) : List Int := (tlA O R b l bu k).L
def tlB (O : OO) (R : OB) (b : List Int) (l : List (List Int)) (bu : Int) (k : Nat) : Int := (tlA O R b l bu k).B
def tlD (O : OO) (R : OB) (b : List Int) (l : List (List Int)) (bu : Int) (k : Nat) : Bool := (tlA O R b l bu k).D
def tlN (O : OO) (R : OB) (b : List Int) (l : List (List Int)) (bu : Int) (k : Nat) : Int := (tlA O R b l bu k).N
def tlR (O : OO) (R : OB) (b : List Int) (l : List (List Int)) (bu : Int) (k : Nat) : Bool := (tlA O R b l bu k).Br
/-- Log and reference side by side. -/
structure TlI (O : OO) (R : OB) (had : List (List Int)) (s : BK) (p : KP) (m : Nat) : Prop where
 X : s.X = had ++ p.X
 N : s.N = ((rowsB O R s.X).length : Int)
 pN : p.N = s.N
 br : s.Br = p.D
 de : s.D = p.D
 sz : (rowsB O R s.X).length ≤ m
 bu : -9223372036854775808 ≤ s.B ∧ s.B ≤ 9223372036854775807
 torn : ∃ t, s.L = rowsB O R s.X ++ t ∧ (t.length : Int) = p.T ∧ t.length ≤ 118 ∧ (p.D = false → t = [] ∧ p.B = s.B)
theorem tl_step {O : OO} {R : OB} (hr : R = bO) (hR : ∀ n : Int, (R.row n).length ≤ 10) {had : List (List Int)} {s : BK} {p : KP} {m : Nat} (h : TlI O R had s p m) (hm : m ≤ 100000) {b : List Int} (hl : b.length ≤ 100) :
  TlI O R had (bkN1 O R s b) (kp1 O R p b) (m + 118) ∧ (kp1 O R p b).E = p.E ++ [apE O R s.L s.B s.D s.Br s.N b] := by
 obtain ⟨X, L, B, D, N, Br⟩ := s
 obtain ⟨pE, pX, pT, pD, pN, pB⟩ := p
 obtain ⟨hX, hN, hpN, hbr, hde, hsz, hbu, t, t1, t2, t3, t4⟩ := h
 have hbr : Br = pD := hbr
 have hde : D = pD := hde
 subst hbr
 subst hde
 cases D with
 | true =>
  exact ⟨⟨hX, hN, hpN, rfl, rfl, Nat.le_add_right_of_le hsz, hbu, t, t1, t2, t3, fun h => by cases h⟩, rfl⟩
 | false =>
  obtain ⟨rfl, hB⟩ := t4 rfl
  have hB : pB = B := hB
  subst hB
  have hN : N = ((rowsB O R X).length : Int) := hN
  have hpN : pN = N := hpN
  subst hpN
  have hX : X = had ++ pX := hX
  have hL : L = rowsB O R X := by have : L = rowsB O R X ++ [] := t1; rw [this, List.append_nil]
  have hT : pT = 0 := by have : (([] : List Int).length : Int) = pT := t2; simpa using this.symm
  have hsz : (rowsB O R X).length ≤ m := hsz
  have hbu : -9223372036854775808 ≤ pB ∧ pB ≤ 9223372036854775807 := hbu
  have hrow := row118 (O := O) hr hR b hl
  have c1 : agN O R b pN = false := by
   unfold agN
   rw [show iLt 65536 (b.length : Int) = false by simp only [iLt_f]; omega, cond_false]
   simp only [iLt_f]; omega
  have f1 : kpF O R ⟨pE, pX, pT, false, pN, pB⟩ b = false := by
   unfold kpF
   rw [show iLt 65536 (b.length : Int) = false by simp only [iLt_f]; omega, cond_false]
   simp only [iLt_f]; omega
  have c2 : wrN L (lgRow O R b) false = false := by
   unfold wrN
   rw [cond_false, hL]
   simp only [iLt_f]; omega
  have W : apW O R false false pN b = true := by unfold apW; rw [c1]; rfl
  have eL : apL O R L pB false false pN b = L ++ (lgRow O R b).take (wrK pB (lgRow O R b).length) := by unfold apL wrL; rw [W, c2]; rfl
  have eB : apB O R L pB false false pN b = bif iLt pB 0 then pB else pB - (wrK pB (lgRow O R b).length : Nat) := by unfold apB wrB; rw [W, c2]; rfl
  have eD : apD O R L pB false false pN b = Nat.blt (wrK pB (lgRow O R b).length) (lgRow O R b).length := by unfold apD wrD; rw [W, c2]; rfl
  have eO : wrO L (lgRow O R b) pB false = !(Nat.blt (wrK pB (lgRow O R b).length) (lgRow O R b).length) := by unfold wrO; rw [c2]; rfl
  have hK : kpG O R ⟨pE, pX, pT, false, pN, pB⟩ b = Nat.blt (wrK pB (lgRow O R b).length) (lgRow O R b).length ∧ (kpG O R ⟨pE, pX, pT, false, pN, pB⟩ b = true → (wrK pB (lgRow O R b).length : Int) = pB) ∧ (kpG O R ⟨pE, pX, pT, false, pN, pB⟩ b = false → wrK pB (lgRow O R b).length = (lgRow O R b).length) := by
   unfold kpG wrK
   cases q : iLt pB 0
   ·simp only [iLt_f] at q
    rw [show iLe 0 pB = true by simp only [iLe_t]; omega, cond_true, cond_false]
    cases q2 : iLt pB ((lgRow O R b).length : Int)
    ·simp only [iLt_f] at q2
     rw [Nat.min_eq_left (by omega)]
     exact ⟨by symm; rw [Bool.eq_false_iff, Ne, Nat.blt_eq]; omega, fun h => (by cases h), fun _ => rfl⟩
    ·simp only [iLt_t] at q2
     rw [Nat.min_eq_right (by omega)]
     exact ⟨by symm; rw [Nat.blt_eq]; omega, fun _ => by omega, fun h => by cases h⟩
   ·simp only [iLt_t] at q
    rw [show iLe 0 pB = false by simp only [iLe_f]; omega, cond_true, cond_false]
    exact ⟨by symm; rw [Bool.eq_false_iff, Ne, Nat.blt_eq]; omega, fun h => (by cases h), fun _ => rfl⟩
  obtain ⟨g1, g2, g3⟩ := hK
  rw [← g1] at eD eO
  cases g : kpG O R ⟨pE, pX, pT, false, pN, pB⟩ b
  ·rw [g] at eD eO
   have g3 := g3 g
   rw [g3, List.take_length] at eL
   rw [g3] at eB
   have E : apE O R L pB false false pN b = 0 := by unfold apE; rw [c1, eO]; rfl
   have eX : apX O R L pB false false pN b X = X ++ [b] := by unfold apX; rw [E]; rfl
   have eN : apM O R L pB false false pN b = pN + ((lgRow O R b).length : Int) := by unfold apM; rw [E]; rfl
   have eR : apR O R L pB false false pN b = false := by unfold apR; rw [W, eO]; rfl
   have eRows : rowsB O R (X ++ [b]) = rowsB O R X ++ lgRow O R b := by rw [rowsB_app]; show _ ++ (lgRow O R b ++ []) = _; rw [List.append_nil]
   have K1 : kp1 O R ⟨pE, pX, pT, false, pN, pB⟩ b = ⟨pE ++ [0], pX ++ [b], pT, false, pN + ((lgRow O R b).length : Int), bif iLe 0 pB then pB - ((lgRow O R b).length : Int) else pB⟩ := by unfold kp1; rw [f1, g]; rfl
   have S1 : bkN1 O R ⟨X, L, pB, false, pN, false⟩ b = ⟨X ++ [b], L ++ lgRow O R b, bif iLt pB 0 then pB else pB - ((lgRow O R b).length : Nat), false, pN + ((lgRow O R b).length : Int), false⟩ := by
    show BK.mk (apX O R L pB false false pN b X) (apL O R L pB false false pN b) (apB O R L pB false false pN b) (apD O R L pB false false pN b) (apM O R L pB false false pN b) (apR O R L pB false false pN b) = _
    rw [eX, eL, eB, eD, eN, eR]
   have hBB : (bif iLe 0 pB then pB - ((lgRow O R b).length : Int) else pB) = (bif iLt pB 0 then pB else pB - ((lgRow O R b).length : Int)) ∧ -9223372036854775808 ≤ (bif iLt pB 0 then pB else pB - ((lgRow O R b).length : Int)) ∧ (bif iLt pB 0 then pB else pB - ((lgRow O R b).length : Int)) ≤ 9223372036854775807 := by
    cases q : iLt pB 0
    ·simp only [iLt_f] at q
     rw [show iLe 0 pB = true by simp only [iLe_t]; omega, cond_true, cond_false]
     exact ⟨rfl, by omega, by omega⟩
    ·simp only [iLt_t] at q
     rw [show iLe 0 pB = false by simp only [iLe_f]; omega, cond_true, cond_false]
     exact ⟨rfl, by omega, by omega⟩
   have eLen : (rowsB O R (X ++ [b])).length = (rowsB O R X).length + (lgRow O R b).length := by rw [eRows, List.length_append]
   rw [S1, K1]
   refine ⟨⟨?_, ?_, rfl, rfl, rfl, ?_, hBB.2, [], ?_, ?_, by simp, fun _ => ⟨rfl, hBB.1⟩⟩, ?_⟩
   ·show X ++ [b] = had ++ (pX ++ [b])
    rw [hX, List.append_assoc]
   ·show pN + ((lgRow O R b).length : Int) = ((rowsB O R (X ++ [b])).length : Int)
    rw [eLen, hN]; omega
   ·show (rowsB O R (X ++ [b])).length ≤ m + 118
    rw [eLen]; omega
   ·show L ++ lgRow O R b = rowsB O R (X ++ [b]) ++ []
    rw [eRows, hL, List.append_nil]
   ·show (([] : List Int).length : Int) = pT
    rw [hT]; rfl
   ·show pE ++ [0] = pE ++ [apE O R L pB false false pN b]
    rw [E]
  ·rw [g] at eD eO
   have g2 := g2 g
   have E : apE O R L pB false false pN b = 21 := by unfold apE; rw [c1, eO]; rfl
   have eX : apX O R L pB false false pN b X = X := by unfold apX; rw [E]; rfl
   have eN : apM O R L pB false false pN b = pN := by unfold apM; rw [E]; rfl
   have eR : apR O R L pB false false pN b = true := by unfold apR; rw [W, eO]; rfl
   have K1 : kp1 O R ⟨pE, pX, pT, false, pN, pB⟩ b = ⟨pE ++ [21], pX, pB, true, pN, pB⟩ := by unfold kp1; rw [f1, g]; rfl
   have hlt : wrK pB (lgRow O R b).length < (lgRow O R b).length := by rw [← Nat.blt_eq, ← g1]; exact g
   have hB' : -9223372036854775808 ≤ apB O R L pB false false pN b ∧ apB O R L pB false false pN b ≤ 9223372036854775807 := by
    rw [eB, g2]
    cases q : iLt pB 0
    ·rw [cond_false]; omega
    ·rw [cond_true]; exact hbu
   have S1 : bkN1 O R ⟨X, L, pB, false, pN, false⟩ b = ⟨X, L ++ (lgRow O R b).take (wrK pB (lgRow O R b).length), apB O R L pB false false pN b, true, pN, true⟩ := by
    show BK.mk (apX O R L pB false false pN b X) (apL O R L pB false false pN b) (apB O R L pB false false pN b) (apD O R L pB false false pN b) (apM O R L pB false false pN b) (apR O R L pB false false pN b) = _
    rw [eX, eL, eD, eN, eR]
   rw [S1, K1]
   refine ⟨⟨hX, hN, rfl, rfl, rfl, Nat.le_add_right_of_le hsz, hB', (lgRow O R b).take (wrK pB (lgRow O R b).length), ?_, ?_, by rw [List.length_take]; omega, fun h => by cases h⟩, ?_⟩
   ·show L ++ _ = rowsB O R X ++ _
    rw [hL]
   ·show (((lgRow O R b).take (wrK pB (lgRow O R b).length)).length : Int) = pB
    rw [List.length_take, Nat.min_eq_left (by omega)]; exact g2
   ·show pE ++ [21] = pE ++ [apE O R L pB false false pN b]
    rw [E]
theorem lg_bytes {O : OO} (hS : SB O) {R : OB} (hr : R = bO) {b : List Int} (hb : byB b = true) : ∀ k, b.take (lgS O R b k).2 = rowsB O R (lgS O R b k).1 ∧ (lgS O R b k).2 ≤ b.length
 | 0 => ⟨rfl, Nat.zero_le _⟩
 | k + 1 => by
  have ih := lg_bytes hS hr hb k
  cases c : nxtOk O R b (lgS O R b k).2
  ·have : lgS O R b (k + 1) = lgS O R b k := by
    show (bif nxtOk O R b (lgS O R b k).2 then _ else lgS O R b k) = _
    rw [c]; rfl
   rw [this]; exact ih
  ·have st : lgS O R b (k + 1) = ((lgS O R b k).1 ++ [nxtB R b (lgS O R b k).2], (lgS O R b k).2 + (lgRow O R (nxtB R b (lgS O R b k).2)).length) := by
    show (bif nxtOk O R b (lgS O R b k).2 then _ else lgS O R b k) = _
    rw [c]; rfl
   have hp : prfE (b.drop (lgS O R b k).2) (lgRow O R (nxtB R b (lgS O R b k).2)) = true := by
    unfold nxtOk at c
    cases t : nxtT R b (lgS O R b k).2
    ·rw [t] at c; exact c
    ·rw [t] at c; cases c
   have hB : byB (nxtB R b (lgS O R b k).2) = true := byB_take (byB_drop hb _) _
   have hlr := lg_byB hS hr hB
   unfold prfE at hp
   cases q : iLe ((lgRow O R (nxtB R b (lgS O R b k).2)).length : Int) ((b.drop (lgS O R b k).2).length : Int)
   ·rw [q] at hp; cases hp
   ·rw [q, cond_true] at hp
    have e := (strE_iff (byB_take (byB_drop hb _) _) hlr).1 hp
    simp only [iLe_t, List.length_drop] at q
    rw [st]
    refine ⟨?_, by show (lgS O R b k).2 + _ ≤ _; omega⟩
    show b.take ((lgS O R b k).2 + _) = rowsB O R (_ ++ [_])
    rw [rowsB_app, List.take_add, ih.1, e]
    show _ = _ ++ (lgRow O R _ ++ [])
    rw [List.append_nil]
/-- The log that is opened on bytes. -/
theorem tl_inv {O : OO} (hS : SB O) {R : OB} (hr : R = bO) (hR : ∀ n : Int, (R.row n).length ≤ 10) {b : List Int} (hb : byB b = true) (hb5 : b.length ≤ 500) {l : List (List Int)} (hl : ∀ x ∈ l, x.length ≤ 100) (h20 : l.length ≤ 20) {bu : Int} (hbu : -9223372036854775808 ≤ bu ∧ bu ≤ 9223372036854775807) : ∀ k, k ≤ l.length → TlI O R (lgRows O R b) (tlA O R b l bu k) (kpS O R l (lgEnd O R b : Nat) bu k) (500 + 118 * k)
 | 0, _ => by
  have e := lg_bytes hS hr hb (b.length + 1)
  have e1 : b.take (lgEnd O R b) = rowsB O R (lgRows O R b) := e.1
  have e2 : lgEnd O R b ≤ b.length := e.2
  have e3 : (rowsB O R (lgRows O R b)).length = lgEnd O R b := by rw [← e1, List.length_take]; omega
  refine ⟨(List.append_nil _).symm, ?_, rfl, rfl, rfl, ?_, hbu, [], ?_, rfl, by simp, fun _ => ⟨rfl, rfl⟩⟩
  ·show ((lgEnd O R b : Nat) : Int) = ((rowsB O R (lgRows O R b)).length : Int)
   rw [e3]
  ·show (rowsB O R (lgRows O R b)).length ≤ 500 + 118 * 0
   omega
  ·show b.take (lgEnd O R b) = rowsB O R (lgRows O R b) ++ []
   rw [e1, List.append_nil]
 | k + 1, hk => by
  have hg : l.getD k [] = l[k] := by rw [List.getD_eq_getElem?_getD, List.getElem?_eq_getElem hk]; rfl
  have ih := tl_inv hS hr hR hb hb5 hl h20 hbu k (by omega)
  have := (tl_step hr hR ih (by omega) (b := l.getD k []) (by rw [hg]; exact hl _ (List.getElem_mem hk))).1
  rw [show 500 + 118 * (k + 1) = 500 + 118 * k + 118 by omega]
  exact this
/-- The errors are the reference's. -/
theorem tl_errs {O : OO} (hS : SB O) {R : OB} (hr : R = bO) (hR : ∀ n : Int, (R.row n).length ≤ 10) {b : List Int} (hb : byB b = true) (hb5 : b.length ≤ 500) {l : List (List Int)} (hl : ∀ x ∈ l, x.length ≤ 100) (h20 : l.length ≤ 20) {bu : Int} (hbu : -9223372036854775808 ≤ bu ∧ bu ≤ 9223372036854775807) : ∀ n, n ≤ l.length → (kpS O R l (lgEnd O R b : Nat) bu n).E.length = n ∧ ∀ i, i < n → (kpS O R l (lgEnd O R b : Nat) bu n).E.getD i 0 = apE O R (tlL O R b l bu i) (tlB O R b l bu i) (tlD O R b l bu i) (tlR O R b l bu i) (tlN O R b l bu i) (l.getD i [])
 | 0, _ => ⟨rfl, fun i hi => absurd hi (Nat.not_lt_zero _)⟩
 | n + 1, hn => by
  have ih := tl_errs hS hr hR hb hb5 hl h20 hbu n (by omega)
  have hg : l.getD n [] = l[n] := by rw [List.getD_eq_getElem?_getD, List.getElem?_eq_getElem hn]; rfl
  have st := (tl_step hr hR (tl_inv hS hr hR hb hb5 hl h20 hbu n (by omega)) (by omega) (b := l.getD n []) (by rw [hg]; exact hl _ (List.getElem_mem hn))).2
  have e : (kpS O R l (lgEnd O R b : Nat) bu (n + 1)).E = (kpS O R l (lgEnd O R b : Nat) bu n).E ++ [apE O R (tlL O R b l bu n) (tlB O R b l bu n) (tlD O R b l bu n) (tlR O R b l bu n) (tlN O R b l bu n) (l.getD n [])] := st
  refine ⟨by rw [e, List.length_append, ih.1]; rfl, fun i hi => ?_⟩
  rw [e]
  by_cases q : i = n
  ·subst q
   rw [List.getD_eq_getElem?_getD, List.getElem?_append_right (by omega), ih.1, Nat.sub_self]; rfl
  ·rw [List.getD_eq_getElem?_getD, List.getElem?_append_left (by omega), ← List.getD_eq_getElem?_getD]
   exact ih.2 i (by omega)
end Go.Proofs.Ytaohpdhhbnempaa
