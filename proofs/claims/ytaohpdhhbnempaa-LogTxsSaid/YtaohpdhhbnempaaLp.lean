/- Log, plainly: rows on a disk, and which of them are found again. No program in sight. -/
import Derived.Test.YtaohpdhhbnempaaLg1
namespace Go.Proofs.Ytaohpdhhbnempaa
open Go Go.RowKit Go.Lib Ckp Cfd Cpd Sx
set_option linter.unusedVariables false
set_option linter.unusedSimpArgs false
theorem u8_inj : ∀ (a b : List Int), byB a = true → byB b = true → (a.map fun n => UInt8.ofNat n.toNat) = (b.map fun n => UInt8.ofNat n.toNat) → a = b
 | [], [], _, _, _ => rfl
 | [], _ :: _, _, _, h => by simp at h
 | _ :: _, [], _, _, h => by simp at h
 | x :: a, y :: b, ha, hb, h => by
  rw [byB_iff] at ha hb
  simp only [List.map_cons, List.cons.injEq] at h
  have hx := ha x (List.mem_cons_self ..)
  have hy := hb y (List.mem_cons_self ..)
  have e : x.toNat = y.toNat := by
   have := congrArg UInt8.toNat h.1
   simp only [UInt8.toNat_ofNat'] at this
   omega
  have ih := u8_inj a b (byB_iff.2 fun z hz => ha z (List.mem_cons_of_mem _ hz)) (byB_iff.2 fun z hz => hb z (List.mem_cons_of_mem _ hz)) h.2
  rw [ih]
  congr 1
  omega
theorem strE_iff {a b : List Int} (ha : byB a = true) (hb : byB b = true) : strE a b = true ↔ a = b := by
 unfold strE
 rw [beq_iff_eq, ByteArray.toList_eq, ByteArray.toList_eq]
 refine ⟨fun h => u8_inj a b ha hb h, fun h => by rw [h]⟩
theorem tab_mem (f : Nat → Int) : ∀ n i : Nat, i < n → f i ∈ tabI f n
 | n + 1, i, h => by
  rw [tabI, List.mem_append, List.mem_singleton]
  by_cases q : i = n
  ·rw [q]; exact .inr rfl
  ·exact .inl (tab_mem f n i (by omega))
def nxtF (R : OB) (b : List Int) (e : Nat) : Int := (b.length : Int) - ((R.nR (b.drop e)).length : Int) + 8
def nxtB (R : OB) (b : List Int) (e : Nat) : List Int := (b.drop (nxtF R b e).toNat).take (R.nV (b.drop e)).toNat
def nxtT (R : OB) (b : List Int) (e : Nat) : Bool := bif (bif !(R.nOk (b.drop e)) then true else iLt 65536 (R.nV (b.drop e))) then true else iLt (((R.nR (b.drop e)).length : Int) - 8) (R.nV (b.drop e))
def nxtOk (O : OO) (R : OB) (b : List Int) (e : Nat) : Bool := bif nxtT R b e then false else prfE (b.drop e) (lgRow O R (nxtB R b e))
def lgS (O : OO) (R : OB) (b : List Int) : Nat → List (List Int) × Nat
 | 0 => ([], 0)
 | k + 1 => bif nxtOk O R b (lgS O R b k).2 then ((lgS O R b k).1 ++ [nxtB R b (lgS O R b k).2], (lgS O R b k).2 + (lgRow O R (nxtB R b (lgS O R b k).2)).length) else lgS O R b k
def lgRows (O : OO) (R : OB) (b : List Int) : List (List Int) := (lgS O R b (b.length + 1)).1
def lgEnd (O : OO) (R : OB) (b : List Int) : Nat := (lgS O R b (b.length + 1)).2
def rowsB (O : OO) (R : OB) : List (List Int) → List Int
 | [] => []
 | x :: xs => lgRow O R x ++ rowsB O R xs
theorem row_pos {R : OB} (hr : R = bO) (n : Int) : 0 < (R.row n).length := by
 subst hr
 show 0 < (rowG 10 n).length
 by_cases h : n < 128
 ·rw [rowG_small 9 h]; simp
 ·rw [rowG_big 9 (by omega)]; simp
theorem tab_length (f : Nat → Int) : ∀ n, (tabI f n).length = n
 | 0 => rfl
 | n + 1 => by rw [tabI, zlA, tab_length f n]; rfl
theorem lg_len {O : OO} {R : OB} (hr : R = bO) (x : List Int) : (lgRow O R x).length = (R.row (x.length : Int)).length + 8 + x.length := by
 unfold lgRow; rw [zlA, zlA, tab_length]
theorem lg_pos {O : OO} {R : OB} (hr : R = bO) (x : List Int) : 9 ≤ (lgRow O R x).length := by
 have := row_pos hr (x.length : Int)
 rw [lg_len hr]; omega
theorem byB_take {l : List Int} (h : byB l = true) (n : Nat) : byB (l.take n) = true := by
 rw [byB_iff] at h ⊢; exact fun x hx => h x (List.mem_of_mem_take hx)
theorem byB_drop {l : List Int} (h : byB l = true) (n : Nat) : byB (l.drop n) = true := by
 rw [byB_iff] at h ⊢; exact fun x hx => h x (List.mem_of_mem_drop hx)
def SB (O : OO) : Prop := ∀ (l : List Int) (i : Nat), i < 32 → 0 ≤ O.sum l i ∧ O.sum l i < 256
theorem tab_byB {f : Nat → Int} : ∀ n : Nat, (∀ i, i < n → 0 ≤ f i ∧ f i < 256) → byB (tabI f n) = true
 | 0, _ => rfl
 | n + 1, h => by
  rw [tabI, byB_app, tab_byB n (fun i hi => h i (by omega)), Bool.true_and, byB_iff]
  intro x hx
  rw [List.mem_singleton] at hx
  subst hx
  exact h n (by omega)
theorem lg_byB {O : OO} (hS : SB O) {R : OB} (hr : R = bO) {x : List Int} (hx : byB x = true) : byB (lgRow O R x) = true := by
 subst hr
 unfold lgRow
 rw [byB_app, byB_app, hx, tab_byB 8 (fun i hi => hS x i (by omega)), Bool.and_true, Bool.and_true]
 exact rowG_byB 10 _ (by omega)
theorem nxt_row {O : OO} (hS : SB O) {R : OB} (hr : R = bO) {p x t : List Int} (hx : byB x = true) (hl : x.length ≤ 65536) (ht : byB t = true) :
  nxtOk O R (p ++ (lgRow O R x ++ t)) p.length = true ∧ nxtB R (p ++ (lgRow O R x ++ t)) p.length = x := by
 have hb := lg_byB (O := O) hS hr hx
 have hd : (p ++ (lgRow O R x ++ t)).drop p.length = lgRow O R x ++ t := List.drop_left ..
 have k := num_row (tabI (O.sum x) 8 ++ x ++ t) (n := (x.length : Int)) (by omega) (by omega)
 have hL : lgRow O R x ++ t = rowI (x.length : Int) ++ (tabI (O.sum x) 8 ++ x ++ t) := by subst hr; unfold lgRow; show rowI _ ++ _ ++ _ ++ _ = _; simp
 have e1 : R.nOk (lgRow O R x ++ t) = true := by subst hr; rw [hL]; exact congrArg (fun x => x.1) k
 have e2 : R.nV (lgRow O R x ++ t) = (x.length : Int) := by subst hr; rw [hL]; exact congrArg (fun x => x.2.1) k
 have e3 : R.nR (lgRow O R x ++ t) = tabI (O.sum x) 8 ++ x ++ t := by
  subst hr
  rw [hL]
  show (bif (numG (rowI (x.length : Int) ++ (tabI (O.sum x) 8 ++ x ++ t)) 10 0 0).1 then (rowI (x.length : Int) ++ (tabI (O.sum x) 8 ++ x ++ t)).drop (numG (rowI (x.length : Int) ++ (tabI (O.sum x) 8 ++ x ++ t)) 10 0 0).2.2 else []) = _
  rw [k]
  show (rowI _ ++ _).drop (rowI _).length = _
  rw [List.drop_left]
 have hB : nxtB R (p ++ (lgRow O R x ++ t)) p.length = x := by
  unfold nxtB nxtF
  rw [hd, e2, e3]
  have hn : ((((p ++ (lgRow O R x ++ t)).length : Nat) : Int) - ((tabI (O.sum x) 8 ++ x ++ t).length : Int) + 8).toNat = p.length + ((R.row (x.length : Int)).length + 8) := by
   have := lg_len (O := O) hr x
   simp only [zlA, tab_length] at this ⊢
   omega
  rw [hn, ztN, ← List.drop_drop, hd, ← List.drop_drop]
  unfold lgRow
  rw [List.append_assoc, List.append_assoc, List.drop_left]
  have h8 : (tabI (O.sum x) 8).length = 8 := tab_length _ 8
  rw [show (tabI (O.sum x) 8 ++ (x ++ t)).drop 8 = x ++ t from List.drop_left' h8]
  rw [List.take_left]
 refine ⟨?_, hB⟩
 unfold nxtOk nxtT
 rw [hB, hd, e1, e2, e3, show iLt 65536 (x.length : Int) = false by simp only [iLt_f]; omega, show iLt (((tabI (O.sum x) 8 ++ x ++ t).length : Int) - 8) (x.length : Int) = false by
  simp only [iLt_f, zlA, tab_length]; omega]
 show prfE (lgRow O R x ++ t) (lgRow O R x) = true
 unfold prfE
 rw [show iLe ((lgRow O R x).length : Int) ((lgRow O R x ++ t).length : Int) = true by simp only [iLe_t, zlA]; omega, cond_true, List.take_left]
 exact (strE_iff hb hb).2 rfl
theorem num_torn : ∀ (k : Nat) (pre : List Int) (n a : Int) (f g j : Nat), pre.length + k = 9 → 9 ≤ f + pre.length → 0 ≤ n → n < 2 ^ (63 - 7 * pre.length) → (0 < pre.length → 0 < n) → j < (rowG f n).length →
  (numG (pre ++ (rowG f n).take j) g pre.length a).1 = false
 | _, pre, n, a, f, 0, j, _, _, _, _, _, _ => rfl
 | 0, pre, n, a, f, g + 1, j, h1, h2, h4, h5, h6, h7 => by
  have : pre.length = 9 := by omega
  rw [this] at h5 h6
  simp at h5
  have := h6 (by decide)
  omega
 | k + 1, pre, n, a, f, g + 1, j, h1, h2, h4, h5, h6, h7 => by
  obtain ⟨f, rfl⟩ : ∃ f', f = f' + 1 := ⟨f - 1, by omega⟩
  cases j with
  | zero =>
   have hw : wrF (pre ++ (rowG (f + 1) n).take 0) pre.length = true := by
    cases c : wrF (pre ++ (rowG (f + 1) n).take 0) pre.length
    ·have := (wr_f.1 c).1; simp at this
    ·rfl
   rw [numG, hw]; rfl
  | succ j =>
   by_cases hn : n < 128
   ·rw [rowG_small f hn] at h7; simp at h7
   ·rw [rowG_big f (by omega)] at h7 ⊢
    have hk : pre.length ≤ 7 := by
     apply Nat.le_of_not_lt
     intro hc
     have : pre.length = 8 := by omega
     rw [this] at h5
     simp at h5
     omega
    have hd : dgt (pre ++ List.take (j + 1) ((n % 128 + 128) :: rowG f (n / 128))) pre.length = n % 128 + 128 := by simp [dgt]
    rw [numG, hd, show iLt (n % 128 + 128) 128 = false by simp only [iLt_f]; omega]
    cases wrF (pre ++ List.take (j + 1) ((n % 128 + 128) :: rowG f (n / 128))) pre.length
    ·rw [cond_false, cond_false, List.take_succ_cons]
     have e : (2 : Int) ^ (63 - 7 * pre.length) = 128 * 2 ^ (63 - 7 * (pre.length + 1)) := by
      rw [show 63 - 7 * pre.length = 63 - 7 * (pre.length + 1) + 7 by omega, Int.pow_add]
      simp only [Int.reducePow]; omega
     rw [e] at h5
     have ih := fun a' => num_torn k (pre ++ [n % 128 + 128]) (n / 128) a' f g j (by simp; omega) (by simp; omega) (by omega) (by simp only [zlA, List.length_cons, List.length_nil, Nat.zero_add]; omega) (by simp; omega) (by simpa using h7)
     simp only [zlA, List.length_cons, List.length_nil, Nat.zero_add, List.append_assoc, List.cons_append, List.nil_append] at ih
     exact ih _
    ·rfl
theorem nxt_torn {O : OO} {R : OB} (hr : R = bO) {p x : List Int} (hl : x.length ≤ 65536) {j : Nat} (hj : j < (lgRow O R x).length) : nxtOk O R (p ++ (lgRow O R x).take j) p.length = false := by
 have hd : (p ++ (lgRow O R x).take j).drop p.length = (lgRow O R x).take j := List.drop_left ..
 have hlen := lg_len (O := O) hr x
 have key : nxtT R (p ++ (lgRow O R x).take j) p.length = true := by
  unfold nxtT
  rw [hd]
  subst hr
  by_cases q : j < (rowI (x.length : Int)).length
  ·have e : (lgRow O bO x).take j = (rowI (x.length : Int)).take j := by
    unfold lgRow
    rw [List.append_assoc, List.take_append_of_le_length (by show j ≤ (rowI _).length; omega)]; rfl
   have := num_torn 9 [] (x.length : Int) 0 10 10 j rfl (by simp) (by omega) (by simp only [List.length_nil, Nat.mul_zero, Nat.sub_zero, Int.reducePow]; omega) (fun h => by simp at h) q
   have h0 : bO.nOk ((lgRow O bO x).take j) = false := by rw [e]; exact this
   rw [h0]; rfl
  ·have e : (lgRow O bO x).take j = rowI (x.length : Int) ++ (tabI (O.sum x) 8 ++ x).take (j - (rowI (x.length : Int)).length) := by
    unfold lgRow
    rw [List.append_assoc]
    show (rowI _ ++ _).take j = _
    rw [List.take_append, List.take_of_length_le (by omega)]
   have k := num_row ((tabI (O.sum x) 8 ++ x).take (j - (rowI (x.length : Int)).length)) (n := (x.length : Int)) (by omega) (by omega)
   have e1 : bO.nOk ((lgRow O bO x).take j) = true := by rw [e]; exact congrArg (fun x => x.1) k
   have e2 : bO.nV ((lgRow O bO x).take j) = (x.length : Int) := by rw [e]; exact congrArg (fun x => x.2.1) k
   have e3 : bO.nR ((lgRow O bO x).take j) = (tabI (O.sum x) 8 ++ x).take (j - (rowI (x.length : Int)).length) := by
    rw [e]
    show (bif (numG (rowI (x.length : Int) ++ (tabI (O.sum x) 8 ++ x).take (j - (rowI (x.length : Int)).length)) 10 0 0).1 then (rowI (x.length : Int) ++ (tabI (O.sum x) 8 ++ x).take (j - (rowI (x.length : Int)).length)).drop (numG (rowI (x.length : Int) ++ (tabI (O.sum x) 8 ++ x).take (j - (rowI (x.length : Int)).length)) 10 0 0).2.2 else []) = _
    rw [k]
    show (rowI _ ++ _).drop (rowI _).length = _
    rw [List.drop_left]
   have hr2 : (bO.row (x.length : Int)).length = (rowI (x.length : Int)).length := rfl
   rw [e1, e2, e3, show iLt (((((tabI (O.sum x) 8 ++ x).take (j - (rowI (x.length : Int)).length)).length : Nat) : Int) - 8) (x.length : Int) = true by
    simp only [iLt_t, List.length_take, zlA, tab_length]; omega]
   cases (bif !true then true else iLt 65536 (x.length : Int)) <;> rfl
 unfold nxtOk
 rw [key]; rfl
def Torn (O : OO) (R : OB) (t : List Int) : Prop := ∃ x j, x.length ≤ 65536 ∧ j < (lgRow O R x).length ∧ t = (lgRow O R x).take j
theorem torn_nil {O : OO} {R : OB} (hr : R = bO) : Torn O R [] := ⟨[], 0, by simp, by have := lg_pos (O := O) hr []; omega, rfl⟩
theorem lgS_add {O : OO} (hS : SB O) {R : OB} (hr : R = bO) {t : List Int} (ht : byB t = true) : ∀ (xs : List (List Int)) (b p : List Int) (k : Nat), (∀ x ∈ xs, byB x = true ∧ x.length ≤ 65536) → b = p ++ (rowsB O R xs ++ t) → (lgS O R b k).2 = p.length →
  lgS O R b (k + xs.length) = ((lgS O R b k).1 ++ xs, p.length + (rowsB O R xs).length)
 | [], b, p, k, _, _, h => by
  refine Prod.ext ?_ ?_
  ·simp
  ·simpa [rowsB] using h
 | x :: xs, b, p, k, hx, hb, h => by
  have h1 := hx x (List.mem_cons_self ..)
  have htail : byB (rowsB O R xs ++ t) = true := by
   rw [byB_app, ht, Bool.and_true]
   clear hb
   induction xs with
   | nil => rfl
   | cons y ys ih =>
    rw [rowsB, byB_app, lg_byB hS hr (hx y (by simp)).1, ih (fun z hz => hx z (by
     simp only [List.mem_cons] at hz ⊢
     rcases hz with h | h
     ·exact .inl h
     ·exact .inr (.inr h)))]; rfl
  have hb' : b = p ++ (lgRow O R x ++ (rowsB O R xs ++ t)) := by rw [hb, rowsB, List.append_assoc]
  obtain ⟨n1, n2⟩ := nxt_row hS hr (p := p) h1.1 h1.2 htail
  rw [← hb'] at n1 n2
  have step : lgS O R b (k + 1) = ((lgS O R b k).1 ++ [x], p.length + (lgRow O R x).length) := by
   show (bif nxtOk O R b (lgS O R b k).2 then _ else _) = _
   rw [h, n1, n2]; rfl
  have ih := lgS_add hS hr ht xs b (p ++ lgRow O R x) (k + 1) (fun y hy => hx y (List.mem_cons_of_mem _ hy)) (by rw [hb']; simp) (by rw [step]; simp)
  rw [show k + (x :: xs).length = k + 1 + xs.length by simp; omega, ih, step]
  refine Prod.ext (by simp) ?_
  simp [rowsB]; omega
theorem lgS_stop {O : OO} {R : OB} {b : List Int} {k : Nat} (h : nxtOk O R b (lgS O R b k).2 = false) : ∀ m, k ≤ m → lgS O R b m = lgS O R b k := by
 intro m hm
 induction m with
 | zero => rw [show k = 0 by omega]
 | succ m ih =>
  by_cases q : k = m + 1
  ·rw [q]
  ·have e := ih (by omega)
   show (bif nxtOk O R b (lgS O R b m).2 then _ else lgS O R b m) = _
   rw [e, h]; rfl
theorem rowsB_len {O : OO} {R : OB} (hr : R = bO) : ∀ xs : List (List Int), xs.length ≤ (rowsB O R xs).length
 | [] => Nat.le_refl _
 | x :: xs => by
  have := rowsB_len (O := O) hr xs
  have := lg_pos (O := O) hr x
  rw [rowsB, zlA, List.length_cons]; omega
theorem lg_found {O : OO} (hS : SB O) {R : OB} (hr : R = bO) {xs : List (List Int)} {t : List Int} (hx : ∀ x ∈ xs, byB x = true ∧ x.length ≤ 65536) (ht : byB t = true) (hT : Torn O R t) :
  lgRows O R (rowsB O R xs ++ t) = xs ∧ lgEnd O R (rowsB O R xs ++ t) = (rowsB O R xs).length := by
 have h1 := lgS_add hS hr ht xs (rowsB O R xs ++ t) [] 0 hx (by simp) rfl
 rw [Nat.zero_add] at h1
 have h2 : lgS O R (rowsB O R xs ++ t) xs.length = (xs, (rowsB O R xs).length) := by rw [h1]; exact Prod.ext rfl (by simp)
 obtain ⟨x, j, a1, a2, rfl⟩ := hT
 have h3 : nxtOk O R (rowsB O R xs ++ (lgRow O R x).take j) (lgS O R (rowsB O R xs ++ (lgRow O R x).take j) xs.length).2 = false := by rw [h2]; exact nxt_torn hr a1 a2
 have h4 := lgS_stop h3 ((rowsB O R xs ++ (lgRow O R x).take j).length + 1) (by have := rowsB_len (O := O) hr xs; rw [zlA]; omega)
 unfold lgRows lgEnd
 rw [h4, h2]
 exact ⟨rfl, rfl⟩
theorem sb_oo : SB oo := fun l i hi => by
 have h := by_isH (oo.sum l) ((fo_oo oo rfl).sH l)
 exact byB_iff.1 h _ (tab_mem _ 32 i hi)
end Go.Proofs.Ytaohpdhhbnempaa
