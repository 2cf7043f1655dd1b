/- Shachain, plainly: what comes from what, places and their heights, what a store keeps, and what is told of it. No program in sight. -/
import Derived.Test.YtebffdgghkomjaaDoorSc1
import Derived.Test.YtebffdgghkomjaaDoorRn
namespace Go.Proofs.YtebffdgghkomjaaDoor
open Go Go.RowKit Go.Lib Ckp Cfd Cpd Sx
set_option linter.unusedVariables false
set_option linter.unusedSimpArgs false
def rdS (n : Int) (h : Nat) : Bool := bif lstB n h then !(iBeq n 0) else false
theorem hK_cons (p : Int) (a : Nat → Int) : AV (hK (p :: tabI a 32)) = AV a := by kernel_rfl
theorem getD_set_eq {α : Type} {L : List α} {i : Nat} {x d : α} (h : i < L.length) : (L.set i x).getD i d = x := by
 rw [List.getD_eq_getElem?_getD, List.getElem?_set_self h]; rfl
theorem getD_set_ne {α : Type} {L : List α} {i k : Nat} {x d : α} (h : i ≠ k) : (L.set i x).getD k d = L.getD k d := by
 rw [List.getD_eq_getElem?_getD, List.getElem?_set_ne h, ← List.getD_eq_getElem?_getD]
theorem fd (p : Int) (k : Nat) : p.fdiv (2 ^ k) = p / 2 ^ k := Int.fdiv_eq_ediv_of_nonneg _ (Int.pow_nonneg (by decide))
theorem bitP_eq (p : Int) (k : Nat) : bitP p k = decide (p / 2 ^ k % 2 = 1) := by
 unfold bitP
 rw [fd]
 obtain ⟨x, hx⟩ : ∃ x, p / 2 ^ k = x := ⟨_, rfl⟩
 rw [hx]
 have e : (BitVec.ofInt 64 x &&& BitVec.ofInt 64 1).toNat = (x % 2).toNat := by
  rw [BitVec.toNat_and, BitVec.toNat_ofInt, show (BitVec.ofInt 64 1).toNat = 1 by decide, Nat.and_one_is_mod]
  simp only [Nat.reducePow]
  omega
 rw [e]
 have h2 : x % 2 = 0 ∨ x % 2 = 1 := by omega
 rcases h2 with h2 | h2 <;> rw [h2] <;> decide
theorem high {p q : Int} {h k : Nat} (e : p / 2 ^ h = q / 2 ^ h) (hk : h ≤ k) : p / 2 ^ k = q / 2 ^ k := by
 have e2 : (2 : Int) ^ k = 2 ^ h * 2 ^ (k - h) := by rw [← Int.pow_add, Nat.add_sub_cancel' hk]
 have hn : (0 : Int) ≤ 2 ^ h := Int.pow_nonneg (by decide)
 rw [e2, ← Int.ediv_ediv_of_nonneg hn, ← Int.ediv_ediv_of_nonneg hn, e]
theorem low {p : Int} {h k : Nat} (e : p % 2 ^ h = 0) (hk : k < h) : p / 2 ^ k % 2 = 0 := by
 obtain ⟨c, rfl⟩ : ∃ c, p = 2 ^ h * c := Int.dvd_of_emod_eq_zero e
 have e2 : (2 : Int) ^ h = 2 ^ k * (2 * 2 ^ (h - k - 1)) := by
  rw [← Int.pow_succ', ← Int.pow_add]; congr 1; omega
 rw [e2, Int.mul_assoc, Int.mul_ediv_cancel_left _ (by have := Int.pow_pos (n := 2) (m := k) (by decide); omega), Int.mul_assoc, Int.mul_emod_right]
theorem step_bits (O : OO) {p q : Int} {h : Nat} {m : Nat → Int} : ∀ r, (∀ k, k < h → h ≤ k + r → bitP p k = bitP q k) → r ≤ h → stepS O p h m r = stepS O q h m r
 | 0, _, _ => rfl
 | r + 1, e, hr => by
  have ih := step_bits O (p := p) (q := q) (m := m) r (fun k h1 h2 => e k h1 (by omega)) (by omega)
  show nextS O p (h - 1 - r) (stepS O p h m r) = nextS O q (h - 1 - r) (stepS O q h m r)
  unfold nextS
  rw [ih, e (h - 1 - r) (by omega) (by omega)]
theorem step_none (O : OO) {p : Int} {h : Nat} {m : Nat → Int} : ∀ r, (∀ k, k < h → bitP p k = false) → r ≤ h → stepS O p h m r = m
 | 0, _, _ => rfl
 | r + 1, e, hr => by
  have ih := step_none O (p := p) (m := m) r e (by omega)
  show nextS O p (h - 1 - r) (stepS O p h m r) = m
  unfold nextS
  rw [ih, e (h - 1 - r) (by omega)]; rfl
theorem step_split (O : OO) (q : Int) (h : Nat) (m : Nat → Int) (r : Nat) : ∀ s, stepS O q h m (r + s) = stepS O q (h - r) (stepS O q h m r) s
 | 0 => rfl
 | s + 1 => by
  show nextS O q (h - 1 - (r + s)) (stepS O q h m (r + s)) = nextS O q (h - r - 1 - s) (stepS O q (h - r) (stepS O q h m r) s)
  rw [step_split O q h m r s, show h - 1 - (r + s) = h - r - 1 - s by omega]
/-- What comes from what comes. -/
theorem step_comp (O : OO) {p q : Int} {h H : Nat} (m : Nat → Int) (hH : h ≤ H) (hp : p % 2 ^ h = 0) (e : p / 2 ^ h = q / 2 ^ h) : stepS O q h (stepS O p H m H) h = stepS O q H m H := by
 have e1 : stepS O q H m H = stepS O q h (stepS O q H m (H - h)) h := by
  have := step_split O q H m (H - h) h
  rwa [show H - h + h = H by omega, show H - (H - h) = h by omega] at this
 have e2 : stepS O p H m H = stepS O p h (stepS O p H m (H - h)) h := by
  have := step_split O p H m (H - h) h
  rwa [show H - h + h = H by omega, show H - (H - h) = h by omega] at this
 have e3 : stepS O p H m (H - h) = stepS O q H m (H - h) := step_bits O _ (fun k h1 h2 => by rw [bitP_eq, bitP_eq, high e (by omega)]) (by omega)
 rw [e1, e2, step_none O (p := p) h (fun k hk => by rw [bitP_eq, low hp hk]; rfl) (Nat.le_refl _), e3]
/-- The same of arrays. -/
theorem cm_comp {O : OO} {W : OW} (hw : W = wO O) {p q : Int} {h H : Nat} (a : Array Value) (hh : h ≤ H) (hH : H ≤ 20) (hp : p % 2 ^ h = 0) (e : p / 2 ^ h = q / 2 ^ h) : AV (W.cm (h : Int) q (AV (W.cm (H : Int) p a))) = AV (W.cm (H : Int) q a) := by
 subst hw
 show AV (stepS O q (h : Int).toNat (fnA (AV (stepS O p (H : Int).toNat (fnA a) (H : Int).toNat))) (h : Int).toNat) = AV (stepS O q (H : Int).toNat (fnA a) (H : Int).toNat)
 rw [Int.toNat_natCast, Int.toNat_natCast, ← cm_eq O q h (by omega), step_comp O _ hh hp e]
/-- At its own place a secret is itself. -/
theorem cm_self {O : OO} {W : OW} (hw : W = wO O) {p : Int} {h : Nat} (m : Nat → Int) (hp : p % 2 ^ h = 0) : AV (W.cm (h : Int) p (AV m)) = AV m := by
 subst hw
 show AV (stepS O p (h : Int).toNat (fnA (AV m)) (h : Int).toNat) = AV m
 rw [Int.toNat_natCast, step_none O h (fun k hk => by rw [bitP_eq, low hp hk]; rfl) (Nat.le_refl _), fn_AV]
/-! places and heights -/
theorem lev {i : Nat} (h : i < 20) : i = 0 ∨ i = 1 ∨ i = 2 ∨ i = 3 ∨ i = 4 ∨ i = 5 ∨ i = 6 ∨ i = 7 ∨ i = 8 ∨ i = 9 ∨ i = 10 ∨ i = 11 ∨ i = 12 ∨ i = 13 ∨ i = 14 ∨ i = 15 ∨ i = 16 ∨ i = 17 ∨ i = 18 ∨ i = 19 := by omega
theorem lstP_eq {n : Int} {i : Nat} (hi : i < 20) : lstP n i = (1048576 - n) + (2 ^ i - (1048576 - n)) % 2 ^ (i + 1) := by
 unfold lstP
 rw [show iBeq (i : Int) 20 = false by simp only [iBeq_f]; omega, cond_false, Int.toNat_natCast, show 1048575 - (n - 1) = 1048576 - n by omega]
 have hd : (0 : Int) < 2 ^ (i + 1) := Int.pow_pos (by decide)
 generalize (2 : Int) ^ (i + 1) = d at *
 generalize (2 : Int) ^ i - (1048576 - n) = x
 have h1 : -d < x.tmod d := by
  have := Int.lt_tmod_of_pos x hd; omega
 rw [Int.tmod_eq_emod_of_nonneg (by omega), Int.add_emod_right]
 have h2 : x.tmod d % d = x % d := by
  have := Int.mul_tdiv_add_tmod x d
  rw [← this, Int.add_comm, Int.add_mul_emod_self_left]
  rw [show x.tmod d + d * x.tdiv d = x by omega]
 rw [h2]
theorem lstP_spec {n : Int} {i : Nat} (hi : i < 20) : 1048576 - n ≤ lstP n i ∧ lstP n i < 1048576 - n + 2 ^ (i + 1) ∧ lstP n i % 2 ^ (i + 1) = 2 ^ i := by
 rw [lstP_eq hi]
 rcases lev hi with rfl | rfl | rfl | rfl | rfl | rfl | rfl | rfl | rfl | rfl | rfl | rfl | rfl | rfl | rfl | rfl | rfl | rfl | rfl | rfl <;> simp only [Int.reducePow, Nat.reduceAdd] <;> omega
theorem lstP_uniq {n x : Int} {i : Nat} (hi : i < 20) (h1 : 1048576 - n ≤ x) (h2 : x < 1048576 - n + 2 ^ (i + 1)) (h3 : x % 2 ^ (i + 1) = 2 ^ i) : lstP n i = x := by
 rw [lstP_eq hi]
 revert h2 h3
 rcases lev hi with rfl | rfl | rfl | rfl | rfl | rfl | rfl | rfl | rfl | rfl | rfl | rfl | rfl | rfl | rfl | rfl | rfl | rfl | rfl | rfl <;> simp only [Int.reducePow, Nat.reduceAdd] <;> omega
theorem hg_spec {p : Int} (h0 : 0 < p) (h1 : p < 1048576) : ∃ h : Nat, hgF p = h ∧ h < 20 ∧ p % 2 ^ (h + 1) = 2 ^ h := by
 obtain ⟨x, rfl⟩ : ∃ x : Nat, p = x := ⟨p.toNat, by omega⟩
 have hx : x ≠ 0 := by omega
 obtain ⟨m, hm, hk⟩ := ctzFrom_spec 20 x (by omega) (by simp only [Nat.reducePow]; omega)
 have same : ∀ f y, 0 < y → y < 2 ^ f → ∀ g, f ≤ g → ctzFrom g y = ctzFrom f y := by
  intro f
  induction f with
  | zero => intro y h0 h; simp at h; omega
  | succ f ih =>
   intro y h0 h g hg
   obtain ⟨g, rfl⟩ : ∃ k, g = k + 1 := ⟨g - 1, by omega⟩
   unfold ctzFrom
   split
   ·rfl
   ·rw [ih (y / 2) (by omega) (by rw [Nat.pow_succ] at h; omega) g (by omega)]
 refine ⟨ctzFrom 20 x, ?_, hk, ?_⟩
 ·unfold hgF
  rw [Int.toNat_natCast, ctz, if_neg hx, same 20 x (by omega) (by simp only [Nat.reducePow]; omega) 64 (by decide), Nat.min_eq_left (by omega)]
 ·generalize ctzFrom 20 x = h at *
  have : x % 2 ^ (h + 1) = 2 ^ h := by
   rw [hm, Nat.mul_add, Nat.mul_one, ← Nat.mul_assoc, ← Nat.pow_succ, Nat.add_comm, Nat.add_mul_mod_self_left, Nat.mod_eq_of_lt (Nat.pow_lt_pow_right (by decide) (by omega))]
  have h2 := congrArg (fun n : Nat => (n : Int)) this
  simpa using h2
theorem hg_0 : hgF 0 = 20 := by decide
theorem mod_le {p : Int} {h : Nat} (e : p % 2 ^ (h + 1) = 2 ^ h) : p % 2 ^ h = 0 := by
 have h2 : (2 : Int) ^ h ∣ 2 ^ (h + 1) := ⟨2, by rw [Int.pow_succ]⟩
 rw [← Int.emod_emod_of_dvd p h2, e, Int.emod_self]
theorem div_at {q c : Int} {j : Nat} (h1 : 2 ^ j * c ≤ q) (h2 : q < 2 ^ j * c + 2 ^ j) : q / 2 ^ j = c :=
 ((Int.ediv_emod_unique (Int.pow_pos (by decide) : (0 : Int) < 2 ^ j)).2 ⟨(by omega : (q - 2 ^ j * c) + 2 ^ j * c = q), by omega, by omega⟩).1
/-- A place's height. -/
def Ht (p : Int) (h : Nat) : Prop := (h < 20 ∧ p % 2 ^ (h + 1) = 2 ^ h) ∨ (h = 20 ∧ p = 0)
theorem pw (h : Nat) : (0 : Int) < 2 ^ h := Int.pow_pos (by decide)
theorem pw1 (h : Nat) : (2 : Int) ^ (h + 1) = 2 * 2 ^ h := by rw [Int.pow_succ, Int.mul_comm]
theorem pw_dvd {h k : Nat} (hk : h ≤ k) : (2 : Int) ^ h ∣ 2 ^ k := ⟨2 ^ (k - h), by rw [← Int.pow_add, Nat.add_sub_cancel' hk]⟩
theorem pw_lt {h k : Nat} (hk : h < k) : (2 : Int) ^ (h + 1) ≤ 2 ^ k := Int.le_of_dvd (pw k) (pw_dvd hk)
theorem ht_mod {p : Int} {h : Nat} (H : Ht p h) : p % 2 ^ h = 0 := by
 rcases H with ⟨_, e⟩ | ⟨_, rfl⟩
 ·exact mod_le e
 ·exact Int.zero_emod _
theorem ht_uniq {p : Int} {h k : Nat} (H : Ht p h) (K : Ht p k) : h = k := by
 have key : ∀ {h k : Nat}, Ht p h → Ht p k → h < k → False := by
  intro h k H K hk
  rcases H with ⟨h1, e⟩ | ⟨rfl, _⟩
  ·have := Int.emod_emod_of_dvd p (pw_dvd (show h + 1 ≤ k from hk))
   rw [ht_mod K, e] at this
   have := pw h
   simp at *
   omega
  ·rcases K with ⟨k1, _⟩ | ⟨rfl, _⟩ <;> omega
 rcases Nat.lt_trichotomy h k with q | q | q
 ·exact (key H K q).elim
 ·exact q
 ·exact (key K H q).elim
theorem ht_of {p : Int} (h0 : 0 ≤ p) (h1 : p < 1048576) : ∃ h : Nat, hgF p = h ∧ h ≤ 20 ∧ Ht p h := by
 by_cases q : p = 0
 ·subst q; exact ⟨20, hg_0, Nat.le_refl _, .inr ⟨rfl, rfl⟩⟩
 ·obtain ⟨h, e, hh, hp⟩ := hg_spec (by omega) h1
  exact ⟨h, e, by omega, .inl ⟨hh, hp⟩⟩
theorem rdS_lt {n : Int} {i : Nat} (hi : i < 20) : rdS n i = true ↔ n ≠ 0 ∧ lstP n i < 1048576 := by
 unfold rdS lstB
 rw [show iBeq (i : Int) 20 = false by simp only [iBeq_f]; omega, cond_false]
 cases h : iLt (lstP n i) 1048576
 ·simp only [iLt_f] at h; simp; omega
 ·simp only [iLt_t] at h; simp [iBeq]; omega
theorem rdS_20 {n : Int} : rdS n 20 = true ↔ n = 1048576 := by
 unfold rdS lstB
 rw [show iBeq ((20 : Nat) : Int) 20 = true by decide, cond_true]
 cases h : iBeq (1048575 - (n - 1)) 0
 ·simp only [iBeq_f] at h; simp; omega
 ·simp only [iBeq_t] at h; simp [iBeq]; omega
theorem rd_spec {n : Int} {i : Nat} (hn : 0 ≤ n ∧ n ≤ 1048576) (hi : i < 21) (h : rdS n i = true) : Ht (lstP n i) i ∧ 1048576 - n ≤ lstP n i ∧ lstP n i < 1048576 ∧ 0 < n := by
 by_cases q : i < 20
 ·rw [rdS_lt q] at h
  have s := lstP_spec (n := n) q
  exact ⟨.inl ⟨q, s.2.2⟩, s.1, h.2, by omega⟩
 ·obtain rfl : i = 20 := by omega
  rw [rdS_20] at h
  rw [show lstP n ((20 : Nat) : Int) = 0 from rfl]
  exact ⟨.inr ⟨rfl, rfl⟩, by omega, by omega, by omega⟩
theorem rd_of {n x : Int} {i : Nat} (hi : i < 21) (H : Ht x i) (h1 : 1048576 - n ≤ x) (h2 : x < 1048576) (h0 : n ≤ 1048576) (h3 : x < 1048576 - n + 2 ^ (i + 1)) : rdS n i = true ∧ lstP n i = x := by
 rcases H with ⟨q, e⟩ | ⟨rfl, rfl⟩
 ·have u := lstP_uniq q h1 h3 e
  refine ⟨(rdS_lt q).2 ⟨by omega, by omega⟩, u⟩
 ·exact ⟨rdS_20.2 (by omega), rfl⟩
/-- One more: what is kept at a height that is not the new one's stays. -/
theorem rd_next {n : Int} {h i : Nat} (hn : 0 ≤ n ∧ n < 1048576) (H : Ht (1048575 - n) h) (hi : i < 21) (hne : i ≠ h) : rdS (n + 1) i = rdS n i ∧ (rdS n i = true → lstP (n + 1) i = lstP n i) := by
 have up : rdS n i = true → rdS (n + 1) i = true ∧ lstP (n + 1) i = lstP n i := fun r => by
  obtain ⟨H1, b1, b2, b3⟩ := rd_spec ⟨hn.1, by omega⟩ hi r
  refine rd_of hi H1 (by omega) b2 (by omega) ?_
  by_cases q : i < 20
  ·have s := lstP_spec (n := n) q
   by_cases e : lstP n i = 1048576 - n + 2 ^ (i + 1) - 1
   ·exfalso
    apply hne
    refine ht_uniq (p := 1048575 - n) (.inl ⟨q, ?_⟩) H
    have := s.2.2
    rw [e, show 1048576 - n + 2 ^ (i + 1) - 1 = (1048575 - n) + 2 ^ (i + 1) by omega, Int.add_emod_right] at this
    exact this
   ·omega
  ·obtain rfl : i = 20 := by omega
   have := pw (20 + 1)
   rw [show lstP n ((20 : Nat) : Int) = 0 from rfl] at *
   omega
 have down : rdS (n + 1) i = true → rdS n i = true := fun r => by
  obtain ⟨H1, b1, b2, b3⟩ := rd_spec ⟨by omega, by omega⟩ hi r
  by_cases q : lstP (n + 1) i = 1048575 - n
  ·rw [q] at H1
   exact absurd (ht_uniq H1 H) hne
  ·refine (rd_of hi H1 (by omega) b2 (by omega) ?_).1
   by_cases q : i < 20
   ·have s := lstP_spec (n := n + 1) q
    omega
   ·obtain rfl : i = 20 := by omega
    have := pw (20 + 1)
    rw [show lstP (n + 1) ((20 : Nat) : Int) = 0 from rfl] at *
    omega
 refine ⟨?_, fun r => (up r).2⟩
 cases e : rdS n i
 ·cases e2 : rdS (n + 1) i
  ·rfl
  ·rw [down e2] at e; exact e
 ·exact (up e).1
theorem rd_new {n : Int} {h : Nat} (hn : 0 ≤ n ∧ n < 1048576) (H : Ht (1048575 - n) h) (hh : h < 21) : rdS (n + 1) h = true ∧ lstP (n + 1) h = 1048575 - n :=
 rd_of hh H (by omega) (by omega) (by omega) (by have := pw (h + 1); omega)
theorem eqL_map (k : IntKind) : ∀ l m : List Int, eqL (l.map (Value.int k)) (m.map (Value.int k)) = decide (l = m)
 | [], [] => rfl
 | [], _ :: _ => rfl
 | _ :: _, [] => rfl
 | x :: l, y :: m => by
  show ((x == y) && eqL (l.map (Value.int k)) (m.map (Value.int k))) = _
  rw [eqL_map k l m]
  by_cases h : x = y <;> simp [h]
theorem eqv_map (k : IntKind) (l m : List Int) : eqv ⟨l.map (Value.int k)⟩ ⟨m.map (Value.int k)⟩ = decide (l = m) := eqL_map k l m
theorem AV_list {f g : Nat → Int} : AV f = AV g ↔ tabI f 32 = tabI g 32 := by
 refine ⟨fun h => ?_, fun h => by unfold AV; rw [h]⟩
 have h1 := congrArg intsA h
 have e : ∀ f, intsA (AV f) = tabI f 32 := fun f => by kernel_rfl
 rwa [e, e] at h1
theorem eqv_AV {f g : Nat → Int} : eqv (AV f) (AV g) = true ↔ AV f = AV g := by
 rw [AV_list]
 unfold AV
 rw [eqv_map, decide_eq_true_eq]
/-- A store of n secrets, which are K's. -/
structure InvS (W : OW) (n : Int) (L : List (List (List Int))) (K : Int → Nat → Int) : Prop where
 lo : 0 ≤ n ∧ n ≤ 1048576
 len : L.length = 21
 ent : ∀ i : Nat, i < 21 → L.getD i [] = bif rdS n i then [lstP n i :: tabI (K (lstP n i)) 32] else []
 con : ∀ i : Nat, i < 21 → rdS n i = true → ∀ q, 1048576 - n ≤ q → q < 1048576 → q / 2 ^ i = lstP n i / 2 ^ i → AV (W.cm i q (AV (K (lstP n i)))) = AV (K q)
theorem rdS_0 (i : Nat) (hi : i < 21) : rdS 0 i = false := by
 cases e : rdS 0 i
 ·rfl
 ·have := rd_spec ⟨by omega, by omega⟩ hi e
  omega
theorem inv_nil (W : OW) (K : Int → Nat → Int) : InvS W 0 nilL K := by
 refine ⟨by omega, rfl, fun i hi => ?_, fun i hi h => ?_⟩
 ·rw [rdS_0 i hi, cond_false]
  unfold nilL
  rw [List.getD_eq_getElem?_getD, List.getElem?_replicate]
  split <;> rfl
 ·rw [rdS_0 i hi] at h; cases h
theorem plc_cons (p : Int) (l : List Int) : plc (p :: l) = p := rfl
theorem chk_iff {W : OW} {n : Int} {L : List (List (List Int))} {K : Int → Nat → Int} (I : InvS W n L K) (h : Int) (a : Array Value) : ∀ k : Nat, k ≤ 21 → (chkAll W L h a k = true ↔ ∀ i, i < k → rdS n i = true → AV (W.cm h (lstP n i) a) = AV (K (lstP n i))) := by
 intro k hk
 unfold chkAll
 rw [List.all_eq_true]
 refine ⟨fun H i hi r => ?_, fun H i hi => ?_⟩
 ·have := H i (List.mem_range.2 hi)
  rw [I.ent i (by omega), r, cond_true] at this
  simp only [chkE, List.all_cons, List.all_nil, Bool.and_true, plc_cons, hK_cons] at this
  exact eqv_AV.1 this
 ·have hi' := List.mem_range.1 hi
  rw [I.ent i (by omega)]
  cases r : rdS n i
  ·rfl
  ·simp only [cond_true, chkE, List.all_cons, List.all_nil, Bool.and_true, plc_cons, hK_cons]
   exact eqv_AV.2 (H i hi' r)
/-- Below a new place one is kept at each height that is lower. -/
theorem lst_below {n : Int} {h i : Nat} (hn : 0 ≤ n ∧ n < 1048576) (hh : h ≤ 20) (H : Ht (1048575 - n) h) (hi : i < h) : rdS n i = true ∧ lstP n i = 1048575 - n + 2 ^ i ∧ (1048575 - n + 2 ^ i) / 2 ^ h = (1048575 - n) / 2 ^ h ∧ 1048575 - n + 2 ^ h ≤ 1048576 := by
 have hm := ht_mod H
 have d1 := pw_lt hi
 have d2 := pw i
 have d3 := pw1 i
 obtain ⟨c, hc⟩ : ∃ c, 1048575 - n = 2 ^ h * c := Int.dvd_of_emod_eq_zero hm
 have b : 1048575 - n + 2 ^ h ≤ 1048576 := by
  obtain ⟨e, he⟩ : ∃ e : Int, (1048576 : Int) = 2 ^ h * e := by
   obtain ⟨e, he⟩ : (2 : Int) ^ h ∣ 2 ^ 20 := pw_dvd hh
   exact ⟨e, by rw [← he]; decide⟩
  have hlt : (2 : Int) ^ h * c < 2 ^ h * e := by omega
  have hce : c < e := Int.lt_of_mul_lt_mul_left hlt (by omega)
  have : (2 : Int) ^ h * (c + 1) ≤ 2 ^ h * e := Int.mul_le_mul_of_nonneg_left (by omega) (by omega)
  rw [Int.mul_add, Int.mul_one] at this
  omega
 have m0 : (1048575 - n) % 2 ^ (i + 1) = 0 := by
  have := Int.emod_emod_of_dvd (1048575 - n) (pw_dvd (show i + 1 ≤ h from hi))
  rw [hm] at this
  simpa using this.symm
 have H1 : Ht (1048575 - n + 2 ^ i) i := by
  refine .inl ⟨by omega, ?_⟩
  rw [Int.add_emod, m0, Int.zero_add, Int.emod_emod_of_dvd _ (Int.dvd_refl _), Int.emod_eq_of_lt (by omega) (by omega)]
 obtain ⟨r1, r2⟩ := rd_of (n := n) (by omega) H1 (by omega) (by omega) (by omega) (by omega)
 refine ⟨r1, r2, ?_, b⟩
 rw [hc, Int.mul_ediv_cancel_left _ (by have := pw h; omega)]
 exact div_at (by omega) (by omega)
theorem log_of {h : Nat} {r : Int} (h0 : 0 < r) (h1 : r < 2 ^ h) : ∃ j : Nat, j < h ∧ 2 ^ j ≤ r ∧ r < 2 ^ (j + 1) := by
 induction h with
 | zero => simp at h1; omega
 | succ h ih =>
  by_cases q : r < 2 ^ h
  ·obtain ⟨j, a, b, c⟩ := ih q
   exact ⟨j, by omega, b, c⟩
  ·exact ⟨h, by omega, by omega, h1⟩
theorem stE_0 {O : OO} {W : OW} (hw : W = wO O) {n : Int} {L : List (List (List Int))} {K : Int → Nat → Int} (I : InvS W n L K) (hn : n < 1048576) {h : Nat} (hh : hgF (1048575 - n) = h) (h20 : h ≤ 20) (a : Array Value) : stE W n L n a = bif chkAll W L (h : Int) a h then 0 else 23 := by
 unfold stE
 rw [show iBne n n = false by simp only [iBne_f], show iLe 1048576 n = false by simp only [iLe_f]; omega, hw]
 show (bif chkAll (wO O) L (hgF (1048575 - n)) a (hgF (1048575 - n)).toNat then (0 : Int) else 23) = _
 rw [hh, Int.toNat_natCast]
theorem inv_add {O : OO} {W : OW} (hw : W = wO O) {n : Int} {L : List (List (List Int))} {K : Int → Nat → Int} (I : InvS W n L K) (hn : n < 1048576) (m : Nat → Int) (he : stE W n L n (AV m) = 0) :
  InvS W (n + 1) (stL W n L n (AV m)) (fun q => bif iBeq q (1048575 - n) then m else K q) := by
 have hn2 : 0 ≤ n ∧ n < 1048576 := ⟨I.lo.1, hn⟩
 obtain ⟨h, e, h20, H⟩ := ht_of (p := 1048575 - n) (by omega) (by omega)
 have hc : chkAll W L (h : Int) (AV m) h = true := by
  rw [stE_0 hw I hn e h20] at he
  cases c : chkAll W L (h : Int) (AV m) h
  ·rw [c] at he; cases he
  ·rfl
 rw [chk_iff I _ _ h (by omega)] at hc
 have eL : stL W n L n (AV m) = L.set h [(1048575 - n) :: tabI m 32] := by
  unfold stL
  rw [he, hw]
  show L.set (hgF (1048575 - n)).toNat [(1048575 - n) :: tabI (fnA (AV m)) 32] = _
  rw [e, Int.toNat_natCast, fn_tab]
 obtain ⟨n1, n2⟩ := rd_new hn2 H (by omega)
 have hK : ∀ q, q ≠ 1048575 - n → (bif iBeq q (1048575 - n) then m else K q) = K q := fun q hq => by
  rw [show iBeq q (1048575 - n) = false by simp only [iBeq_f]; exact hq]; rfl
 have hKp : (bif iBeq (1048575 - n) (1048575 - n) then m else K (1048575 - n)) = m := by
  rw [show iBeq (1048575 - n) (1048575 - n) = true by simp only [iBeq_t]]; rfl
 refine ⟨by omega, by rw [eL, List.length_set]; exact I.len, fun i hi => ?_, fun i hi r q q1 q2 q3 => ?_⟩
 ·by_cases q : i = h
  ·subst q
   rw [eL, getD_set_eq (by rw [I.len]; omega), n1, n2, cond_true]
   simp only [hKp]
  ·obtain ⟨x1, x2⟩ := rd_next hn2 H hi q
   rw [eL, getD_set_ne (fun h => q h.symm), I.ent i hi, x1]
   cases r : rdS n i
   ·rfl
   ·have s := rd_spec ⟨hn2.1, by omega⟩ hi r
    simp only [cond_true, x2 r]
    rw [hK _ (by omega)]
 ·by_cases qe : i = h
  ·subst qe
   rw [n2] at q3 ⊢
   simp only [hKp]
   obtain ⟨c, hc2⟩ : ∃ c, 1048575 - n = 2 ^ i * c := Int.dvd_of_emod_eq_zero (ht_mod H)
   have d := pw i
   have hq : q < 1048575 - n + 2 ^ i := by
    have := Int.lt_mul_ediv_self_add (x := q) d
    rw [q3, hc2, Int.mul_ediv_cancel_left _ (by omega)] at this
    omega
   by_cases qp : q = 1048575 - n
   ·rw [qp]
    simp only [hKp]
    exact cm_self hw m (ht_mod H)
   ·rw [hK q qp]
    obtain ⟨j, j1, j2, j3⟩ := log_of (h := i) (r := q - (1048575 - n)) (by omega) (by omega)
    obtain ⟨b1, b2, b3, b4⟩ := lst_below hn2 h20 H j1
    have s := rd_spec ⟨hn2.1, by omega⟩ (by omega) b1
    obtain ⟨c', hc'⟩ : ∃ c', lstP n j = 2 ^ j * c' := Int.dvd_of_emod_eq_zero (ht_mod s.1)
    have dj := pw1 j
    have dj0 := pw j
    have q4 : q / 2 ^ j = lstP n j / 2 ^ j := by
     rw [hc', Int.mul_ediv_cancel_left _ (by omega)]
     exact div_at (by omega) (by omega)
    have k1 := I.con j (by omega) b1 q (by omega) q2 q4
    rw [← hc j j1 b1] at k1
    rw [← k1]
    symm
    exact cm_comp hw (AV m) (by omega) h20 (ht_mod s.1) q4.symm
  ·obtain ⟨x1, x2⟩ := rd_next hn2 H hi qe
   rw [x1] at r
   rw [x2 r] at q3 ⊢
   have s := rd_spec ⟨hn2.1, by omega⟩ hi r
   obtain ⟨c, hc2⟩ : ∃ c, lstP n i = 2 ^ i * c := Int.dvd_of_emod_eq_zero (ht_mod s.1)
   have d := pw i
   have hq : lstP n i ≤ q := by
    have := Int.mul_ediv_self_le (x := q) (k := 2 ^ i) (by omega)
    rw [q3, hc2, Int.mul_ediv_cancel_left _ (by omega)] at this
    omega
   rw [hK _ (by omega), hK _ (by omega)]
   exact I.con i hi r q (by omega) q2 q3
/-- Of a seed each next secret may be added. -/
theorem seed_add {O : OO} {W : OW} (hw : W = wO O) {n : Int} {L : List (List (List Int))} {a : Array Value} (I : InvS W n L fun q => W.cm 20 q a) (hn : n < 1048576) : stE W n L n (AV (W.cm 20 (1048575 - n) a)) = 0 := by
 have hn2 : 0 ≤ n ∧ n < 1048576 := ⟨I.lo.1, hn⟩
 obtain ⟨h, e, h20, H⟩ := ht_of (p := 1048575 - n) (by omega) (by omega)
 rw [stE_0 hw I hn e h20, (chk_iff I _ _ h (by omega)).2 ?_]; rfl
 intro i hi r
 obtain ⟨b1, b2, b3, b4⟩ := lst_below hn2 h20 H hi
 rw [b2]
 exact cm_comp hw (H := 20) a h20 (by omega) (ht_mod H) b3.symm
theorem upd_self {n : Int} (K : Int → Nat → Int) : (fun q => bif iBeq q (1048575 - n) then K (1048575 - n) else K q) = K := by
 funext q
 cases c : iBeq q (1048575 - n)
 ·rfl
 ·simp only [iBeq_t] at c; rw [c]; rfl
theorem seed_next {O : OO} {W : OW} (hw : W = wO O) {n : Int} {L : List (List (List Int))} {a : Array Value} (I : InvS W n L fun q => W.cm 20 q a) (hn : n < 1048576) : InvS W (n + 1) (stL W n L n (AV (W.cm 20 (1048575 - n) a))) fun q => W.cm 20 q a := by
 have := inv_add hw I hn _ (seed_add hw I hn)
 rwa [upd_self (fun q => W.cm 20 q a)] at this
end Go.Proofs.YtebffdgghkomjaaDoor
