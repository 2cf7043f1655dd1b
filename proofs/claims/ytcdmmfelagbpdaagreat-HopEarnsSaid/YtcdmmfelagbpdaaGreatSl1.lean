/- Sheet, plain: what a right state is, in numbers. -/
import Derived.Test.YtcdmmfelagbpdaaGreatSh5
namespace Go.Proofs.YtcdmmfelagbpdaaGreat
open Go.RowKit Go.Lib Ckp Cfd Cpd Sx
set_option linter.unusedVariables false
set_option linter.unusedSimpArgs false
abbrev Cnd := List Int
def fr (x : Cnd) : Int := x.getD 0 0
def idn (x : Cnd) : Int := x.getD 1 0
def amt (x : Cnd) : Int := x.getD 2 0
def lt2 (a b : Cnd) : Prop := fr a < fr b ∨ fr a = fr b ∧ idn a < idn b
theorem lt2_trans {a b c : Cnd} (h : lt2 a b) (k : lt2 b c) : lt2 a c := by unfold lt2 at *; omega
theorem cmpX_lt (a b : Cnd) : iLt (cmpX a b) 0 = true ↔ lt2 a b := by
 unfold cmpX lt2 fr idn
 generalize a.getD 0 0 = a0
 generalize a.getD 1 0 = a1
 generalize b.getD 0 0 = b0
 generalize b.getD 1 0 = b1
 unfold orZ cmpI
 cases h1 : iLt a0 b0 <;> cases h2 : iLt b0 a0 <;> cases h3 : iLt a1 b1 <;> cases h4 : iLt b1 a1 <;> simp only [Sx.Bz, Sx.Cont.n] at h1 h2 h3 h4 <;> simp [iBne, iLt] <;> omega
theorem getD_at {l : List Cnd} {i : Nat} (h : i < l.length) : l.getD i [] = l[i] := by rw [List.getD_eq_getElem?_getD, List.getElem?_eq_getElem h]; rfl
theorem count_mono (p : Cnd → Bool) : ∀ (l : List Cnd), l.Pairwise (fun a b => p b = true → p a = true) → ∀ k, k < l.length → (k < l.countP p ↔ p (l.getD k []) = true)
 | [], _, k, h => by simp at h
 | x :: l, hp, k, hk => by
  rw [List.pairwise_cons] at hp
  have ih := count_mono p l hp.2
  cases hx : p x with
  | true =>
   rw [List.countP_cons_of_pos hx]
   cases k with
   | zero => simp [hx]
   | succ k =>
    have := ih k (by simpa using hk)
    simp only [List.getD_cons_succ, Nat.add_lt_add_iff_right]
    exact this
  | false =>
   have hz : ∀ y ∈ l, p y = false := fun y hy => by
    cases hy' : p y with
    | false => rfl
    | true => have := hp.1 y hy hy'; rw [hx] at this; cases this
   have h0 : l.countP p = 0 := by rw [List.countP_eq_zero]; intro y hy; rw [hz y hy]; simp
   rw [List.countP_cons_of_neg (by rw [hx]; simp), h0]
   constructor
   ·intro h; omega
   ·intro h
    cases k with
    | zero => simp [hx] at h
    | succ k =>
     rw [List.getD_cons_succ, getD_at (by simpa using hk), hz _ (List.getElem_mem _)] at h
     cases h
theorem bs_sorted {l : List Cnd} (h : l.Pairwise lt2) (q : Cnd) : bsB q l = true := by
 unfold bsB
 rw [List.all_eq_true]
 intro k hk
 have hk := List.mem_range.1 hk
 have := count_mono (pA q) l (h.imp fun {a b} hab hb => (cmpX_lt a q).2 (lt2_trans hab ((cmpX_lt b q).1 hb))) k hk
 rw [beq_iff_eq, Bool.eq_iff_iff, Nat.blt_eq]
 exact this
def cntF (k : Int) (l : List Cnd) : Nat := (l.filter fun x => decide (fr x = k)).length
def sumA (l : List Cnd) : Int := (l.map amt).foldr (· + ·) 0
def sumF (k : Int) (l : List Cnd) : Int := sumA (l.filter fun x => decide (fr x = k))
theorem sumA_nil : sumA [] = 0 := rfl
theorem sumA_cons (x : Cnd) (l : List Cnd) : sumA (x :: l) = amt x + sumA l := rfl
theorem sumA_append (l m : List Cnd) : sumA (l ++ m) = sumA l + sumA m := by
 induction l with
 | nil => simp [sumA_nil]
 | cons x l ih => rw [List.cons_append, sumA_cons, sumA_cons, ih]; omega
theorem sumF_append (k : Int) (l m : List Cnd) : sumF k (l ++ m) = sumF k l + sumF k m := by unfold sumF; rw [List.filter_append, sumA_append]
theorem cntF_append (k : Int) (l m : List Cnd) : cntF k (l ++ m) = cntF k l + cntF k m := by unfold cntF; rw [List.filter_append, List.length_append]
def coinsL (l : List Cnd) : Prop := ∀ x ∈ l, 1 ≤ amt x ∧ amt x ≤ 1125899906842624
theorem sumA_le {l : List Cnd} (h : coinsL l) : (l.length : Int) ≤ sumA l ∧ sumA l ≤ l.length * 1125899906842624 := by
 induction l with
 | nil => simp [sumA_nil]
 | cons x l ih =>
  have := ih fun y hy => h y (List.mem_cons_of_mem _ hy)
  have := h x (List.mem_cons_self ..)
  rw [sumA_cons, List.length_cons]
  constructor
  ·omega
  ·rw [Int.natCast_add, Int.add_mul]; omega
theorem sumF_le {l : List Cnd} (k : Int) (h : coinsL l) : 0 ≤ sumF k l ∧ sumF k l ≤ sumA l := by
 induction l with
 | nil => exact ⟨Int.le_refl _, Int.le_refl _⟩
 | cons x l ih =>
  have h1 := ih fun y hy => h y (List.mem_cons_of_mem _ hy)
  have h2 := h x (List.mem_cons_self ..)
  unfold sumF at h1 ⊢
  rw [List.filter_cons]
  split
  ·rw [sumA_cons, sumA_cons]; omega
  ·rw [sumA_cons]; omega
theorem wrap_in {n : Int} (h1 : -9223372036854775808 ≤ n) (h2 : n ≤ 9223372036854775807) : IntKind.i64.wrap n = n := IntWalk.i64_in _ ⟨h1, h2⟩
theorem offN_go (tw : Int) : ∀ (l : List Cnd) (n : Int), 0 ≤ n → n + l.length ≤ 100000 → l.foldl (fun n x => bif offA tw x then IntKind.i64.wrap (n + 1) else n) n = n + ((l.filter fun x => offA tw x).length : Nat)
 | [], n, _, _ => by simp
 | x :: l, n, h0, h1 => by
  rw [List.length_cons] at h1
  rw [List.foldl_cons, List.filter_cons]
  cases hx : offA tw x with
  | true =>
   simp only [cond_true, _root_.if_true]
   rw [wrap_in (by omega) (by omega), offN_go tw l (n + 1) (by omega) (by omega), List.length_cons]; omega
  | false =>
   simp only [cond_false, Bool.false_eq_true, _root_.if_false]
   exact offN_go tw l n h0 (by omega)
theorem offM_go (tw : Int) : ∀ (l : List Cnd) (s : Int), coinsL l → 0 ≤ s → s + sumA l ≤ 1152921504606846976 → l.foldl (fun s x => bif offA tw x then IntKind.i64.wrap (s + x.getD 2 0) else s) s = s + sumA (l.filter fun x => offA tw x)
 | [], s, _, _, _ => by simp [sumA_nil]
 | x :: l, s, hc, h0, h1 => by
  have h2 := hc x (List.mem_cons_self ..)
  have hc' : coinsL l := fun y hy => hc y (List.mem_cons_of_mem _ hy)
  have h3 := (sumA_le hc').1
  rw [sumA_cons] at h1
  rw [List.foldl_cons, List.filter_cons]
  cases hx : offA tw x with
  | true =>
   simp only [cond_true, _root_.if_true]
   rw [show x.getD 2 0 = amt x from rfl, wrap_in (by omega) (by omega), offM_go tw l (s + amt x) hc' (by omega) (by omega), sumA_cons]; omega
  | false =>
   simp only [cond_false, Bool.false_eq_true, _root_.if_false]
   exact offM_go tw l s hc' h0 (by omega)
theorem offA_eq {tw : Int} (h : tw = 0 ∨ tw = 1) (x : Cnd) : offA tw x = decide (fr x = 1 - tw) := by
 unfold offA fr
 rw [wrap_in (by omega) (by omega)]
 rw [Bool.eq_iff_iff, iBeq_t, decide_eq_true_eq]
theorem offN_eq {tw : Int} (h : tw = 0 ∨ tw = 1) {l : List Cnd} (hl : l.length ≤ 1000) : offN tw l = cntF (1 - tw) l := by
 unfold offN
 rw [offN_go tw l 0 (by omega) (by omega)]
 unfold cntF
 rw [List.filter_congr fun x _ => offA_eq h x]; omega
theorem offM_eq {tw : Int} (h : tw = 0 ∨ tw = 1) {l : List Cnd} (hc : coinsL l) (hl : l.length ≤ 1000) : offM tw l = sumF (1 - tw) l := by
 unfold offM
 have := (sumA_le hc).2
 rw [offM_go tw l 0 hc (by omega) (by omega)]
 unfold sumF
 rw [List.filter_congr fun x _ => offA_eq h x]; omega
theorem totP_go : ∀ (l : List Cnd) (s : Int), coinsL l → 0 ≤ s → s + sumA l ≤ 2305843009213693952 → l.foldl totS s = s + sumA l
 | [], s, _, _, _ => by simp [sumA_nil]
 | x :: l, s, hc, h0, h1 => by
  have h2 := hc x (List.mem_cons_self ..)
  have hc' : coinsL l := fun y hy => hc y (List.mem_cons_of_mem _ hy)
  have h3 := (sumA_le hc').1
  rw [sumA_cons] at h1
  rw [List.foldl_cons]
  unfold totS
  rw [show x.getD 2 0 = amt x from rfl, wrap_in (by omega) (by omega), show (fun (s : Int) (x : List Int) => IntKind.i64.wrap (s + x.getD 2 0)) = totS from rfl, totP_go l (s + amt x) hc' (by omega) (by omega), sumA_cons]; omega
theorem totP_eq {h0 h1 : Int} {l : List Cnd} (hc : coinsL l) (hl : l.length ≤ 1000) (a0 : 0 ≤ h0 ∧ h0 ≤ 1125899906842624) (a1 : 0 ≤ h1 ∧ h1 ≤ 1125899906842624) : totP h0 h1 l = h0 + h1 + sumA l := by
 unfold totP
 have := (sumA_le hc).2
 rw [wrap_in (by omega) (by omega), totP_go l (h0 + h1) hc (by omega) (by omega)]
theorem cost_eq {rt : Int} {n : Nat} (h : 0 ≤ rt ∧ rt ≤ 1000) (hn : n ≤ 16) : costO rt n = rt * (68 + 8 * n) + 660 := by
 have hw : wgt n = 68 + 8 * n := by
  unfold wgt
  rw [show iLt (n : Int) 0 = false by simp only [Sx.Bz, Sx.Cont.n]; omega, show iLt 16 (n : Int) = false by simp only [Sx.Bz, Sx.Cont.n]; omega]
  simp only [cond_false]
  rw [wrap_in (n := 8 * (n : Int)) (by omega) (by omega), wrap_in (by omega) (by omega)]
 have hb : rt * (68 + 8 * n) ≤ 1000 * 196 := Int.mul_le_mul h.2 (by omega) (by omega) (by omega)
 have hb0 : 0 ≤ rt * (68 + 8 * (n : Int)) := Int.mul_nonneg h.1 (by omega)
 unfold costO feeT
 rw [show iLt rt 0 = false by simp only [Sx.Bz, Sx.Cont.n]; omega, show iLt 1000 rt = false by simp only [Sx.Bz, Sx.Cont.n]; omega]
 simp only [cond_false]
 rw [hw, wrap_in (n := rt * (68 + 8 * (n : Int))) (by omega) (by omega), wrap_in (by omega) (by omega)]
def fineL (O : OO) (x : Cnd) : Prop := (0 ≤ fr x ∧ fr x ≤ 1) ∧ (1 ≤ idn x ∧ idn x ≤ 1048576) ∧ (1 ≤ amt x ∧ amt x ≤ 1125899906842624) ∧ (1 ≤ x.getD 4 0 ∧ x.getD 4 0 ≤ 1048576) ∧ O.pright (x.getD 3 0) = true ∧ x.getD 3 0 ≠ 1
theorem fineL_iff {O : OO} (x : Cnd) : fineO O (x.getD 0 0) (x.getD 1 0) (x.getD 2 0) (x.getD 3 0) (x.getD 4 0) = true ↔ fineL O x := fine_all
def leastF (c : Nat → Int) (f : Int) : Int := bif iBeq f 0 then c 54 else c 48
theorem least_eq {c : Nat → Int} {f : Int} (h : 0 ≤ f ∧ f ≤ 1) : leastC c (IntKind.i64.wrap (1 - f)) = leastF c f := by
 have : f = 0 ∨ f = 1 := by omega
 rcases this with rfl | rfl <;> rfl
theorem adj_sorted {l : List Cnd} (h : ∀ i, 0 < i → i < l.length → lt2 (l.getD (i - 1) []) (l.getD i [])) : l.Pairwise lt2 := by
 rw [List.pairwise_iff_getElem]
 have key : ∀ d i, i + d + 1 < l.length → lt2 (l.getD i []) (l.getD (i + d + 1) []) := by
  intro d
  induction d with
  | zero => intro i hi; exact h (i + 1) (by omega) (by omega)
  | succ d ih => intro i hi; exact lt2_trans (ih i (by omega)) (h (i + d + 1 + 1) (by omega) (by omega))
 intro i j hi hj hij
 have := key (j - i - 1) i (by omega)
 rw [show i + (j - i - 1) + 1 = j by omega, getD_at hi, getD_at hj] at this
 exact this
theorem sorted_adj {l : List Cnd} (h : l.Pairwise lt2) {i : Nat} (h0 : 0 < i) (hi : i < l.length) : lt2 (l.getD (i - 1) []) (l.getD i []) := by
 rw [List.pairwise_iff_getElem] at h
 have := h (i - 1) i (by omega) hi (by omega)
 rw [getD_at (by omega), getD_at hi]
 exact this
theorem badK_iff {O : OO} {c : Nat → Int} {l : List Cnd} {i : Nat} : badK O c l i = false ↔ fineL O (l.getD i []) ∧ leastF c (fr (l.getD i [])) ≤ amt (l.getD i []) ∧ (0 < i → lt2 (l.getD (i - 1) []) (l.getD i [])) := by
 unfold badK
 cases hf : fineO O (xAt l i 0) (xAt l i 1) (xAt l i 2) (xAt l i 3) (xAt l i 4) with
 | false =>
  simp only [Bool.not_false, cond_true]
  constructor
  ·intro h; cases h
  ·intro h
   have hf' : fineO O (xAt l i 0) (xAt l i 1) (xAt l i 2) (xAt l i 3) (xAt l i 4) = true := (fineL_iff _).2 h.1
   rw [hf'] at hf; cases hf
 | true =>
  have hfl : fineL O (l.getD i []) := (fineL_iff _).1 hf
  have hle : leastC c (IntKind.i64.wrap (1 - xAt l i 0)) = leastF c (fr (l.getD i [])) := least_eq hfl.1
  rw [hle]
  have hlt : iLe 0 (orZ (cmpI (xAt l (i - 1) 0) (xAt l i 0)) (cmpI (xAt l (i - 1) 1) (xAt l i 1))) = false ↔ lt2 (l.getD (i - 1) []) (l.getD i []) := by
   rw [← cmpX_lt]
   show iLe 0 (cmpX (l.getD (i - 1) []) (l.getD i [])) = false ↔ _
   rw [iLe_f, iLt_t]; omega
  cases hm : iLt (xAt l i 2) (leastF c (fr (l.getD i []))) with
  | true =>
   simp only [Bool.not_true, cond_true, cond_false]
   constructor
   ·intro h; cases h
   ·intro h
    rw [iLt_t] at hm
    have : amt (l.getD i []) = xAt l i 2 := rfl
    omega
  | false =>
   rw [iLt_f] at hm
   have ha : leastF c (fr (l.getD i [])) ≤ amt (l.getD i []) := by
    have : amt (l.getD i []) = xAt l i 2 := rfl
    omega
   cases hp : iLt 0 (i : Int) with
   | true =>
    rw [iLt_t] at hp
    simp only [Bool.not_true, cond_true, cond_false]
    rw [hlt]
    exact ⟨fun h => ⟨hfl, ha, fun _ => h⟩, fun h => h.2.2 (by omega)⟩
   | false =>
    rw [iLt_f] at hp
    simp only [Bool.not_true, cond_true, cond_false]
    exact ⟨fun _ => ⟨hfl, ha, fun h => by omega⟩, fun _ => by first | trivial | rfl⟩
theorem allB_iff {O : OO} {c : Nat → Int} {l : List Cnd} : allB O c l l.length = true ↔ (∀ x ∈ l, fineL O x ∧ leastF c (fr x) ≤ amt x) ∧ l.Pairwise lt2 := by
 unfold allB
 rw [List.all_eq_true]
 constructor
 ·intro h
  have h' : ∀ i, i < l.length → badK O c l i = false := fun i hi => by simpa using h i (List.mem_range.2 hi)
  refine ⟨fun x hx => ?_, adj_sorted fun i h0 hi => (badK_iff.1 (h' i hi)).2.2 h0⟩
  obtain ⟨i, hi, rfl⟩ := List.getElem_of_mem hx
  have := badK_iff.1 (h' i hi)
  rw [getD_at hi] at this
  exact ⟨this.1, this.2.1⟩
 ·intro h i hi
  have hi := List.mem_range.1 hi
  have hm := h.1 _ (List.getElem_mem hi)
  rw [badK_iff.2 ⟨by rw [getD_at hi]; exact hm.1, by rw [getD_at hi]; exact hm.2, fun h0 => sorted_adj h.2 h0 hi⟩]
  rfl
theorem fine_coins {O : OO} {c : Nat → Int} {l : List Cnd} (h : ∀ x ∈ l, fineL O x ∧ leastF c (fr x) ≤ amt x) : coinsL l := fun x hx => (h x hx).1.2.2.1
structure RightP (O : OO) (c : Nat → Int) (no h0 h1 rt : Int) (l : List Cnd) : Prop where
 fit : iBne (fitO O c) 0 = false
 bno : 0 ≤ no ∧ no ≤ 1048576
 bh0 : 0 ≤ h0 ∧ h0 ≤ 1125899906842624
 bh1 : 0 ≤ h1 ∧ h1 ≤ 1125899906842624
 brt : 0 ≤ rt ∧ rt ≤ 1000
 len : l.length ≤ 16
 fine : ∀ x ∈ l, fineL O x ∧ leastF c (fr x) ≤ amt x
 sorted : l.Pairwise lt2
 n1 : (cntF 1 l : Int) ≤ c 47
 s1 : sumF 1 l ≤ c 49
 n0 : (cntF 0 l : Int) ≤ c 53
 s0 : sumF 0 l ≤ c 55
 tot : h0 + h1 + sumA l = c 33
 pay : rt * (68 + 8 * l.length) + 660 ≤ haveO h0 h1 (c 56)
theorem right_iff' {O : OO} {c : Nat → Int} {no h0 h1 rt : Int} {l : List Cnd} : rightO O c no h0 h1 rt l = true ↔ RightP O c no h0 h1 rt l := by
 have two : ∀ a b : Int, allW 0 1125899906842624 [a, b] = true ↔ (0 ≤ a ∧ a ≤ 1125899906842624) ∧ (0 ≤ b ∧ b ≤ 1125899906842624) := fun a b => by
  rw [← allW_one, ← allW_one]
  unfold allW
  simp
 constructor
 ·intro h
  unfold rightO at h
  cases a1 : iBne (fitO O c) 0 with
  | true => rw [a1] at h; simp at h
  | false =>
   cases a2 : allW 0 1048576 [no] with
   | false => rw [a1, a2] at h; simp at h
   | true =>
    cases a3 : allW 0 1125899906842624 [h0, h1] with
    | false => rw [a1, a2, a3] at h; simp at h
    | true =>
     cases a4 : allW 0 1000 [rt] with
     | false => rw [a1, a2, a3, a4] at h; simp at h
     | true =>
      cases a5 : iLt 16 (l.length : Int) with
      | true => rw [a1, a2, a3, a4, a5] at h; simp at h
      | false =>
       cases a6 : allB O c l l.length with
       | false => rw [a1, a2, a3, a4, a5, a6] at h; simp at h
       | true =>
        have hlen : l.length ≤ 16 := by rw [iLt_f] at a5; omega
        obtain ⟨hf, hs⟩ := allB_iff.1 a6
        have hc := fine_coins hf
        have e0 := allW_one.1 a2
        have e1 := (two h0 h1).1 a3
        have e2 := allW_one.1 a4
        rw [a1, a2, a3, a4, a5, a6] at h
        unfold offBad at h
        rw [offN_eq (.inl rfl) (by omega), offM_eq (.inl rfl) hc (by omega), offN_eq (.inr rfl) (by omega), offM_eq (.inr rfl) hc (by omega), totP_eq hc (by omega) e1.1 e1.2, cost_eq e2 hlen] at h
        cases b1 : iLt (c 47) (cntF (1 - 0) l : Int) with
        | true => rw [b1] at h; simp at h
        | false =>
         cases b2 : iLt (c 49) (sumF (1 - 0) l) with
         | true => rw [b1, b2] at h; simp at h
         | false =>
          cases b3 : iLt (c 53) (cntF (1 - 1) l : Int) with
          | true => rw [b1, b2, b3] at h; simp at h
          | false =>
           cases b4 : iLt (c 55) (sumF (1 - 1) l) with
           | true => rw [b1, b2, b3, b4] at h; simp at h
           | false =>
            rw [b1, b2, b3, b4] at h
            cases b5 : iBeq (h0 + h1 + sumA l) (c 33) with
            | false => rw [b5] at h; simp at h
            | true =>
             rw [b5] at h
             simp only [Bool.not_true, cond_true, cond_false, iLe_t] at h
             rw [iLt_f] at b1 b2 b3 b4
             rw [iBeq_t] at b5
             exact ⟨a1, e0, e1.1, e1.2, e2, hlen, hf, hs, Int.not_lt.1 b1, Int.not_lt.1 b2, Int.not_lt.1 b3, Int.not_lt.1 b4, b5, h⟩
 ·intro h
  have hc := fine_coins h.fine
  have hl := h.len
  unfold rightO offBad
  rw [h.fit, allW_one.2 h.bno, (two h0 h1).2 ⟨h.bh0, h.bh1⟩, allW_one.2 h.brt, show iLt 16 (l.length : Int) = false by rw [iLt_f]; omega, allB_iff.2 ⟨h.fine, h.sorted⟩, offN_eq (.inl rfl) (by omega), offM_eq (.inl rfl) hc (by omega), offN_eq (.inr rfl) (by omega), offM_eq (.inr rfl) hc (by omega), totP_eq hc (by omega) h.bh0 h.bh1, cost_eq h.brt h.len,
   show iLt (c 47) (cntF (1 - 0) l : Int) = false by rw [iLt_f]; exact Int.not_lt.2 h.n1, show iLt (c 49) (sumF (1 - 0) l) = false by rw [iLt_f]; exact Int.not_lt.2 h.s1, show iLt (c 53) (cntF (1 - 1) l : Int) = false by rw [iLt_f]; exact Int.not_lt.2 h.n0, show iLt (c 55) (sumF (1 - 1) l) = false by rw [iLt_f]; exact Int.not_lt.2 h.s0, show iBeq (h0 + h1 + sumA l) (c 33) = true by rw [iBeq_t]; exact h.tot, show iLe (rt * (68 + 8 * (l.length : Int)) + 660) (haveO h0 h1 (c 56)) = true by rw [iLe_t]; exact h.pay]
  rfl
theorem right_sorted {O : OO} {c : Nat → Int} {no h0 h1 rt : Int} {l : List Cnd} (h : rightO O c no h0 h1 rt l = true) (q : Cnd) : bsB q l = true := bs_sorted (right_iff'.1 h).sorted q
theorem found_at {l : List Cnd} {f i : Int} (h : iLt (idxS (matchF f i) l) 0 = false) : ∃ k, k < l.length ∧ fr (l.getD k []) = f ∧ idn (l.getD k []) = i ∧ ∀ j, findC f i l j = (l.getD k []).getD j 0 := by
 obtain ⟨k1, k2⟩ := (idxS_lt (matchF f i) l).2 h
 have hF : ∀ j, findC f i l j = (l.getD (idxS (matchF f i) l).toNat []).getD j 0 := fun j => by unfold findC; rw [h]; rfl
 refine ⟨(idxS (matchF f i) l).toNat, k1, ?_⟩
 have hm : matchF f i (l.getD (idxS (matchF f i) l).toNat []) = true := by
  revert k1 k2 h
  unfold idxS
  cases hf : l.findIdx? (matchF f i) with
  | none => intro h k1 k2; simp only at k2; omega
  | some k =>
   intro h k1 k2
   rw [List.findIdx?_eq_some_iff_getElem] at hf
   obtain ⟨hk, h1, _⟩ := hf
   simp only [Int.toNat_natCast]
   rw [getD_at hk]; exact h1
 revert hm
 generalize l.getD (idxS (matchF f i) l).toNat [] = y at *
 intro hm
 unfold matchF at hm
 cases h1 : iBeq (y.getD 0 0) f with
 | false => rw [h1] at hm; cases hm
 | true =>
  rw [h1] at hm
  rw [iBeq_t] at h1
  simp only [cond_true, iBeq_t] at hm
  exact ⟨h1, hm, hF⟩
end Go.Proofs.YtcdmmfelagbpdaaGreat
