/- HopEarns: its arguments opened, and the law called. -/
import Derived.Test.YtcdmmfelagbpdaaGreatHe
namespace Go.Proofs.YtcdmmfelagbpdaaGreat
open Go.ChangeShapes Go.WideShapes Go.ChangeAt Go.RowKit Go.Lib Ckp Cfd Cpd Sx
set_option linter.unusedVariables false
set_option linter.unusedSimpArgs false
set_option maxRecDepth 1000000
theorem nat_u16 {a : Int} (h : (Lit.int .u16 a).wf = true) : ∃ n : Nat, n < 65536 ∧ a = (n : Int) := by
 have hb := bounds_u16 h
 exact ⟨a.toNat, by omega, by omega⟩
def cellsQ : List (Option IntKind) → (Nat → Int) → Value → Nat → List Value
 | [], _, _, _ => []
 | k :: ks, c, v, i => (match k with | some q => .int q (c i) | none => v) :: cellsQ ks c v (i + 1)
theorem opt_eq : ∀ (ks : List (Option IntKind)) (l : List Value) (c : Nat → Int) (v : Value) (o : Nat), l.length = ks.length → (∀ (j : Nat) (k : IntKind), ks[j]? = some (some k) → l[j]? = some (.int k (c (o + j)))) → (∀ (j : Nat), ks[j]? = some none → l[j]? = some v) → l = cellsQ ks c v o
 | [], [], _, _, _, _, _, _ => rfl
 | [], _ :: _, _, _, _, h, _, _ => by simp at h
 | _ :: _, [], _, _, _, h, _, _ => by simp at h
 | k :: ks, x :: l, c, v, o, hl, h1, h2 => by
  unfold cellsQ
  rw [← opt_eq ks l c v (o + 1) (by simpa using hl) (fun j q hj => by have := h1 (j + 1) q (by simpa using hj); rw [show o + 1 + j = o + (j + 1) by omega]; simpa using this) (fun j hj => by have := h2 (j + 1) (by simpa using hj); simpa using this)]
  congr 1
  cases k with
  | some q => have := h1 0 q rfl; simpa using this
  | none => have := h2 0 rfl; simpa using this
theorem opt_chk : ∀ (ks : List (Option IntKind)) (c : Nat → Int) (o : Nat), (∀ (j : Nat) (k : IntKind), ks[j]? = some (some k) → (k = .u8 ∨ k = .u16 ∨ k = .u32) ∧ (Lit.int k (c (o + j))).wf = true) → pyL ks (cellsP ks c o) = true
 | [], _, _, _ => rfl
 | k :: ks, c, o, h => by
  have ih := opt_chk ks c (o + 1) (fun j q hj => by have := h (j + 1) q (by simpa using hj); rw [show o + 1 + j = o + (j + 1) by omega]; exact this)
  unfold cellsP
  simp only [pyL, ih, Bool.and_true]
  cases k with
  | none => rfl
  | some q =>
   obtain ⟨hq, hw⟩ := h 0 q rfl
   rw [Nat.add_zero] at hw
   rcases hq with rfl | rfl | rfl
   ·have := bounds_u8 hw
    show inU (c o) 256 = true
    rw [inU_t]; omega
   ·have := bounds_u16 hw
    show inU (c o) 65536 = true
    rw [inU_t]; omega
   ·have := bounds_u32 hw
    show inU (c o) 4294967296 = true
    rw [inU_t]; omega
def smallK : List (Option IntKind) → Bool
 | [] => true
 | none :: l => smallK l
 | some k :: l => (decide (k = .u8) || decide (k = .u16) || decide (k = .u32)) && smallK l
theorem smallK_at : ∀ (l : List (Option IntKind)), smallK l = true → ∀ (j : Nat) (k : IntKind), l[j]? = some (some k) → k = .u8 ∨ k = .u16 ∨ k = .u32
 | [], _, j, k, h => by simp at h
 | none :: l, hs, 0, k, h => by simp at h
 | some q :: l, hs, 0, k, h => by
  simp only [List.getElem?_cons_zero, Option.some.injEq] at h
  subst h
  simp only [smallK, Bool.and_eq_true, Bool.or_eq_true, decide_eq_true_eq] at hs
  rcases hs.1 with (h | h) | h
  ·exact .inl h
  ·exact .inr (.inl h)
  ·exact .inr (.inr h)
 | none :: l, hs, j + 1, k, h => smallK_at l hs j k (by simpa using h)
 | some q :: l, hs, j + 1, k, h => smallK_at l (by simp only [smallK, Bool.and_eq_true] at hs; exact hs.2) j k (by simpa using h)
theorem tab_memQ (f : Nat → Int) : ∀ (n : Nat) (x : Int), x ∈ tabI f n → ∃ i, i < n ∧ x = f i
 | 0, x, h => by simp [tabI] at h
 | n + 1, x, h => by
  unfold tabI at h
  rcases List.mem_append.1 h with h | h
  ·obtain ⟨i, hi, e⟩ := tab_memQ f n x h
   exact ⟨i, by omega, e⟩
  ·exact ⟨n, by omega, by simpa using h⟩
theorem all_at (n : Nat) (p : Nat → Bool) (h : (List.range n).all p = true) (i : Nat) (hi : i < n) : p i = true := List.all_eq_true.1 h i (List.mem_range.2 hi)
theorem none_at (j : Nat) (h : pyK[j]? = some none) : j = 68 := by
 rcases Nat.lt_or_ge j 102 with hj | hj
 ·have := all_at 102 (fun j => !(pyK[j]? == some none) || j == 68) (by decide) j hj
  simpa [h] using this
 ·rw [List.getElem?_eq_none (by show 102 ≤ j; exact hj)] at h; cases h
theorem pyA_eq (c : Nat → Int) : (pyA c).toList = cellsP pyK c 0 := by kernel_rfl
theorem pyS_eq (c : Nat → Int) (v : Value) : (pyS c v).toList = cellsQ pyK c v 0 := by kernel_rfl
theorem pyA_x0 (c : Nat → Int) : (pyA c).extract 0 32 = AV fun i => c (i + 0) := by kernel_rfl
theorem pyA_x1 (c : Nat → Int) : (pyA c).extract 32 64 = AV fun i => c (i + 32) := by kernel_rfl
theorem pyK_8 : ((List.range 32).all fun i => pyK[i + 0]? == some (some .u8)) = true ∧ ((List.range 32).all fun i => pyK[i + 32]? == some (some .u8)) = true := by decide
theorem open_play {H : Type} {enc : TypeId × Value → H} {P : Program} {w : World} {base : Nat} {spare : Nat → Bool} {held : Bool} {t : TypeId} {v : Value} {d : DataW H} {p : List MemPlace}
  (hk : Ckp.kindsOf P t = pyK) (hagg : ∃ cs, v = .agg cs ∧ cs.size = P.cellsOf t) (h : DataW.Trod enc P w base spare held t v d p) :
  ∃ (c : Nat → Int) (x : Value), v = .agg (pyS c x) ∧ pyB (pyA c) = true ∧ isHa ((pyA c).extract 0 32) = true ∧ isHa ((pyA c).extract 32 64) = true := by
 obtain ⟨cs, rfl, hsz⟩ := hagg
 obtain ⟨fuel, hf⟩ := h
 have hlen : P.cellsOf t = 102 := by
  have := congrArg List.length hk
  simpa [Ckp.kindsOf, pyK] using this
 have hint : ∀ (j : Nat) (k : IntKind), pyK[j]? = some (some k) → ∃ z, cs.toList[j]? = some (.int k z) ∧ (Lit.int k z).wf = true := fun j k hj => by
  have hj' : j < P.cellsOf t := by
   rw [hlen]
   rcases Nat.lt_or_ge j 102 with h | h
   ·exact h
   ·rw [List.getElem?_eq_none (by show 102 ≤ j; exact h)] at hj; cases hj
  have e : (Ckp.kindsOf P t)[j]? = some (some k) := by rw [hk]; exact hj
  have e2 : kindAt P t j = some k := by
   unfold Ckp.kindsOf at e
   simpa [hj'] using e
  unfold kindAt at e2
  split at e2
  ·rename_i lt hlt
   split at e2
   ·rename_i k' hu
    injection e2 with e2
    subst e2
    exact trod_int_at hlt hu hf
   ·cases e2
  ·cases e2
 have hz : ∀ (j : Nat) (k : IntKind), pyK[j]? = some (some k) → cs.toList[j]? = some (.int k (pz cs (0 + j))) ∧ (Lit.int k (pz cs (0 + j))).wf = true := fun j k hj => by
  obtain ⟨z, h1, h2⟩ := hint j k hj
  have e : pz cs (0 + j) = z := by
   unfold pz
   rw [Nat.zero_add, List.getD_eq_getElem?_getD, h1]; rfl
  rw [e]; exact ⟨h1, h2⟩
 have hb : pyB (pyA (pz cs)) = true := by
  have := opt_chk pyK (pz cs) 0 (fun j k hj => ⟨smallK_at pyK (by decide) j k hj, (hz j k hj).2⟩)
  unfold pyB
  rw [pyA_eq]
  exact this
 have hH : ∀ o, (∀ i, i < 32 → pyK[i + o]? = some (some .u8)) → isHa (AV fun i => pz cs (i + o)) = true := fun o ho => by
  refine isHa_AV (l := tabI (fun i => pz cs (i + o)) 32) (tab_lenP _ _) fun x hx => ?_
  obtain ⟨i, hi, rfl⟩ := tab_memQ _ _ _ hx
  have := bounds_u8 (hz (i + o) .u8 (ho i hi)).2
  rw [Nat.zero_add] at this
  omega
 refine ⟨pz cs, cs.toList.getD 68 undef, ?_, hb, ?_, ?_⟩
 ·congr 1
  apply Array.ext'
  rw [pyS_eq]
  refine opt_eq pyK cs.toList (pz cs) _ 0 (by simp [hsz, hlen, pyK]) (fun j k hj => (hz j k hj).1) (fun j hj => ?_)
  have hj : j = 68 := none_at j hj
  subst hj
  rw [List.getD_eq_getElem?_getD, List.getElem?_eq_getElem (by simp [hsz, hlen])]; rfl
 ·rw [pyA_x0]
  exact hH 0 (fun i hi => by have := all_at 32 (fun i => pyK[i + 0]? == some (some .u8)) pyK_8.1 i hi; simpa using this)
 ·rw [pyA_x1]
  exact hH 32 (fun i hi => by have := all_at 32 (fun i => pyK[i + 32]? == some (some .u8)) pyK_8.2 i hi; simpa using this)
theorem base_ofO (k b : Int) (hk : 0 ≤ k) (hb : 0 ≤ b) : oo.pbase (oo.fadd (oo.fadd 0 k) b) = oo.padd (oo.pbase k) (oo.pbase b) := by
 obtain ⟨K, rfl⟩ : ∃ K : Nat, k = K := ⟨k.toNat, by omega⟩
 obtain ⟨B, rfl⟩ : ∃ B : Nat, b = B := ⟨b.toNat, by omega⟩
 have e1 : ∀ a b : Int, oo.fadd a b = ((fadd a.toNat b.toNat : Nat) : Int) := fun _ _ => by kernel_rfl
 have e2 : ∀ a : Int, oo.pbase a = ((pbase a.toNat : Nat) : Int) := fun _ => by kernel_rfl
 have e3 : ∀ a b : Int, oo.padd a b = ((padd a.toNat b.toNat : Nat) : Int) := fun _ _ => by kernel_rfl
 simp only [e1, e2, e3, Int.toNat_natCast]
 rw [show (0 : Int).toNat = 0 from rfl, base_add, base_add, base_0, one_add, taken_add]
theorem isH_oo9 {a : Array Value} (h : isHa a = true) : oo.isH a = true := by
 have e : oo.isH a = isHa a := by kernel_rfl
 rw [e]; exact h
theorem walk_hearn (c : Nat → Int) (va : Value) (hc1 : pyB (pyA c) = true) (hc2 : isHa ((pyA c).extract 0 32) = true) (hc3 : isHa ((pyA c).extract 32 64) = true) (d : Nat → Int) (vb : Value) (hd1 : pyB (pyA d) = true) (hd2 : isHa ((pyA d).extract 0 32) = true) (hd3 : isHa ((pyA d).extract 32 64) = true)
  (n hc a e : Int) (q : Nat) (hq : q < 18446744073709551616) (bl : Nat) (hbl : bl < 18446744073709551616) (k : Nat) (hk : k < 18446744073709551616) (b : Int) (hb : -9223372036854775808 ≤ b ∧ b ≤ 9223372036854775807) (p : Int) (hp : -9223372036854775808 ≤ p ∧ p ≤ 9223372036854775807) (dl : Int) (hdl : -9223372036854775808 ≤ dl ∧ dl ≤ 9223372036854775807) (l : Int) (hl : -9223372036854775808 ≤ l ∧ l ≤ 9223372036854775807) (m : Int) (hm : -9223372036854775808 ≤ m ∧ m ≤ 9223372036854775807) (more : Nat) (hmo : more < 65536) (w : World) :
  Calls Tryz.prog 3 #[.agg (pyS c va), .agg (pyS d vb), .agg #[.int .i64 n, .int .i64 hc, .int .i64 a, .int .i64 e, .int .u64 (q : Int), .int .u64 (bl : Int)], .int .u64 (k : Int), .agg #[.int .i64 b, .int .i64 p, .int .i64 dl, .int .i64 l, .int .i64 m], .int .u16 (more : Int)] w fun e w' => e = .returned (.bool true) ∧ Kp w w' :=
 (calls_realK (I := I0) (spHe0_ok I0 oo rfl (yO oo) rfl) (by kernel_rfl) [] (l := [.agg (pyS c va), .agg (pyS d vb), .agg ⟨[.int .i64 n, .int .i64 hc, .int .i64 a, .int .i64 e, .int .u64 (q : Int), .int .u64 (bl : Int)]⟩, .int .u64 (k : Int), .agg ⟨[.int .i64 b, .int .i64 p, .int .i64 dl, .int .i64 l, .int .i64 m]⟩, .int .u16 (more : Int)]) Tryz.func3 (by kernel_rfl) rfl Tryz.ntmps3 (by simp)
  (wpc_hearn oo (yO oo) c d va vb n hc a e q bl k b p dl l m more (fo_oo oo rfl) hc1 (isH_oo9 hc2) (isH_oo9 hc3) hd1 (isH_oo9 hd2) (isH_oo9 hd3) (inU_of hbl) (inU_of hk) hp.2 (by omega) (base_ofO _ _ (by omega) (by omega))) w).mono fun _ _ ⟨he, hf⟩ => ⟨he, fr_below hf⟩
end Go.Proofs.YtcdmmfelagbpdaaGreat
