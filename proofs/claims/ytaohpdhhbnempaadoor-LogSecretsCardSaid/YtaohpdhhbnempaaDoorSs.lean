/- Shachain: the machine's reading of the table; stores of a seed's secrets. -/
import Derived.Test.YtaohpdhhbnempaaDoorSp
namespace Go.Proofs.YtaohpdhhbnempaaDoor
open Go Go.RowKit Go.Lib Ckp Cfd Cpd Sx
set_option linter.unusedVariables false
set_option linter.unusedSimpArgs false
/-- The machine's reading: the table of math/bits stands. -/
def IT : Sx.Interp := ⟨fun _ _ _ _ _ => False, fun _ _ _ _ _ _ _ h => h, fun w => TabAt 1 Lib.deBruijn64tab w, fun b => b = 1, fun w w' h hT => fun j hj => by
 rw [← hT j hj]
 unfold World.cell?
 rw [h _ rfl]⟩
theorem tz_IT : Tz IT := fun _ h => h
theorem calls_realI {I : Interp} {P : Program} {sp : FuncId → Option Sx.Spec} (hsp : ∀ f s, sp f = some s → Sx.SpecOK I P f s) (hm : P.follows .mixedOrders = true) (an : List Ann) {f : FuncId} {fn : Func} {c : Code} {N : Nat}
  (hf : P.funcs[f]? = some fn) (hb' : fn.body.isSome = true) (hc : bodyOf fn = c) (hN : fn.ntmps = N) {l : List Value} {v : Value} (hl : l.length ≤ N)
  (h : wpcI P sp N an c 0 0 (argEnv l 0) [] (retK P fn.results.toList v)) (w : World) (ha : AmbW I w := by first | assumption | exact And.intro trivial (fun _ h => h.elim)) : Calls P f l.toArray w fun e w' => e = .returned v ∧ Fr (fun _ => False) w w' :=
 calls_real hsp hm an hf hb' hc hN hl (wpcI_of h) w
theorem isH_oo {a : Array Value} (h : isHa a = true) : oo.isH a = true := by
 have e : oo.isH a = isHa a := by kernel_rfl
 rw [e]; exact h
theorem bcs_AV (l : List Nat) (h1 : l.length = 32) (h2 : ∀ i, l.getD i 0 < 256) : ∃ m : Nat → Int, bcs l = AV m ∧ isHa (AV m) = true := by
 have e : bcs l = ⟨(l.map fun n : Nat => (n : Int)).map (Value.int .u8)⟩ := by unfold bcs; apply Array.ext'; simp
 have hh : isHa (bcs l) = true := by
  rw [e]
  refine isHa_AV (by simpa using h1) fun x hx => ?_
  obtain ⟨n, hn, rfl⟩ := List.mem_map.1 hx
  obtain ⟨i, hi, rfl⟩ := List.mem_iff_getElem.1 hn
  have := h2 i
  rw [List.getD_eq_getElem?_getD, List.getElem?_eq_getElem hi] at this
  simp only [Option.getD_some] at this
  omega
 obtain ⟨m, hm⟩ := isH_AV hh
 exact ⟨m, hm, hm ▸ hh⟩
theorem bytF_byB {O : OO} (hC : ∀ m : Nat → Int, O.isH (AV m) = true → byB (tabI m 32) = true) {L : List (List (List Int))} (h : okL O L = true) : ∀ x, x ≤ 21 → byB (bytF L x) = true
 | 0, _ => rfl
 | x + 1, hx => by
  have ih := bytF_byB hC h x (by omega)
  obtain ⟨hL, hE⟩ := okL_at h
  rw [bytF_succ hL (by omega), byB_app, ih]
  rcases okE_cases (hE x) with e | ⟨y, e, hy⟩
  ·rw [e]; rfl
  ·rw [e, List.flatMap_cons, List.flatMap_nil, List.append_nil, hC _ hy]; rfl
theorem sec_eq {n : Int} {a : Array Value} (W : OW) (h : secB n = false) : secF' W n a = W.cm 20 (1048575 - n) a := by funext i; unfold secF'; rw [h]; rfl
theorem secB_f {n : Int} : secB n = false ↔ 0 ≤ n ∧ n < 1048576 := by
 unfold secB
 cases c : iLt n 0
 ·simp only [iLt_f] at c; rw [cond_false, iLe_f]; omega
 ·simp only [iLt_t] at c; rw [cond_true]; simp; omega
/-- An odd place's secret is the sum of its neighbour's, a bit changed. -/
theorem odd_sum {O : OO} {W : OW} (hw : W = wO O) {q : Int} (a : Array Value) (hq : q % 2 = 1) : AV (O.sum (flipL (W.cm 20 (q - 1) a) 0)) = AV (W.cm 20 q a) := by
 subst hw
 show AV (O.sum (flipL (stepS O (q - 1) 20 (fnA a) 20) 0)) = AV (stepS O q 20 (fnA a) 20)
 have e := step_comp O (p := q - 1) (q := q) (h := 1) (H := 20) (fnA a) (by decide) (by simp only [Int.reducePow]; omega) (by simp only [Int.reducePow]; omega)
 rw [← e]
 have b : bitP q 0 = true := by rw [bitP_eq]; simp only [Int.reducePow, decide_eq_true_eq]; omega
 show _ = AV (nextS O q (1 - 1 - 0) (stepS O (q - 1) 20 (fnA a) 20))
 unfold nextS
 rw [show 1 - 1 - 0 = 0 from rfl, b]; rfl
/-- A store of a seed's secrets. -/
def sdL (W : OW) (a : Array Value) : Nat → List (List (List Int))
 | 0 => nilL
 | j + 1 => stL W (j : Int) (sdL W a j) (j : Int) (AV (secF' W (j : Int) a))
theorem hg_isH {O : OO} (F : FO O) {W : OW} (hw : W = wO O) {m : Nat → Int} (hm : O.isH (AV m) = true) (h q : Int) : O.isH (AV (W.cm h q (AV m))) = true := by
 subst hw
 exact stepH F (show O.isH (AV (fnA (AV m))) = true by rw [fn_AV]; exact hm) _
theorem sdL_inv {O : OO} {W : OW} (hw : W = wO O) (a : Array Value) (j : Nat) (h : (j : Int) ≤ 1048576) : InvS W (j : Int) (sdL W a j) fun q => W.cm 20 q a := by
 induction j with
 | zero => exact inv_nil W _
 | succ j ih =>
  have hj : (j : Int) < 1048576 := by omega
  have I := ih (by omega)
  have := seed_next hw I hj
  have e : ((j + 1 : Nat) : Int) = (j : Int) + 1 := by omega
  rw [e]
  unfold sdL
  rw [sec_eq W (secB_f.2 (by omega))]
  exact this
theorem inv_ok {O : OO} {W : OW} {n : Int} {L : List (List (List Int))} {K : Int → Nat → Int} (I : InvS W n L K) (hK : ∀ q, O.isH (AV (K q)) = true) : okL O L = true := by
 unfold okL
 rw [I.len, Bool.and_eq_true]
 refine ⟨rfl, List.all_eq_true.2 fun e he => ?_⟩
 obtain ⟨i, hi, rfl⟩ := List.mem_iff_getElem.1 he
 have := I.ent i (by rw [I.len] at hi; exact hi)
 rw [List.getD_eq_getElem?_getD, List.getElem?_eq_getElem hi] at this
 simp only [Option.getD_some] at this
 rw [this]
 cases rdS n i
 ·rfl
 ·simp only [cond_true, okE, List.all_cons, List.all_nil, Bool.and_true, hK_cons, hK, List.length_cons, List.length_nil]; rfl
theorem step_none2 (O : OO) {p : Int} {h : Nat} {m : Nat → Int} : ∀ r, (∀ k, k < h → h ≤ k + r → bitP p k = false) → r ≤ h → stepS O p h m r = m
 | 0, _, _ => rfl
 | r + 1, e, hr => by
  have ih := step_none2 O (p := p) (m := m) r (fun k h1 h2 => e k h1 (by omega)) (by omega)
  show nextS O p (h - 1 - r) (stepS O p h m r) = m
  unfold nextS
  rw [ih, e (h - 1 - r) (by omega) (by omega)]; rfl
theorem flp_fn (m : Nat → Int) : flipL (fnA (AV m)) 0 = flipL m 0 := by kernel_rfl
theorem cm_one {O : OO} {W : OW} (hw : W = wO O) {p : Int} {h : Nat} (h0 : 0 < h) (hh : h ≤ 20) (m : Nat → Int) (hp : p % 2 ^ h = 0) : AV (W.cm (h : Int) (p + 1) (AV m)) = AV (O.sum (flipL m 0)) := by
 subst hw
 show AV (stepS O (p + 1) (h : Int).toNat (fnA (AV m)) (h : Int).toNat) = _
 have p2 : p % 2 = 0 := by
  have := Int.emod_emod_of_dvd p (pw_dvd (show 1 ≤ h from h0))
  rw [hp] at this
  simpa using this.symm
 have e1 := step_split O (p + 1) h (fnA (AV m)) (h - 1) 1
 rw [show h - 1 + 1 = h by omega, show h - (h - 1) = 1 by omega] at e1
 rw [Int.toNat_natCast, e1, step_none2 O (h - 1) (fun k h1 h2 => ?_) (by omega)]
 ·have b : bitP (p + 1) 0 = true := by rw [bitP_eq]; simp only [Int.reducePow, decide_eq_true_eq]; omega
  show AV (nextS O (p + 1) (1 - 1 - 0) (fnA (AV m))) = _
  unfold nextS
  rw [show 1 - 1 - 0 = 0 from rfl, b, cond_true, flp_fn]
 ·rw [bitP_eq, high (h := 1) (p := p + 1) (q := p) (by simp only [Int.reducePow]; omega) (by omega), low hp h1]; rfl
theorem once_last {O : OO} {W : OW} (hw : W = wO O) {n : Int} {L : List (List (List Int))} {s x : Nat → Int} (I : InvS W n L fun q => W.cm 20 q (AV s)) (hn : n < 1048576) (h2 : n % 2 = 1) (he : stE W n L n (AV x) = 0) :
  AV (O.sum (flipL x 0)) = AV (O.sum (flipL (W.cm 20 (1048575 - n) (AV s)) 0)) := by
 have hn2 : 0 ≤ n ∧ n < 1048576 := ⟨I.lo.1, hn⟩
 obtain ⟨h, e, h20, H⟩ := ht_of (p := 1048575 - n) (by omega) (by omega)
 have h0 : 0 < h := by
  apply Nat.pos_of_ne_zero
  rintro rfl
  rcases H with ⟨_, e⟩ | ⟨e, _⟩
  ·simp only [Int.reducePow, Nat.reduceAdd] at e; omega
  ·cases e
 have hc : chkAll W L (h : Int) (AV x) h = true := by
  rw [stE_0 hw I hn e h20] at he
  cases c : chkAll W L (h : Int) (AV x) h
  ·rw [c] at he; cases he
  ·rfl
 rw [chk_iff I _ _ h (by omega)] at hc
 obtain ⟨b1, b2, _, _⟩ := lst_below hn2 h20 H h0
 have k := hc 0 h0 b1
 rw [b2, show (1048575 - n + 2 ^ 0 : Int) = 1048575 - n + 1 from rfl, cm_one hw h0 h20 x (ht_mod H)] at k
 rw [k, ← odd_sum hw (AV s) (show (1048575 - n + 1) % 2 = 1 by omega), show 1048575 - n + 1 - 1 = 1048575 - n by omega]
theorem stE_or {O : OO} {W : OW} (hw : W = wO O) {n : Int} {L : List (List (List Int))} {K : Int → Nat → Int} (I : InvS W n L K) (hn : n < 1048576) (a : Array Value) : stE W n L n a = 0 ∨ stE W n L n a = 23 := by
 have := I.lo
 obtain ⟨h, e, h20, H⟩ := ht_of (p := 1048575 - n) (by omega) (by omega)
 rw [stE_0 hw I hn e h20]
 cases chkAll W L (h : Int) a h
 ·exact .inr rfl
 ·exact .inl rfl
/-- At an odd place nothing is asked. -/
theorem stE_odd {O : OO} {W : OW} (hw : W = wO O) {n : Int} {L : List (List (List Int))} {K : Int → Nat → Int} (I : InvS W n L K) (hn : n < 1048576) (h2 : n % 2 = 0) (a : Array Value) : stE W n L n a = 0 := by
 have := I.lo
 obtain ⟨h, e, h20, H⟩ := ht_of (p := 1048575 - n) (by omega) (by omega)
 have h0 : h = 0 := ht_uniq H (.inl ⟨by decide, by simp only [Int.reducePow, Nat.reduceAdd]; omega⟩)
 subst h0
 rw [stE_0 hw I hn e h20]; rfl
theorem sd_next {W : OW} {a : Array Value} {j : Int} (h : 0 ≤ j) : sdL W a (j + 1).toNat = stL W j (sdL W a j.toNat) j (AV (secF' W j a)) := by
 obtain ⟨i, rfl⟩ : ∃ i : Nat, j = i := ⟨j.toNat, by omega⟩
 rw [show ((i : Int) + 1).toNat = i + 1 by omega, Int.toNat_natCast]; rfl
theorem sd_inv {O : OO} {W : OW} (hw : W = wO O) (a : Array Value) {j : Int} (h0 : 0 ≤ j) (h1 : j ≤ 1048576) : InvS W j (sdL W a j.toNat) fun q => W.cm 20 q a := by
 have := sdL_inv hw a j.toNat (by omega)
 rwa [Int.toNat_of_nonneg h0] at this
end Go.Proofs.YtaohpdhhbnempaaDoor
