/- The laws of shachain: the walks, by the symbolic machine (printed by genSc3.py; VCs by VcTool). -/
import Derived.Test.YtebffdgghkomjaaDoorSq
namespace Go.Proofs.YtebffdgghkomjaaDoor
open Go.RowKit Go.Lib Ckp Cfd Cpd Sx
set_option linter.unusedVariables false
set_option linter.unusedSimpArgs false
set_option maxRecDepth 1000000
/-- The machine's reading: the table of math/bits stands. -/
def IT : Sx.Interp := ⟨fun _ _ _ _ _ => False, fun _ _ _ _ _ _ _ h => h, fun w => TabAt 1 Lib.deBruijn64tab w, fun b => b = 1, fun w w' h hT => fun j hj => by
 rw [← hT j hj]
 unfold World.cell?
 rw [h _ rfl]⟩
theorem tz_IT : Tz IT := fun _ h => h
theorem calls_realI {I : Interp} {P : Program} {sp : FuncId → Option Sx.Spec} (hsp : ∀ f s, sp f = some s → Sx.SpecOK I P f s) (hm : P.follows .mixedOrders = true) (an : List Ann) {f : FuncId} {fn : Func} {c : Code} {N : Nat}
  (hf : P.funcs[f]? = some fn) (hb' : fn.body.isSome = true) (hc : bodyOf fn = c) (hN : fn.ntmps = N) {l : List Value} {v : Value} (hl : l.length ≤ N)
  (h : wpcI P sp N an c 0 0 (argEnv l 0) [] (retK P fn.results.toList v)) (w : World) (ha : AmbW I w := by first | assumption | exact And.intro trivial (fun _ h => h.elim)) : Calls P f l.toArray w fun e w' => e = .returned v ∧ Fr (fun _ => False) w w' :=
 calls_real hsp hm an hf hb' hc hN hl (wpcI_of h) w
theorem isH_oo {a : Array Value} (h : isHa a = true) : oo.isH a = true := by
 have e : oo.isH a = isHa a := by kernel_rfl
 rw [e]; exact h
theorem bcs_AV (l : List Nat) (h1 : l.length = 32) (h2 : ∀ i, l.getD i 0 < 256) : ∃ m : Nat → Int, bcs l = AV m ∧ isHa (AV m) = true := by
 have e : bcs l = ⟨(l.map fun n : Nat => (n : Int)).map (Value.int .u8)⟩ := by unfold bcs; apply Array.ext'; simp
 have hh : isHa (bcs l) = true := by
  rw [e]
  refine isHa_AV (by simpa using h1) fun x hx => ?_
  obtain ⟨n, hn, rfl⟩ := List.mem_map.1 hx
  obtain ⟨i, hi, rfl⟩ := List.mem_iff_getElem.1 hn
  have := h2 i
  rw [List.getD_eq_getElem?_getD, List.getElem?_eq_getElem hi] at this
  simp only [Option.getD_some] at this
  omega
 obtain ⟨m, hm⟩ := isH_AV hh
 exact ⟨m, hm, hm ▸ hh⟩
/-- A secret's bytes, the lowest bit changed. -/
def flpF (m : Nat → Int) (i : Nat) : Int := (flipL m 0).getD i 0
theorem flp_tab (m : Nat → Int) : tabI (flpF m) 32 = flipL m 0 := by kernel_rfl
def g_flp (O : OO) (R : OB) (W : OW) (ds : List Dt) : Option (Bool × List Bool × (List Bool → Post)) := match ds with
 | [.v (.agg a)] => some ((O.isH a), [], fun _ => ⟨[.sl 0 0 32 32], [(0, .arr 23 32 (AV (flpF (fnA a))))]⟩)
 | _ => none
set_option maxHeartbeats 4000000 in
theorem vc_flp (O : OO) (R : OB) (W : OW) (m : Nat → Int) (F : FO O) (hr : R = bO) (hw : W = wO O) (h1 : (O.isH (AV m)) = true) :
 (0 = 0 ∧ 32 = 32 ∧ 32 = 32) ∧ True ∧ Array.mk (List.map (Value.int .u8) (Sx.setGo (tabI (m) 32) 0 (IntKind.u8.wrap (iOf (BitVec.ofInt 8 ((tabI (m) 32).getD 0 0) ^^^ BitVec.ofInt 8
  1).toNat)) 32 0)) = AV (flpF (fnA (AV m))) ∧ True := by
 exact ⟨⟨(by first | rfl | trivial), (by first | rfl | trivial), (by first | rfl | trivial)⟩, (by first | rfl | trivial), by kernel_rfl, (by first | rfl | trivial)⟩
theorem wpc_flp (O : OO) (R : OB) (W : OW) (m : Nat → Int) (F : FO O) (hr : R = bO) (hw : W = wO O) (h1 : (O.isH (AV m)) = true) : wpcI Tryd.prog (spW3 O R W) Tryd.f26.ntmps [] (bodyOf Tryd.f26) 0 64 (envP (mks [.v] [.v (.agg (AV m))] 0).1 0) (mks [.v] [.v (.agg (AV m))] 0).2 (retP Tryd.prog Tryd.f26.results.toList 0 (⟨[.sl 0 0 32 32], [(0, .arr 23 32 (AV (flpF (fnA (AV m)))))]⟩ : Post)) :=
 Eq.mpr (by kernel_rfl) (vc_flp O R W m F hr hw h1)
theorem ok_flp (I : Sx.Interp) (hT : Tz I) (O : OO) (hO : O = oo) (R : OB) (hR : R = bO) (W : OW) (hW : W = wO O) : Sx.SpecOK I Tryd.prog 26 (pspec [.v] true (g_flp O R W)) := by
 refine spec_pI (spW3_ok I hT O hO R hR W hW) (by kernel_rfl) (fun ds => match ds with | [.v (.agg a)] => [] | _ => []) Tryd.func26 (by kernel_rfl) (by kernel_rfl) rfl Tryd.ntmps26 (by decide) ?_ ?_
 ·intro ds p bs F h
  unfold g_flp at h
  split at h
  ·rename_i a
   simp only [Option.some.injEq, Prod.mk.injEq] at h
   obtain ⟨_, _, rfl⟩ := h
   kernel_rfl
  ·cases h
 ·intro ds bs F hl h
  unfold g_flp at h
  split at h
  ·rename_i a
   simp only [Option.some.injEq, Prod.mk.injEq, Bool.and_eq_true] at h
   obtain ⟨h1, _, rfl⟩ := h
   obtain ⟨m, rfl⟩ := isH_AV (by subst hO; exact h1 : isHa a = true)
   exact wpc_flp O R W m (fo_oo O hO) hR hW (by first | exact h1 | (simp only [Bool.and_eq_true]; exact h1))
  ·cases h
def spW4 (O : OO) (R : OB) (W : OW) (f : FuncId) : Option Sx.Spec := match f with
 | 21 => some (pspec [.ro .u8] true (g_read O R W))
 | 26 => some (pspec [.v] true (g_flp O R W))
 | f => spW3 O R W f
theorem spW4_ok (I : Sx.Interp) (hT : Tz I) (O : OO) (hO : O = oo) (R : OB) (hR : R = bO) (W : OW) (hW : W = wO O) : ∀ f s, spW4 O R W f = some s → Sx.SpecOK I Tryd.prog f s := by
 intro f s h
 unfold spW4 at h
 split at h
 ·cases h; exact ok_read I hT O hO R hR W hW
 ·cases h; exact ok_flp I hT O hO R hR W hW
 ·exact spW3_ok I hT O hO R hR W hW _ s h
def g_small10 (l : List Value) : Option (Bool × Value) := match l with
 | [] => some (true, .bool true)
 | _ => none
theorem small10_calls (w : World) (ha : AmbW IT w) : Calls Tryd.prog 8 (List.toArray []) w fun e w' => e = .returned (.bool true) ∧ Fr (fun _ => False) w w' :=
 calls_real (I := IT) (spW4_ok IT tz_IT oo rfl bO rfl (wO oo) rfl) (by kernel_rfl) [] Tryd.func8 (by kernel_rfl) rfl Tryd.ntmps8 (by decide) (Eq.mpr (by kernel_rfl : _ = (Value.bool true = Value.bool true)) rfl) w
theorem ok_small10 : Sx.SpecOK IT Tryd.prog 8 (Sx.vspec g_small10) := by
 refine Sx.spec_of_callsA Tryd.func8 (by kernel_rfl) (by kernel_rfl) ?_
 intro l v hg w ha
 unfold g_small10 at hg
 split at hg
 ·simp only [Option.some.injEq, Prod.mk.injEq, true_and] at hg
  subst hg
  exact small10_calls w ha
 ·cases hg
def spW5 (O : OO) (R : OB) (W : OW) (f : FuncId) : Option Sx.Spec := match f with
 | 8 => some (Sx.vspec g_small10)
 | f => spW4 O R W f
theorem spW5_ok (O : OO) (hO : O = oo) (R : OB) (hR : R = bO) (W : OW) (hW : W = wO O) : ∀ f s, spW5 O R W f = some s → Sx.SpecOK IT Tryd.prog f s := by
 intro f s h
 unfold spW5 at h
 split at h
 ·cases h; exact ok_small10
 ·exact spW4_ok IT tz_IT O hO R hR W hW _ s h
theorem by_isH (m : Nat → Int) (h : oo.isH (AV m) = true) : byB (tabI m 32) = true := by
 have e : oo.isH (AV m) = isHa (AV m) := by kernel_rfl
 rw [e] at h
 unfold isHa at h
 rw [Bool.and_eq_true] at h
 have h2 := h.2
 unfold AV at h2
 generalize tabI m 32 = l at h2 ⊢
 rw [byB_iff]
 intro x hx
 have := List.all_eq_true.1 h2 (.int .u8 x) (List.mem_map.2 ⟨x, hx, rfl⟩)
 simpa [byteV] using this
theorem byB_row {R : OB} (hr : R = bO) {n : Int} (h : 0 ≤ n) : byB (R.row n) = true := by
 subst hr; exact rowG_byB 10 n h
theorem bytF_byB {O : OO} (hC : ∀ m : Nat → Int, O.isH (AV m) = true → byB (tabI m 32) = true) {L : List (List (List Int))} (h : okL O L = true) : ∀ x, x ≤ 21 → byB (bytF L x) = true
 | 0, _ => rfl
 | x + 1, hx => by
  have ih := bytF_byB hC h x (by omega)
  obtain ⟨hL, hE⟩ := okL_at h
  rw [bytF_succ hL (by omega), byB_app, ih]
  rcases okE_cases (hE x) with e | ⟨y, e, hy⟩
  ·rw [e]; rfl
  ·rw [e, List.flatMap_cons, List.flatMap_nil, List.append_nil, hC _ hy]; rfl
theorem sec_eq {n : Int} {a : Array Value} (W : OW) (h : secB n = false) : secF' W n a = W.cm 20 (1048575 - n) a := by funext i; unfold secF'; rw [h]; rfl
theorem secB_f {n : Int} : secB n = false ↔ 0 ≤ n ∧ n < 1048576 := by
 unfold secB
 cases c : iLt n 0
 ·simp only [iLt_f] at c; rw [cond_false, iLe_f]; omega
 ·simp only [iLt_t] at c; rw [cond_true]; simp; omega
theorem flp_eq (m : Nat → Int) : tabI (flpF (fnA (AV m))) 32 = flipL m 0 := by kernel_rfl
/-- An odd place's secret is the sum of its neighbour's, a bit changed. -/
theorem odd_sum {O : OO} {W : OW} (hw : W = wO O) {q : Int} (a : Array Value) (hq : q % 2 = 1) : AV (O.sum (flipL (W.cm 20 (q - 1) a) 0)) = AV (W.cm 20 q a) := by
 subst hw
 show AV (O.sum (flipL (stepS O (q - 1) 20 (fnA a) 20) 0)) = AV (stepS O q 20 (fnA a) 20)
 have e := step_comp O (p := q - 1) (q := q) (h := 1) (H := 20) (fnA a) (by decide) (by simp only [Int.reducePow]; omega) (by simp only [Int.reducePow]; omega)
 rw [← e]
 have b : bitP q 0 = true := by rw [bitP_eq]; simp only [Int.reducePow, decide_eq_true_eq]; omega
 show _ = AV (nextS O q (1 - 1 - 0) (stepS O (q - 1) 20 (fnA a) 20))
 unfold nextS
 rw [show 1 - 1 - 0 = 0 from rfl, b]; rfl
/-- A store of a seed's secrets. -/
def sdL (W : OW) (a : Array Value) : Nat → List (List (List Int))
 | 0 => nilL
 | j + 1 => stL W (j : Int) (sdL W a j) (j : Int) (AV (secF' W (j : Int) a))
theorem hg_isH {O : OO} (F : FO O) {W : OW} (hw : W = wO O) {m : Nat → Int} (hm : O.isH (AV m) = true) (h q : Int) : O.isH (AV (W.cm h q (AV m))) = true := by
 subst hw
 exact stepH F (show O.isH (AV (fnA (AV m))) = true by rw [fn_AV]; exact hm) _
theorem sdL_inv {O : OO} {W : OW} (hw : W = wO O) (a : Array Value) (j : Nat) (h : (j : Int) ≤ 1048576) : InvS W (j : Int) (sdL W a j) fun q => W.cm 20 q a := by
 induction j with
 | zero => exact inv_nil W _
 | succ j ih =>
  have hj : (j : Int) < 1048576 := by omega
  have I := ih (by omega)
  have := seed_next hw I hj
  have e : ((j + 1 : Nat) : Int) = (j : Int) + 1 := by omega
  rw [e]
  unfold sdL
  rw [sec_eq W (secB_f.2 (by omega))]
  exact this
theorem inv_ok {O : OO} {W : OW} {n : Int} {L : List (List (List Int))} {K : Int → Nat → Int} (I : InvS W n L K) (hK : ∀ q, O.isH (AV (K q)) = true) : okL O L = true := by
 unfold okL
 rw [I.len, Bool.and_eq_true]
 refine ⟨rfl, List.all_eq_true.2 fun e he => ?_⟩
 obtain ⟨i, hi, rfl⟩ := List.mem_iff_getElem.1 he
 have := I.ent i (by rw [I.len] at hi; exact hi)
 rw [List.getD_eq_getElem?_getD, List.getElem?_eq_getElem hi] at this
 simp only [Option.getD_some] at this
 rw [this]
 cases rdS n i
 ·rfl
 ·simp only [cond_true, okE, List.all_cons, List.all_nil, Bool.and_true, hK_cons, hK, List.length_cons, List.length_nil]; rfl
theorem step_none2 (O : OO) {p : Int} {h : Nat} {m : Nat → Int} : ∀ r, (∀ k, k < h → h ≤ k + r → bitP p k = false) → r ≤ h → stepS O p h m r = m
 | 0, _, _ => rfl
 | r + 1, e, hr => by
  have ih := step_none2 O (p := p) (m := m) r (fun k h1 h2 => e k h1 (by omega)) (by omega)
  show nextS O p (h - 1 - r) (stepS O p h m r) = m
  unfold nextS
  rw [ih, e (h - 1 - r) (by omega) (by omega)]; rfl
theorem flp_fn (m : Nat → Int) : flipL (fnA (AV m)) 0 = flipL m 0 := by kernel_rfl
theorem cm_one {O : OO} {W : OW} (hw : W = wO O) {p : Int} {h : Nat} (h0 : 0 < h) (hh : h ≤ 20) (m : Nat → Int) (hp : p % 2 ^ h = 0) : AV (W.cm (h : Int) (p + 1) (AV m)) = AV (O.sum (flipL m 0)) := by
 subst hw
 show AV (stepS O (p + 1) (h : Int).toNat (fnA (AV m)) (h : Int).toNat) = _
 have p2 : p % 2 = 0 := by
  have := Int.emod_emod_of_dvd p (pw_dvd (show 1 ≤ h from h0))
  rw [hp] at this
  simpa using this.symm
 have e1 := step_split O (p + 1) h (fnA (AV m)) (h - 1) 1
 rw [show h - 1 + 1 = h by omega, show h - (h - 1) = 1 by omega] at e1
 rw [Int.toNat_natCast, e1, step_none2 O (h - 1) (fun k h1 h2 => ?_) (by omega)]
 ·have b : bitP (p + 1) 0 = true := by rw [bitP_eq]; simp only [Int.reducePow, decide_eq_true_eq]; omega
  show AV (nextS O (p + 1) (1 - 1 - 0) (fnA (AV m))) = _
  unfold nextS
  rw [show 1 - 1 - 0 = 0 from rfl, b, cond_true, flp_fn]
 ·rw [bitP_eq, high (h := 1) (p := p + 1) (q := p) (by simp only [Int.reducePow]; omega) (by omega), low hp h1]; rfl
theorem once_last {O : OO} {W : OW} (hw : W = wO O) {n : Int} {L : List (List (List Int))} {s x : Nat → Int} (I : InvS W n L fun q => W.cm 20 q (AV s)) (hn : n < 1048576) (h2 : n % 2 = 1) (he : stE W n L n (AV x) = 0) :
  AV (O.sum (flipL x 0)) = AV (O.sum (flipL (W.cm 20 (1048575 - n) (AV s)) 0)) := by
 have hn2 : 0 ≤ n ∧ n < 1048576 := ⟨I.lo.1, hn⟩
 obtain ⟨h, e, h20, H⟩ := ht_of (p := 1048575 - n) (by omega) (by omega)
 have h0 : 0 < h := by
  apply Nat.pos_of_ne_zero
  rintro rfl
  rcases H with ⟨_, e⟩ | ⟨e, _⟩
  ·simp only [Int.reducePow, Nat.reduceAdd] at e; omega
  ·cases e
 have hc : chkAll W L (h : Int) (AV x) h = true := by
  rw [stE_0 hw I hn e h20] at he
  cases c : chkAll W L (h : Int) (AV x) h
  ·rw [c] at he; cases he
  ·rfl
 rw [chk_iff I _ _ h (by omega)] at hc
 obtain ⟨b1, b2, _, _⟩ := lst_below hn2 h20 H h0
 have k := hc 0 h0 b1
 rw [b2, show (1048575 - n + 2 ^ 0 : Int) = 1048575 - n + 1 from rfl, cm_one hw h0 h20 x (ht_mod H)] at k
 rw [k, ← odd_sum hw (AV s) (show (1048575 - n + 1) % 2 = 1 by omega), show 1048575 - n + 1 - 1 = 1048575 - n by omega]
theorem stE_or {O : OO} {W : OW} (hw : W = wO O) {n : Int} {L : List (List (List Int))} {K : Int → Nat → Int} (I : InvS W n L K) (hn : n < 1048576) (a : Array Value) : stE W n L n a = 0 ∨ stE W n L n a = 23 := by
 have := I.lo
 obtain ⟨h, e, h20, H⟩ := ht_of (p := 1048575 - n) (by omega) (by omega)
 rw [stE_0 hw I hn e h20]
 cases chkAll W L (h : Int) a h
 ·exact .inr rfl
 ·exact .inl rfl
/-- At an odd place nothing is asked. -/
theorem stE_odd {O : OO} {W : OW} (hw : W = wO O) {n : Int} {L : List (List (List Int))} {K : Int → Nat → Int} (I : InvS W n L K) (hn : n < 1048576) (h2 : n % 2 = 0) (a : Array Value) : stE W n L n a = 0 := by
 have := I.lo
 obtain ⟨h, e, h20, H⟩ := ht_of (p := 1048575 - n) (by omega) (by omega)
 have h0 : h = 0 := ht_uniq H (.inl ⟨by decide, by simp only [Int.reducePow, Nat.reduceAdd]; omega⟩)
 subst h0
 rw [stE_0 hw I hn e h20]; rfl
theorem sd_next {W : OW} {a : Array Value} {j : Int} (h : 0 ≤ j) : sdL W a (j + 1).toNat = stL W j (sdL W a j.toNat) j (AV (secF' W j a)) := by
 obtain ⟨i, rfl⟩ : ∃ i : Nat, j = i := ⟨j.toNat, by omega⟩
 rw [show ((i : Int) + 1).toNat = i + 1 by omega, Int.toNat_natCast]; rfl
theorem sd_inv {O : OO} {W : OW} (hw : W = wO O) (a : Array Value) {j : Int} (h0 : 0 ≤ j) (h1 : j ≤ 1048576) : InvS W j (sdL W a j.toNat) fun q => W.cm 20 q a := by
 have := sdL_inv hw a j.toNat (by omega)
 rwa [Int.toNat_of_nonneg h0] at this
set_option maxHeartbeats 4000000 in
theorem vc_pairs (O : OO) (R : OB) (W : OW) (n : Int) (s : Nat → Int) (F : FO O) (hC : ∀ m : Nat → Int, O.isH (AV m) = true → byB (tabI m 32) = true) (hr : R = bO) (hw : W = wO O) (h_n : -9223372036854775808 ≤ n ∧ n ≤ 9223372036854775807) (h_s : O.isH (AV s) = true) :
 If (iLt n 0) (Value.bool true = Value.bool true) (If (iLt 1048574 n) (Value.bool true = Value.bool true) (If (iBne (n.tmod 2) 0) (Value.bool true = Value.bool true) (If (iLe (iNeg
  9223372036854775808) n && O.isH (AV s)) (If (iLe (iNeg 9223372036854775808) (IntKind.i64.wrap (iAdd n 1)) && O.isH (AV s)) (If (!secB n) (If (!secB (IntKind.i64.wrap (iAdd n 1)))
  (If (O.isH (AV (secF' W (IntKind.i64.wrap (iAdd n 1)) (AV s)))) (Value.bool (eqv (AV (O.sum (tabI (flpF (fnA (AV (secF' W (IntKind.i64.wrap (iAdd n 1)) (AV s))))) 32)) ) (AV (secF'
  W n (AV s)))) = Value.bool true) False) (Value.bool false = Value.bool true)) (Value.bool false = Value.bool true)) False) False))) := by
 have hAs : O.isH (Array.mk (List.map (Value.int IntKind.u8) (tabI s 32))) = true := h_s
 refine Sx.if_both (fun _ => rfl) (fun c1 => Sx.if_both (fun _ => rfl) (fun c2 => Sx.if_both (fun _ => rfl) (fun c3 => ?_)))
 simp only [Bool.and_eq_true, Bool.or_eq_true, Sx.iLt_t, Sx.iLt_f, Sx.iLe_t, Sx.iLe_f, Sx.iEq_t, Sx.iEq_f, Sx.iBeq_t, Sx.iBeq_f, Sx.iBne_t, Sx.iBne_f, Nat.ble_eq, Nat.beq_eq, Sx.Cont.n] at c1 c2 c3
 have w : IntKind.i64.wrap (iAdd n 1) = n + 1 := by simp only [Sx.app, Sx.nAdd, Sx.nSub, Sx.nMul, Sx.nPow, Sx.nDiv, Sx.nMod, Sx.iAdd, Sx.iSub, Sx.iMul, Sx.iNeg, Sx.iPow, Sx.iOf]; rw [IntKind.wrap_i64]; omega
 have b1 : secB n = false := secB_f.2 (by omega)
 have b2 : secB (n + 1) = false := secB_f.2 (by omega)
 have i1 : O.isH (AV (W.cm 20 (1048575 - (n + 1)) (AV s))) = true := hg_isH F hw h_s _ _
 rw [w, b1, b2, sec_eq W b1, sec_eq W b2]
 simp only [h_s, i1, Bool.and_true]
 refine Sx.if_true (by simp only [iLe_t, iNeg]; omega) (Sx.if_true (by simp only [iLe_t, iNeg]; omega) (Sx.if_true rfl (Sx.if_true rfl (Sx.if_true rfl ?_))))
 rw [flp_eq, show 1048575 - (n + 1) = 1048575 - n - 1 by omega, odd_sum hw (AV s) (by have := Int.tmod_add_mul_tdiv n 2; omega), eqv_AV.2 rfl]
theorem wpc_pairs (O : OO) (R : OB) (W : OW) (n : Int) (s : Nat → Int) (F : FO O) (hC : ∀ m : Nat → Int, O.isH (AV m) = true → byB (tabI m 32) = true) (hr : R = bO) (hw : W = wO O) (h_n : -9223372036854775808 ≤ n ∧ n ≤ 9223372036854775807) (h_s : O.isH (AV s) = true) : wpcI Tryd.prog (spW5 O R W) Tryd.f7.ntmps [] (bodyOf Tryd.f7) 0 0 (argEnv [.agg (AV s), .int .i64 n] 0) [] (retK Tryd.prog Tryd.f7.results.toList (.bool true)) :=
 Eq.mpr (by kernel_rfl) (vc_pairs O R W n s F hC hr hw h_n h_s)
theorem walk_pairs (l_s : List Nat) (hl_s : l_s.length = 32) (hb_s : ∀ i, l_s.getD i 0 < 256) (n : Int) (hb_n : -9223372036854775808 ≤ n ∧ n ≤ 9223372036854775807) (w : World) (ha : AmbW IT w) : Calls Tryd.prog 7 #[B8 l_s, .int .i64 n] w fun e w' => e = .returned (.bool true) ∧ Kp w w' := by
 obtain ⟨s, e_s, i_s⟩ := bcs_AV l_s hl_s hb_s
 rw [show (B8 l_s : Value) = .agg (AV s) from congrArg Value.agg e_s]
 exact (calls_realI (I := IT) (spW5_ok oo rfl bO rfl (wO oo) rfl) (by kernel_rfl) [] (l := [.agg (AV s), .int .i64 n]) Tryd.func7 (by kernel_rfl) rfl Tryd.ntmps7 (by simp) (wpc_pairs oo bO (wO oo) (n : Int) s (fo_oo oo rfl) by_isH rfl rfl hb_n (isH_oo i_s)) w).mono fun _ _ ⟨he, hf⟩ => ⟨he, fr_below hf⟩
set_option maxHeartbeats 4000000 in
theorem vc_once (O : OO) (R : OB) (W : OW) (n : Int) (s x : Nat → Int) (F : FO O) (hC : ∀ m : Nat → Int, O.isH (AV m) = true → byB (tabI m 32) = true) (hr : R = bO) (hw : W = wO O) (h_n : -9223372036854775808 ≤ n ∧ n ≤ 9223372036854775807) (h_s : O.isH (AV s) = true) (h_x : O.isH (AV x) = true) :
 If (iLt n 0) (Value.bool true = Value.bool true) (If (iLt 200 n) (Value.bool true = Value.bool true) ((∃ (x_1 : Int), (iLe 0 x_1 && iLe x_1 n) = true ∧ (Value.int .i64 0 = Value.int
  .i64 x_1 ∧ Value.int .i64 n = Value.int .i64 n ∧ Value.agg (AV x) = Value.agg (AV x) ∧ Value.bool false = Value.bool false ∧ Value.bool true = Value.bool true ∧ True) ∧ Value.int
  .i64 0 = Value.int .i64 x_1 ∧ nilL = sdL W (AV s) x_1.toNat ∧ AV x = AV x ∧ AV s = AV s ∧ True) ∧ ∀ (x_1 : Int), (iLe 0 x_1 && iLe x_1 n) = true → If (iLt x_1 n) (If (iLe (iNeg
  9223372036854775808) x_1 && O.isH (AV s)) (If (iLe 0 x_1 && iLe x_1 1048576 && okL O (sdL W (AV s) x_1.toNat) && O.isH (AV (secF' W x_1 (AV s)))) (∃ (x' : Int), (iLe 0 x' && iLe x'
  n) = true ∧ (iSub n x').toNat.succ ≤ (iSub n x_1).toNat ∧ (Value.int .i64 (IntKind.i64.wrap (iAdd x_1 1)) = Value.int .i64 x' ∧ Value.int .i64 n = Value.int .i64 n ∧ Value.agg (AV
  x) = Value.agg (AV x) ∧ Value.bool false = Value.bool false ∧ Value.bool true = Value.bool true ∧ True) ∧ Value.int .i64 (stN W x_1 (sdL W (AV s) x_1.toNat) x_1 (AV (secF' W x_1 (AV
  s)))) = Value.int .i64 x' ∧ stL W x_1 (sdL W (AV s) x_1.toNat) x_1 (AV (secF' W x_1 (AV s))) = sdL W (AV s) x'.toNat ∧ AV x = AV x ∧ AV s = AV s ∧ True) False) False) (If (iLe (iNeg
  9223372036854775808) n && O.isH (AV s)) (If (iLe 0 x_1 && iLe x_1 1048576 && okL O (sdL W (AV s) x_1.toNat) && O.isH (AV x)) (If (iBeq (n.tmod 2) 0) (Value.bool (iBeq (stE W x_1
  (sdL W (AV s) x_1.toNat) n (AV x)) 0) = Value.bool true) (If (eqv (AV x) (AV (secF' W n (AV s)))) (Value.bool (iBeq (stE W x_1 (sdL W (AV s) x_1.toNat) n (AV x)) 0) = Value.bool
  true) (If (iBeq (stE W x_1 (sdL W (AV s) x_1.toNat) n (AV x)) 23) (Value.bool true = Value.bool true) (If (iBeq (stE W x_1 (sdL W (AV s) x_1.toNat) n (AV x)) 0) (If (O.isH (AV x))
  (If (O.isH (AV (secF' W n (AV s)))) (Value.bool (eqv (AV (O.sum (tabI (flpF (fnA (AV x))) 32)) ) (AV (O.sum (tabI (flpF (fnA (AV (secF' W n (AV s))))) 32)) )) = Value.bool true)
  False) False) (Value.bool false = Value.bool true))))) False) False))) := by
 have hAs : O.isH (Array.mk (List.map (Value.int IntKind.u8) (tabI s 32))) = true := h_s
 have hAx : O.isH (Array.mk (List.map (Value.int IntKind.u8) (tabI x 32))) = true := h_x
 refine Sx.if_both (fun _ => rfl) (fun c1 => Sx.if_both (fun _ => rfl) (fun c2 => ?_))
 simp only [Bool.and_eq_true, Bool.or_eq_true, Sx.iLt_t, Sx.iLt_f, Sx.iLe_t, Sx.iLe_f, Sx.iEq_t, Sx.iEq_f, Sx.iBeq_t, Sx.iBeq_f, Sx.iBne_t, Sx.iBne_f, Nat.ble_eq, Nat.beq_eq, Sx.Cont.n] at c1 c2
 have iK : ∀ q, O.isH (AV (W.cm 20 q (AV s))) = true := fun q => hg_isH F hw h_s _ _
 refine ⟨⟨0, by simp only [Bool.and_eq_true, Bool.or_eq_true, Sx.iLt_t, Sx.iLt_f, Sx.iLe_t, Sx.iLe_f, Sx.iEq_t, Sx.iEq_f, Sx.iBeq_t, Sx.iBeq_f, Sx.iBne_t, Sx.iBne_f, Nat.ble_eq, Nat.beq_eq, Sx.Cont.n]; omega, ⟨rfl, (by first | rfl | trivial), (by first | rfl | trivial), (by first | rfl | trivial), (by first | rfl | trivial), trivial⟩, (by first | rfl | trivial), rfl, (by first | rfl | trivial), (by first | rfl | trivial), trivial⟩, fun j hj => ?_⟩
 simp only [Bool.and_eq_true, Bool.or_eq_true, Sx.iLt_t, Sx.iLt_f, Sx.iLe_t, Sx.iLe_f, Sx.iEq_t, Sx.iEq_f, Sx.iBeq_t, Sx.iBeq_f, Sx.iBne_t, Sx.iBne_f, Nat.ble_eq, Nat.beq_eq, Sx.Cont.n] at hj
 have I := sd_inv hw (AV s) hj.1 (by omega)
 have okj : okL O (sdL W (AV s) j.toNat) = true := inv_ok I iK
 have e1 : secF' W j (AV s) = W.cm 20 (1048575 - j) (AV s) := sec_eq W (secB_f.2 (by omega))
 refine Sx.if_both (fun d => ?_) (fun d => ?_)
 ·skip
  simp only [Bool.and_eq_true, Bool.or_eq_true, Sx.iLt_t, Sx.iLt_f, Sx.iLe_t, Sx.iLe_f, Sx.iEq_t, Sx.iEq_f, Sx.iBeq_t, Sx.iBeq_f, Sx.iBne_t, Sx.iBne_f, Nat.ble_eq, Nat.beq_eq, Sx.Cont.n] at d
  have z := seed_add hw I (by omega)
  have w : IntKind.i64.wrap (iAdd j 1) = j + 1 := by simp only [Sx.app, Sx.nAdd, Sx.nSub, Sx.nMul, Sx.nPow, Sx.nDiv, Sx.nMod, Sx.iAdd, Sx.iSub, Sx.iMul, Sx.iNeg, Sx.iPow, Sx.iOf]; rw [IntKind.wrap_i64]; omega
  have zN : stN W j (sdL W (AV s) j.toNat) j (AV (W.cm 20 (1048575 - j) (AV s))) = j + 1 := by unfold stN; rw [z]; rfl
  have zL : stL W j (sdL W (AV s) j.toNat) j (AV (W.cm 20 (1048575 - j) (AV s))) = sdL W (AV s) (j + 1).toNat := by rw [sd_next hj.1, e1]
  rw [e1, w]
  simp only [okj, iK, h_s, Bool.and_true]
  refine Sx.if_true (by simp only [Bool.and_eq_true, Bool.or_eq_true, Sx.iLt_t, Sx.iLt_f, Sx.iLe_t, Sx.iLe_f, Sx.iEq_t, Sx.iEq_f, Sx.iBeq_t, Sx.iBeq_f, Sx.iBne_t, Sx.iBne_f, Nat.ble_eq, Nat.beq_eq, Sx.Cont.n, iNeg]; omega) (Sx.if_true (by simp only [Bool.and_eq_true, Bool.or_eq_true, Sx.iLt_t, Sx.iLt_f, Sx.iLe_t, Sx.iLe_f, Sx.iEq_t, Sx.iEq_f, Sx.iBeq_t, Sx.iBeq_f, Sx.iBne_t, Sx.iBne_f, Nat.ble_eq, Nat.beq_eq, Sx.Cont.n]; omega) ⟨j + 1, by simp only [Bool.and_eq_true, Bool.or_eq_true, Sx.iLt_t, Sx.iLt_f, Sx.iLe_t, Sx.iLe_f, Sx.iEq_t, Sx.iEq_f, Sx.iBeq_t, Sx.iBeq_f, Sx.iBne_t, Sx.iBne_f, Nat.ble_eq, Nat.beq_eq, Sx.Cont.n]; omega, by simp only [Sx.app, Sx.nAdd, Sx.nSub, Sx.nMul, Sx.nPow, Sx.nDiv, Sx.nMod, Sx.iAdd, Sx.iSub, Sx.iMul, Sx.iNeg, Sx.iPow, Sx.iOf]; omega, ⟨(by first | rfl | trivial), (by first | rfl | trivial), (by first | rfl | trivial), (by first | rfl | trivial), (by first | rfl | trivial), trivial⟩, by rw [zN], zL, (by first | rfl | trivial), (by first | rfl | trivial), trivial⟩)
 ·simp only [Bool.and_eq_true, Bool.or_eq_true, Sx.iLt_t, Sx.iLt_f, Sx.iLe_t, Sx.iLe_f, Sx.iEq_t, Sx.iEq_f, Sx.iBeq_t, Sx.iBeq_f, Sx.iBne_t, Sx.iBne_f, Nat.ble_eq, Nat.beq_eq, Sx.Cont.n] at d
  obtain rfl : j = n := by omega
  rw [e1]
  simp only [okj, iK, h_s, h_x, Bool.and_true]
  obtain ⟨E1, hE1⟩ : ∃ E, eqv (AV x) (AV (W.cm 20 (1048575 - j) (AV s))) = E := ⟨_, rfl⟩
  obtain ⟨E2, hE2⟩ : ∃ E, eqv (AV (O.sum (tabI (flpF (fnA (AV x))) 32))) (AV (O.sum (tabI (flpF (fnA (AV (W.cm 20 (1048575 - j) (AV s))))) 32))) = E := ⟨_, rfl⟩
  rw [hE1, hE2]
  refine Sx.if_true (by simp only [Bool.and_eq_true, Bool.or_eq_true, Sx.iLt_t, Sx.iLt_f, Sx.iLe_t, Sx.iLe_f, Sx.iEq_t, Sx.iEq_f, Sx.iBeq_t, Sx.iBeq_f, Sx.iBne_t, Sx.iBne_f, Nat.ble_eq, Nat.beq_eq, Sx.Cont.n, iNeg]; omega) (Sx.if_true (by simp only [Bool.and_eq_true, Bool.or_eq_true, Sx.iLt_t, Sx.iLt_f, Sx.iLe_t, Sx.iLe_f, Sx.iEq_t, Sx.iEq_f, Sx.iBeq_t, Sx.iBeq_f, Sx.iBne_t, Sx.iBne_f, Nat.ble_eq, Nat.beq_eq, Sx.Cont.n]; omega) (Sx.if_both (fun p => ?_) (fun p => Sx.if_both (fun q => ?_) (fun q => Sx.if_both (fun _ => (by first | rfl | trivial)) (fun r => Sx.if_both (fun t => Sx.if_true rfl (Sx.if_true rfl ?_)) (fun t => ?_))))))
  ·simp only [Bool.and_eq_true, Bool.or_eq_true, Sx.iLt_t, Sx.iLt_f, Sx.iLe_t, Sx.iLe_f, Sx.iEq_t, Sx.iEq_f, Sx.iBeq_t, Sx.iBeq_f, Sx.iBne_t, Sx.iBne_f, Nat.ble_eq, Nat.beq_eq, Sx.Cont.n] at p
   rw [stE_odd hw I (by omega) (by have := Int.tmod_add_mul_tdiv j 2; omega)]; rfl
  ·rw [q, eqv_AV] at hE1
   rw [hE1, seed_add hw I (by omega)]; rfl
  ·simp only [Bool.and_eq_true, Bool.or_eq_true, Sx.iLt_t, Sx.iLt_f, Sx.iLe_t, Sx.iLe_f, Sx.iEq_t, Sx.iEq_f, Sx.iBeq_t, Sx.iBeq_f, Sx.iBne_t, Sx.iBne_f, Nat.ble_eq, Nat.beq_eq, Sx.Cont.n] at t p
   have k := once_last hw I (by omega) (by rw [Int.tmod_eq_emod_of_nonneg hj.1] at p; omega) t
   rw [flp_eq, flp_eq, k, eqv_AV.2 rfl] at hE2
   rw [← hE2]
  ·simp only [Bool.and_eq_true, Bool.or_eq_true, Sx.iLt_t, Sx.iLt_f, Sx.iLe_t, Sx.iLe_f, Sx.iEq_t, Sx.iEq_f, Sx.iBeq_t, Sx.iBeq_f, Sx.iBne_t, Sx.iBne_f, Nat.ble_eq, Nat.beq_eq, Sx.Cont.n] at r t
   rcases stE_or hw I (show j < 1048576 by omega) (AV x) with e | e
   ·exact absurd e t
   ·exact absurd e r
theorem wpc_once (O : OO) (R : OB) (W : OW) (n : Int) (s x : Nat → Int) (F : FO O) (hC : ∀ m : Nat → Int, O.isH (AV m) = true → byB (tabI m 32) = true) (hr : R = bO) (hw : W = wO O) (h_n : -9223372036854775808 ≤ n ∧ n ≤ 9223372036854775807) (h_s : O.isH (AV s) = true) (h_x : O.isH (AV x) = true) : wpcI Tryd.prog (spW5 O R W) Tryd.f6.ntmps [⟨Int, [1, 2, 3, 5, 6, 7, 8], [(200008, 5, .structs KK (List.replicate 21 []))], fun B j => [(9, .v (.int .i64 j))], fun B j => [(704, .blk 54 (.v (.int .i64 j) :: selList B 21 0)), (B, .sels KK (sdL W (AV s) j.toNat))], fun j => (iLe 0 j && iLe j n) = true, fun j => (n - j).toNat, 0⟩] (bodyOf Tryd.f6) 0 0 (argEnv [.agg (AV s), .int .i64 n, .agg (AV x)] 0) [] (retK Tryd.prog Tryd.f6.results.toList (.bool true)) :=
 Eq.mpr (by kernel_rfl) (vc_once O R W n s x F hC hr hw h_n h_s h_x)
theorem walk_once (l_s : List Nat) (hl_s : l_s.length = 32) (hb_s : ∀ i, l_s.getD i 0 < 256) (n : Int) (hb_n : -9223372036854775808 ≤ n ∧ n ≤ 9223372036854775807) (l_x : List Nat) (hl_x : l_x.length = 32) (hb_x : ∀ i, l_x.getD i 0 < 256) (w : World) (ha : AmbW IT w) : Calls Tryd.prog 6 #[B8 l_s, .int .i64 n, B8 l_x] w fun e w' => e = .returned (.bool true) ∧ Kp w w' := by
 obtain ⟨s, e_s, i_s⟩ := bcs_AV l_s hl_s hb_s
 obtain ⟨x, e_x, i_x⟩ := bcs_AV l_x hl_x hb_x
 rw [show (B8 l_s : Value) = .agg (AV s) from congrArg Value.agg e_s]
 rw [show (B8 l_x : Value) = .agg (AV x) from congrArg Value.agg e_x]
 exact (calls_realI (I := IT) (spW5_ok oo rfl bO rfl (wO oo) rfl) (by kernel_rfl) _ (l := [.agg (AV s), .int .i64 n, .agg (AV x)]) Tryd.func6 (by kernel_rfl) rfl Tryd.ntmps6 (by simp) (wpc_once oo bO (wO oo) (n : Int) s x (fo_oo oo rfl) by_isH rfl rfl hb_n (isH_oo i_s) (isH_oo i_x)) w).mono fun _ _ ⟨he, hf⟩ => ⟨he, fr_below hf⟩
set_option maxHeartbeats 4000000 in
theorem vc_keeps (O : OO) (R : OB) (W : OW) (n k : Int) (s : Nat → Int) (F : FO O) (hC : ∀ m : Nat → Int, O.isH (AV m) = true → byB (tabI m 32) = true) (hr : R = bO) (hw : W = wO O) (h_n : -9223372036854775808 ≤ n ∧ n ≤ 9223372036854775807) (h_k : -9223372036854775808 ≤ k ∧ k ≤ 9223372036854775807) (h_s : O.isH (AV s) = true) :
 If (iLt n 0) (Value.bool true = Value.bool true) (If (iLt 200 n) (Value.bool true = Value.bool true) (If (iLt k 0) (Value.bool true = Value.bool true) (If (iLe n k) (Value.bool true
  = Value.bool true) ((∃ (x : Int), (iLe 0 x && iLe x n) = true ∧ (Value.int .i64 0 = Value.int .i64 x ∧ Value.int .i64 n = Value.int .i64 n ∧ Value.int .i64 k = Value.int .i64 k ∧
  Value.bool false = Value.bool false ∧ Value.bool true = Value.bool true ∧ True) ∧ Value.int .i64 0 = Value.int .i64 x ∧ nilL = sdL W (AV s) x.toNat ∧ AV s = AV s ∧ True) ∧ ∀ (x :
  Int), (iLe 0 x && iLe x n) = true → If (iLt x n) (If (iLe (iNeg 9223372036854775808) x && O.isH (AV s)) (If (!!secB x) (Value.bool false = Value.bool true) (If (iLe 0 x && iLe x
  1048576 && okL O (sdL W (AV s) x.toNat) && O.isH (AV (secF' W x (AV s)))) (If (iBne (stE W x (sdL W (AV s) x.toNat) x (AV (secF' W x (AV s)))) 0) (Value.bool false = Value.bool
  true) (∃ (x' : Int), (iLe 0 x' && iLe x' n) = true ∧ (iSub n x').toNat.succ ≤ (iSub n x).toNat ∧ (Value.int .i64 (IntKind.i64.wrap (iAdd x 1)) = Value.int .i64 x' ∧ Value.int .i64 n
  = Value.int .i64 n ∧ Value.int .i64 k = Value.int .i64 k ∧ Value.bool false = Value.bool false ∧ Value.bool true = Value.bool true ∧ True) ∧ Value.int .i64 (stN W x (sdL W (AV s)
  x.toNat) x (AV (secF' W x (AV s)))) = Value.int .i64 x' ∧ stL W x (sdL W (AV s) x.toNat) x (AV (secF' W x (AV s))) = sdL W (AV s) x'.toNat ∧ AV s = AV s ∧ True)) False)) False) (If
  (iLe (iNeg 9223372036854775808) k && O.isH (AV s)) (If (iLe 0 x && iLe x 1048576 && okL O (sdL W (AV s) x.toNat) && iLe (iNeg 9223372036854775808) k) (If (iLe 0 x && iLe x 1048576
  && okL O (sdL W (AV s) x.toNat)) (If ((app (R.row x) (bytF (sdL W (AV s) x.toNat) 21)).length.ble 1000000 && byB (app (R.row x) (bytF (sdL W (AV s) x.toNat) 21)) && iLe 0 (R.nV (app
  (R.row x) (bytF (sdL W (AV s) x.toNat) 21)))) (If (rdOk R W (app (R.row x) (bytF (sdL W (AV s) x.toNat) 21))) (If (!!secB k) (Value.bool false = Value.bool true) (If (!getB x k (sdL
  W (AV s) x.toNat)) (Value.bool false = Value.bool true) (If (!eqv (AV (secF' W k (AV s))) (AV (getF W x k (sdL W (AV s) x.toNat)))) (Value.bool false = Value.bool true) (If (okL O
  (sdL W (AV s) x.toNat)) (If (iLt 9 (iOf (stC (sdL W (AV s) x.toNat) 21))) (Value.bool false = Value.bool true) (If (iBne x n) (Value.bool false = Value.bool true) (If (iLe 0 (R.nV
  (app (R.row x) (bytF (sdL W (AV s) x.toNat) 21))) && iLe (R.nV (app (R.row x) (bytF (sdL W (AV s) x.toNat) 21))) 1048576 && okL O (rdLL R (app (R.row x) (bytF (sdL W (AV s) x.toNat)
  21))) && iLe (iNeg 9223372036854775808) k) (If (iLe (iNeg 9223372036854775808) n && O.isH (AV s)) (If (getB (R.nV (app (R.row x) (bytF (sdL W (AV s) x.toNat) 21))) k (rdLL R (app
  (R.row x) (bytF (sdL W (AV s) x.toNat) 21)))) (If (eqv (AV (getF W (R.nV (app (R.row x) (bytF (sdL W (AV s) x.toNat) 21))) k (rdLL R (app (R.row x) (bytF (sdL W (AV s) x.toNat)
  21)))) ) (AV (secF' W k (AV s)))) (If (!secB n) (If (iLe 0 (R.nV (app (R.row x) (bytF (sdL W (AV s) x.toNat) 21))) && iLe (R.nV (app (R.row x) (bytF (sdL W (AV s) x.toNat) 21)))
  1048576 && okL O (rdLL R (app (R.row x) (bytF (sdL W (AV s) x.toNat) 21))) && O.isH (AV (secF' W n (AV s)))) (If (iBeq (stE W (R.nV (app (R.row x) (bytF (sdL W (AV s) x.toNat) 21)))
  (rdLL R (app (R.row x) (bytF (sdL W (AV s) x.toNat) 21))) n (AV (secF' W n (AV s)))) 0) (If (iLe 0 x && iLe x 1048576 && okL O (sdL W (AV s) x.toNat) && O.isH (AV (secF' W n (AV
  s)))) (If (iBeq (stE W x (sdL W (AV s) x.toNat) n (AV (secF' W n (AV s)))) 0) (If (iLe 0 (stN W x (sdL W (AV s) x.toNat) n (AV (secF' W n (AV s)))) && iLe (stN W x (sdL W (AV s)
  x.toNat) n (AV (secF' W n (AV s)))) 1048576 && okL O (stL W x (sdL W (AV s) x.toNat) n (AV (secF' W n (AV s))))) (If (iLe 0 (stN W (R.nV (app (R.row x) (bytF (sdL W (AV s) x.toNat)
  21))) (rdLL R (app (R.row x) (bytF (sdL W (AV s) x.toNat) 21))) n (AV (secF' W n (AV s)))) && iLe (stN W (R.nV (app (R.row x) (bytF (sdL W (AV s) x.toNat) 21))) (rdLL R (app (R.row
  x) (bytF (sdL W (AV s) x.toNat) 21))) n (AV (secF' W n (AV s)))) 1048576 && okL O (stL W (R.nV (app (R.row x) (bytF (sdL W (AV s) x.toNat) 21))) (rdLL R (app (R.row x) (bytF (sdL W
  (AV s) x.toNat) 21))) n (AV (secF' W n (AV s))))) (Value.bool ((strOfNums (app (R.row (stN W x (sdL W (AV s) x.toNat) n (AV (secF' W n (AV s))))) (bytF (stL W x (sdL W (AV s)
  x.toNat) n (AV (secF' W n (AV s)))) 21))).toList == (strOfNums (app (R.row (stN W (R.nV (app (R.row x) (bytF (sdL W (AV s) x.toNat) 21))) (rdLL R (app (R.row x) (bytF (sdL W (AV s)
  x.toNat) 21))) n (AV (secF' W n (AV s))))) (bytF (stL W (R.nV (app (R.row x) (bytF (sdL W (AV s) x.toNat) 21))) (rdLL R (app (R.row x) (bytF (sdL W (AV s) x.toNat) 21))) n (AV
  (secF' W n (AV s)))) 21))).toList) = Value.bool true) False) False) (Value.bool false = Value.bool true)) False) (Value.bool false = Value.bool true)) False) (Value.bool false =
  Value.bool true)) (Value.bool false = Value.bool true)) (Value.bool false = Value.bool true)) False) False))) False)))) (If (!!secB k) (Value.bool false = Value.bool true) (If
  (!getB x k (sdL W (AV s) x.toNat)) (Value.bool false = Value.bool true) (If (!eqv (AV (secF' W k (AV s))) (AV (getF W x k (sdL W (AV s) x.toNat)))) (Value.bool false = Value.bool
  true) (Value.bool false = Value.bool true))))) False) False) False) False))))) := by
 have hAs : O.isH (Array.mk (List.map (Value.int IntKind.u8) (tabI s 32))) = true := h_s
 refine Sx.if_both (fun _ => rfl) (fun c1 => Sx.if_both (fun _ => rfl) (fun c2 => Sx.if_both (fun _ => rfl) (fun c3 => Sx.if_both (fun _ => rfl) (fun c4 => ?_))))
 simp only [Bool.and_eq_true, Bool.or_eq_true, Sx.iLt_t, Sx.iLt_f, Sx.iLe_t, Sx.iLe_f, Sx.iEq_t, Sx.iEq_f, Sx.iBeq_t, Sx.iBeq_f, Sx.iBne_t, Sx.iBne_f, Nat.ble_eq, Nat.beq_eq, Sx.Cont.n] at c1 c2 c3 c4
 have iK : ∀ q, O.isH (AV (W.cm 20 q (AV s))) = true := fun q => hg_isH F hw h_s _ _
 refine ⟨⟨0, by simp only [Bool.and_eq_true, Bool.or_eq_true, Sx.iLt_t, Sx.iLt_f, Sx.iLe_t, Sx.iLe_f, Sx.iEq_t, Sx.iEq_f, Sx.iBeq_t, Sx.iBeq_f, Sx.iBne_t, Sx.iBne_f, Nat.ble_eq, Nat.beq_eq, Sx.Cont.n]; omega, ⟨rfl, (by first | rfl | trivial), (by first | rfl | trivial), (by first | rfl | trivial), (by first | rfl | trivial), trivial⟩, (by first | rfl | trivial), rfl, (by first | rfl | trivial), trivial⟩, fun j hj => ?_⟩
 simp only [Bool.and_eq_true, Bool.or_eq_true, Sx.iLt_t, Sx.iLt_f, Sx.iLe_t, Sx.iLe_f, Sx.iEq_t, Sx.iEq_f, Sx.iBeq_t, Sx.iBeq_f, Sx.iBne_t, Sx.iBne_f, Nat.ble_eq, Nat.beq_eq, Sx.Cont.n] at hj
 have I := sd_inv hw (AV s) hj.1 (by omega)
 have okj : okL O (sdL W (AV s) j.toNat) = true := inv_ok I iK
 have bj : secB j = false := secB_f.2 (by omega)
 have e1 : secF' W j (AV s) = W.cm 20 (1048575 - j) (AV s) := sec_eq W bj
 refine Sx.if_both (fun d => ?_) (fun d => ?_)
 ·skip
  simp only [Bool.and_eq_true, Bool.or_eq_true, Sx.iLt_t, Sx.iLt_f, Sx.iLe_t, Sx.iLe_f, Sx.iEq_t, Sx.iEq_f, Sx.iBeq_t, Sx.iBeq_f, Sx.iBne_t, Sx.iBne_f, Nat.ble_eq, Nat.beq_eq, Sx.Cont.n] at d
  have z := seed_add hw I (by omega)
  have w : IntKind.i64.wrap (iAdd j 1) = j + 1 := by simp only [Sx.app, Sx.nAdd, Sx.nSub, Sx.nMul, Sx.nPow, Sx.nDiv, Sx.nMod, Sx.iAdd, Sx.iSub, Sx.iMul, Sx.iNeg, Sx.iPow, Sx.iOf]; rw [IntKind.wrap_i64]; omega
  have zN : stN W j (sdL W (AV s) j.toNat) j (AV (W.cm 20 (1048575 - j) (AV s))) = j + 1 := by unfold stN; rw [z]; rfl
  have zL : stL W j (sdL W (AV s) j.toNat) j (AV (W.cm 20 (1048575 - j) (AV s))) = sdL W (AV s) (j + 1).toNat := by rw [sd_next hj.1, e1]
  rw [e1, w]
  simp only [okj, iK, h_s, Bool.and_true]
  rw [bj, z]
  refine Sx.if_true (by simp only [Bool.and_eq_true, Bool.or_eq_true, Sx.iLt_t, Sx.iLt_f, Sx.iLe_t, Sx.iLe_f, Sx.iEq_t, Sx.iEq_f, Sx.iBeq_t, Sx.iBeq_f, Sx.iBne_t, Sx.iBne_f, Nat.ble_eq, Nat.beq_eq, Sx.Cont.n, iNeg]; omega) (Sx.if_false rfl (Sx.if_true (by simp only [Bool.and_eq_true, Bool.or_eq_true, Sx.iLt_t, Sx.iLt_f, Sx.iLe_t, Sx.iLe_f, Sx.iEq_t, Sx.iEq_f, Sx.iBeq_t, Sx.iBeq_f, Sx.iBne_t, Sx.iBne_f, Nat.ble_eq, Nat.beq_eq, Sx.Cont.n]; omega) (Sx.if_false rfl ⟨j + 1, by simp only [Bool.and_eq_true, Bool.or_eq_true, Sx.iLt_t, Sx.iLt_f, Sx.iLe_t, Sx.iLe_f, Sx.iEq_t, Sx.iEq_f, Sx.iBeq_t, Sx.iBeq_f, Sx.iBne_t, Sx.iBne_f, Nat.ble_eq, Nat.beq_eq, Sx.Cont.n]; omega, by simp only [Sx.app, Sx.nAdd, Sx.nSub, Sx.nMul, Sx.nPow, Sx.nDiv, Sx.nMod, Sx.iAdd, Sx.iSub, Sx.iMul, Sx.iNeg, Sx.iPow, Sx.iOf]; omega, ⟨(by first | rfl | trivial), (by first | rfl | trivial), (by first | rfl | trivial), (by first | rfl | trivial), (by first | rfl | trivial), trivial⟩, by rw [zN], zL, (by first | rfl | trivial), trivial⟩)))
 ·simp only [Bool.and_eq_true, Bool.or_eq_true, Sx.iLt_t, Sx.iLt_f, Sx.iLe_t, Sx.iLe_f, Sx.iEq_t, Sx.iEq_f, Sx.iBeq_t, Sx.iBeq_f, Sx.iBne_t, Sx.iBne_f, Nat.ble_eq, Nat.beq_eq, Sx.Cont.n] at d
  obtain rfl : j = n := by omega
  have bk : secB k = false := secB_f.2 (by omega)
  have e2 : secF' W k (AV s) = W.cm 20 (1048575 - k) (AV s) := sec_eq W bk
  obtain ⟨g1, g2⟩ := inv_get I (no := k) (by omega) (by omega)
  obtain ⟨r1, r2, r3⟩ := read_back I hr
  have z := seed_add hw I (by omega)
  have I2 := seed_next hw I (by omega)
  have zN : stN W j (sdL W (AV s) j.toNat) j (AV (W.cm 20 (1048575 - j) (AV s))) = j + 1 := by unfold stN; rw [z]; rfl
  have ok2 := inv_ok I2 iK
  have hle : (stC (sdL W (AV s) j.toNat) 21) ≤ 8 := stC_few I (by omega)
  obtain ⟨hL, hE⟩ := okL_at okj
  have hl : (app (R.row j) (bytF (sdL W (AV s) j.toNat) 21)).length.ble 1000000 = true := by
   have l1 := row_len hr j
   have l2 := bytF_len hL hE 21 (by omega)
   rw [Nat.ble_eq]; simp only [Sx.app, Sx.nAdd, Sx.nSub, Sx.nMul, Sx.nPow, Sx.nDiv, Sx.nMod, Sx.iAdd, Sx.iSub, Sx.iMul, Sx.iNeg, Sx.iPow, Sx.iOf, List.length_append]; omega
  have hb : byB (app (R.row j) (bytF (sdL W (AV s) j.toNat) 21)) = true := by
   rw [Sx.app, byB_app, byB_row hr hj.1, bytF_byB hC okj 21 (by omega)]; rfl
  replace r1 : R.nV (app (R.row j) (bytF (sdL W (AV s) j.toNat) 21)) = j := r1
  replace r2 : rdOk R W (app (R.row j) (bytF (sdL W (AV s) j.toNat) 21)) = true := r2
  replace r3 : rdLL R (app (R.row j) (bytF (sdL W (AV s) j.toNat) 21)) = sdL W (AV s) j.toNat := r3
  rw [e1, e2]
  have hE : eqv (AV (W.cm 20 (1048575 - k) (AV s))) (AV (W.cm 20 (1048575 - k) (AV s))) = true := eqv_AV.2 rfl
  have a1 : iLe (iNeg 9223372036854775808) k = true := by simp only [Bool.and_eq_true, Bool.or_eq_true, Sx.iLt_t, Sx.iLt_f, Sx.iLe_t, Sx.iLe_f, Sx.iEq_t, Sx.iEq_f, Sx.iBeq_t, Sx.iBeq_f, Sx.iBne_t, Sx.iBne_f, Nat.ble_eq, Nat.beq_eq, Sx.Cont.n, iNeg]; omega
  have a2 : iLe 0 j = true := by simp only [Bool.and_eq_true, Bool.or_eq_true, Sx.iLt_t, Sx.iLt_f, Sx.iLe_t, Sx.iLe_f, Sx.iEq_t, Sx.iEq_f, Sx.iBeq_t, Sx.iBeq_f, Sx.iBne_t, Sx.iBne_f, Nat.ble_eq, Nat.beq_eq, Sx.Cont.n]; omega
  have a3 : iLe j 1048576 = true := by simp only [Bool.and_eq_true, Bool.or_eq_true, Sx.iLt_t, Sx.iLt_f, Sx.iLe_t, Sx.iLe_f, Sx.iEq_t, Sx.iEq_f, Sx.iBeq_t, Sx.iBeq_f, Sx.iBne_t, Sx.iBne_f, Nat.ble_eq, Nat.beq_eq, Sx.Cont.n]; omega
  have a4 : iLe (iNeg 9223372036854775808) j = true := by simp only [Bool.and_eq_true, Bool.or_eq_true, Sx.iLt_t, Sx.iLt_f, Sx.iLe_t, Sx.iLe_f, Sx.iEq_t, Sx.iEq_f, Sx.iBeq_t, Sx.iBeq_f, Sx.iBne_t, Sx.iBne_f, Nat.ble_eq, Nat.beq_eq, Sx.Cont.n, iNeg]; omega
  have a5 : iLe 0 (j + 1) = true := by simp only [Bool.and_eq_true, Bool.or_eq_true, Sx.iLt_t, Sx.iLt_f, Sx.iLe_t, Sx.iLe_f, Sx.iEq_t, Sx.iEq_f, Sx.iBeq_t, Sx.iBeq_f, Sx.iBne_t, Sx.iBne_f, Nat.ble_eq, Nat.beq_eq, Sx.Cont.n]; omega
  have a6 : iLe (j + 1) 1048576 = true := by simp only [Bool.and_eq_true, Bool.or_eq_true, Sx.iLt_t, Sx.iLt_f, Sx.iLe_t, Sx.iLe_f, Sx.iEq_t, Sx.iEq_f, Sx.iBeq_t, Sx.iBeq_f, Sx.iBne_t, Sx.iBne_f, Nat.ble_eq, Nat.beq_eq, Sx.Cont.n]; omega
  have a7 : iLt 9 (iOf (stC (sdL W (AV s) j.toNat) 21)) = false := by simp only [Bool.and_eq_true, Bool.or_eq_true, Sx.iLt_t, Sx.iLt_f, Sx.iLe_t, Sx.iLe_f, Sx.iEq_t, Sx.iEq_f, Sx.iBeq_t, Sx.iBeq_f, Sx.iBne_t, Sx.iBne_f, Nat.ble_eq, Nat.beq_eq, Sx.Cont.n, Sx.app, Sx.nAdd, Sx.nSub, Sx.nMul, Sx.nPow, Sx.nDiv, Sx.nMod, Sx.iAdd, Sx.iSub, Sx.iMul, Sx.iNeg, Sx.iPow, Sx.iOf]; omega
  have a8 : iBne j j = false := by simp only [Bool.and_eq_true, Bool.or_eq_true, Sx.iLt_t, Sx.iLt_f, Sx.iLe_t, Sx.iLe_f, Sx.iEq_t, Sx.iEq_f, Sx.iBeq_t, Sx.iBeq_f, Sx.iBne_t, Sx.iBne_f, Nat.ble_eq, Nat.beq_eq, Sx.Cont.n]
  have a9 : iBeq 0 0 = true := by decide
  simp only [hE, a1, a2, a3, a4, a5, a6, a7, a8, a9, hl, hb, r1, r2, r3, okj, ok2, iK, h_s, bj, bk, g1, g2, z, zN, Bool.and_true, Bool.true_and, Bool.not_true, Bool.not_false, Bool.not_not, Sx.If_t, Sx.If_f, beq_self_eq_true]
theorem wpc_keeps (O : OO) (R : OB) (W : OW) (n k : Int) (s : Nat → Int) (F : FO O) (hC : ∀ m : Nat → Int, O.isH (AV m) = true → byB (tabI m 32) = true) (hr : R = bO) (hw : W = wO O) (h_n : -9223372036854775808 ≤ n ∧ n ≤ 9223372036854775807) (h_k : -9223372036854775808 ≤ k ∧ k ≤ 9223372036854775807) (h_s : O.isH (AV s) = true) : wpcI Tryd.prog (spW5 O R W) Tryd.f4.ntmps [⟨Int, [1, 2, 3, 5, 6, 7, 8], [(200008, 5, .structs KK (List.replicate 21 []))], fun B j => [(9, .v (.int .i64 j))], fun B j => [(1216, .blk 54 (.v (.int .i64 j) :: selList B 21 0)), (B, .sels KK (sdL W (AV s) j.toNat))], fun j => (iLe 0 j && iLe j n) = true, fun j => (n - j).toNat, 0⟩] (bodyOf Tryd.f4) 0 0 (argEnv [.agg (AV s), .int .i64 n, .int .i64 k] 0) [] (retK Tryd.prog Tryd.f4.results.toList (.bool true)) :=
 Eq.mpr (by kernel_rfl) (vc_keeps O R W n k s F hC hr hw h_n h_k h_s)
theorem walk_keeps (l_s : List Nat) (hl_s : l_s.length = 32) (hb_s : ∀ i, l_s.getD i 0 < 256) (n : Int) (hb_n : -9223372036854775808 ≤ n ∧ n ≤ 9223372036854775807) (k : Int) (hb_k : -9223372036854775808 ≤ k ∧ k ≤ 9223372036854775807) (w : World) (ha : AmbW IT w) : Calls Tryd.prog 4 #[B8 l_s, .int .i64 n, .int .i64 k] w fun e w' => e = .returned (.bool true) ∧ Kp w w' := by
 obtain ⟨s, e_s, i_s⟩ := bcs_AV l_s hl_s hb_s
 rw [show (B8 l_s : Value) = .agg (AV s) from congrArg Value.agg e_s]
 exact (calls_realI (I := IT) (spW5_ok oo rfl bO rfl (wO oo) rfl) (by kernel_rfl) _ (l := [.agg (AV s), .int .i64 n, .int .i64 k]) Tryd.func4 (by kernel_rfl) rfl Tryd.ntmps4 (by simp) (wpc_keeps oo bO (wO oo) (n : Int) (k : Int) s (fo_oo oo rfl) by_isH rfl rfl hb_n hb_k (isH_oo i_s)) w).mono fun _ _ ⟨he, hf⟩ => ⟨he, fr_below hf⟩
end Go.Proofs.YtebffdgghkomjaaDoor
