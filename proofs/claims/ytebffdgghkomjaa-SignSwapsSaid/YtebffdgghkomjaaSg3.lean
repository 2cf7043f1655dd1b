/- The laws of signatures: the walks, by the symbolic machine (printed by gensg3.py; VCs by VcTool). -/
import Derived.Test.YtebffdgghkomjaaSg2
namespace Go.Proofs.Ytebffdgghkomjaa
open Go.RowKit Go.Lib Ckp Cfd Cpd Sx
set_option linter.unusedVariables false
set_option linter.unusedSimpArgs false
set_option maxRecDepth 1000000
def I0 : Sx.Interp := ⟨fun _ _ _ _ _ => False, fun _ _ _ _ _ _ _ h => h⟩
def g_small07 (l : List Value) : Option (Bool × Value) := match l with
  | [] => some (true, .bool true)
  | _ => none
theorem small07_calls (w : World) : Calls Try.prog 8 (List.toArray []) w fun e w' => e = .returned (.bool true) ∧ Fr (fun _ => False) w w' :=
  calls_real (I := I0) (spZ4_ok I0 oo rfl (zO oo) rfl) (by kernel_rfl) [] Try.func8 (by kernel_rfl) rfl Try.ntmps8 (by decide) (Eq.mpr (by kernel_rfl : _ = (Value.bool true = Value.bool true)) rfl) w
theorem ok_small07 (I : Sx.Interp) : Sx.SpecOK I Try.prog 8 (Sx.vspec g_small07) := by
  refine Sx.spec_of_calls Try.func8 (by kernel_rfl) (by kernel_rfl) ?_
  intro l v hg w
  unfold g_small07 at hg
  split at hg
  · simp only [Option.some.injEq, Prod.mk.injEq, true_and] at hg
    subst hg
    exact small07_calls w
  · cases hg
def spZ5 (O : OO) (Z : OZ) (f : FuncId) : Option Sx.Spec := match f with
  | 8 => some (Sx.vspec g_small07)
  | f => spZ4 O Z f
theorem spZ5_ok (I : Sx.Interp) (O : OO) (hO : O = oo) (Z : OZ) (hZ : Z = zO O) : ∀ f s, spZ5 O Z f = some s → Sx.SpecOK I Try.prog f s := by
  intro f s h
  unfold spZ5 at h
  split at h
  · cases h; exact ok_small07 I
  · exact spZ4_ok I O hO Z hZ _ s h
theorem calls_realI {I : Interp} {P : Program} {sp : FuncId → Option Sx.Spec} (hsp : ∀ f s, sp f = some s → Sx.SpecOK I P f s) (hm : P.follows .mixedOrders = true) (an : List Ann) {f : FuncId} {fn : Func} {c : Code} {N : Nat}
    (hf : P.funcs[f]? = some fn) (hb' : fn.body.isSome = true) (hc : bodyOf fn = c) (hN : fn.ntmps = N) {l : List Value} {v : Value} (hl : l.length ≤ N)
    (h : wpcI P sp N an c 0 0 (argEnv l 0) [] (retK P fn.results.toList v)) (w : World) : Calls P f l.toArray w fun e w' => e = .returned v ∧ Fr (fun _ => False) w w' :=
  calls_real hsp hm an hf hb' hc hN hl (wpcI_of h) w
theorem isH_oo {a : Array Value} (h : isHa a = true) : oo.isH a = true := by
  have e : oo.isH a = isHa a := by kernel_rfl
  rw [e]; exact h
theorem bcs_AV (l : List Nat) (h1 : l.length = 32) (h2 : ∀ i, l.getD i 0 < 256) : ∃ m : Nat → Int, bcs l = AV m ∧ isHa (AV m) = true := by
  have e : bcs l = ⟨(l.map fun n : Nat => (n : Int)).map (Value.int .u8)⟩ := by unfold bcs; apply Array.ext'; simp
  have hh : isHa (bcs l) = true := by
    rw [e]
    refine isHa_AV (by simpa using h1) fun x hx => ?_
    obtain ⟨n, hn, rfl⟩ := List.mem_map.1 hx
    obtain ⟨i, hi, rfl⟩ := List.mem_iff_getElem.1 hn
    have := h2 i
    rw [List.getD_eq_getElem?_getD, List.getElem?_eq_getElem hi] at this
    simp only [Option.getD_some] at this
    omega
  obtain ⟨m, hm⟩ := isH_AV hh
  exact ⟨m, hm, hm ▸ hh⟩

/-- What the laws ask of the functions. -/
structure FZ (O : OO) (Z : OZ) : Prop where
  fr : ∀ k, inU k 18446744073709551616 = true → O.fright k = !(iLe 2305843009213688669 k)
  key : ∀ k, inU k 18446744073709551616 = true → Z.key k = (!(iBeq k 0) && !(iLe 2305843009213688669 k))
  sR : ∀ n t, inU (Z.aR n t) 18446744073709551616 = true
  sS : ∀ k n m t, inU (Z.aS k n m t) 18446744073709551616 = true
  sF : ∀ k n m t, O.fright (Z.aS k n m t) = true
  aF : ∀ a b, O.fright (O.fadd a b) = true
  bF : ∀ a b, O.fright (O.fsub a b) = true
  hold : ∀ k n m t, inU k 18446744073709551616 = true → Z.key k = true → O.pright t = true → Z.chk (O.pbase k) m t (Z.aR n t) (Z.aS k n m t) = true
  shift : ∀ p m t R S, O.fright S = true → Z.chk p m (O.pbase t) R S = Z.chk p m 1 R (O.fadd S t)
  uniq : ∀ p m R S x, inU S 18446744073709551616 = true → inU x 18446744073709551616 = true → Z.chk p m 1 R S = true → O.fright x = true → Z.chk p m 1 R x = iBeq x S
  chkF : ∀ p m t R S, O.fright S = false → Z.chk p m t R S = false
  chk0 : ∀ p m t S, Z.chk p m t 0 S = false
  chkS : ∀ p m t R S, Z.chk p m t R S = true → O.fright S = true
  addsub : ∀ S t, inU S 18446744073709551616 = true → O.fright S = true → O.fadd (O.fsub S t) t = S
  subadd : ∀ S t, inU t 18446744073709551616 = true → O.fright t = true → O.fsub (O.fadd S t) S = t
  inj : ∀ S a b, inU a 18446744073709551616 = true → inU b 18446744073709551616 = true → O.fright a = true → O.fright b = true → iBeq (O.fadd S a) (O.fadd S b) = iBeq a b
  add0 : ∀ S t, inU S 18446744073709551616 = true → O.fright S = true → inU t 18446744073709551616 = true → O.fright t = true → iBeq S (O.fadd S t) = iBeq t 0
  pb : ∀ t, O.pright (O.pbase t) = true
  p1 : O.pright 1 = true
theorem inU_0 : inU 0 18446744073709551616 = true := by decide
theorem ne_fr {O : OO} {a b : Int} (ha : O.fright a = false) (hb : O.fright b = true) : iBeq a b = false := by
  cases h : iBeq a b with
  | false => rfl
  | true => rw [iBeq_t] at h; rw [h, hb] at ha; cases ha
theorem beq_b (a : Bool) : (a == a) = true := by cases a <;> rfl
theorem iBeq_self (a : Int) : iBeq a a = true := by simp [iBeq]
theorem iBne_self (a : Int) : iBne a a = false := by simp [iBne]
theorem eqv2 (a b c d : Int) : eqv (Array.mk [Value.int .u64 a, Value.int .u64 b]) (Array.mk [Value.int .u64 c, Value.int .u64 d]) = (iBeq a c && iBeq b d) := by
  have e : eqv (Array.mk [Value.int .u64 a, Value.int .u64 b]) (Array.mk [Value.int .u64 c, Value.int .u64 d]) = (decide (a = c) && (decide (b = d) && true)) := by rfl
  rw [e, Bool.and_true, Bool.eq_iff_iff]; simp [iBeq]

section
theorem o_fadd (a b : Int) : oo.fadd a b = ((fadd a.toNat b.toNat : Nat) : Int) := by kernel_rfl
theorem o_fsub (a b : Int) : oo.fsub a b = ((fsub a.toNat b.toNat : Nat) : Int) := by kernel_rfl
theorem o_fmul (a b : Int) : oo.fmul a b = ((fmul a.toNat b.toNat : Nat) : Int) := by kernel_rfl
theorem o_fright (a : Int) : oo.fright a = fright a.toNat := by kernel_rfl
theorem o_pright (a : Int) : oo.pright a = pright a.toNat := by kernel_rfl
theorem o_pbase (a : Int) : oo.pbase a = ((pbase a.toNat : Nat) : Int) := by kernel_rfl
theorem o_padd (a b : Int) : oo.padd a b = ((padd a.toNat b.toNat : Nat) : Int) := by kernel_rfl
theorem o_pscale (a b : Int) : oo.pscale a b = ((pscale a.toNat b.toNat : Nat) : Int) := by kernel_rfl
theorem o_pneg (a : Int) : oo.pneg a = ((pneg a.toNat : Nat) : Int) := by kernel_rfl
theorem o_pall (l : List Int) : oo.pall l = ((pall (l.map Int.toNat) : Nat) : Int) := by
  have e : oo.pall l = pallI l := by kernel_rfl
  rw [e, pallI_nat]
theorem z_chk (p : Int) (a : Array Value) (t R S : Int) : (zO oo).chk p a t R S = chkO oo p a t R S := by kernel_rfl
theorem z_aR (n t : Int) : (zO oo).aR n t = oo.padd (oo.pbase n) t := by kernel_rfl
theorem z_aS (k n : Int) (a : Array Value) (t : Int) : (zO oo).aS k n a t = oo.fadd n (oo.fmul (chalO oo (oo.padd (oo.pbase n) t) (oo.pbase k) a) k) := by kernel_rfl
theorem z_key (k : Int) : (zO oo).key k = (oo.fright k && iBne k 0) := by kernel_rfl
theorem fr_iff (x : Int) : oo.fright x = true ↔ x.toNat < 2305843009213688669 := by rw [o_fright]; unfold fright; simp
theorem chk_iff (p : Int) (a : Array Value) (t R S : Int) : (zO oo).chk p a t R S = true ↔ p ≠ 1 ∧ pright p.toNat = true ∧ pright t.toNat = true ∧ pright R.toNat = true ∧ S.toNat < 2305843009213688669 ∧ pbase S.toNat = padd (padd R.toNat (pscale p.toNat (chalO oo R p a).toNat)) (pneg t.toNat) := by
  rw [z_chk]
  unfold chkO
  generalize chalO oo R p a = e
  simp only [o_fright, o_pright, o_pbase, o_pall, o_pscale, o_pneg, List.map_cons, List.map_nil, Int.toNat_natCast, pall3]
  have h1 : (iBeq ((pbase S.toNat : Nat) : Int) ((padd (padd R.toNat (pscale p.toNat e.toNat)) (pneg t.toNat) : Nat) : Int) = true) ↔ pbase S.toNat = padd (padd R.toNat (pscale p.toNat e.toNat)) (pneg t.toNat) := by rw [iBeq_t, Int.natCast_inj]
  have h2 : (iBeq p 1 = false) ↔ p ≠ 1 := by rw [iBeq_f]
  have h3 : (fright S.toNat = true) ↔ S.toNat < 2305843009213688669 := by unfold fright; simp
  rw [← h1, ← h2, ← h3]
  cases iBeq p 1 <;> cases pright p.toNat <;> cases pright t.toNat <;> cases pright R.toNat <;> cases fright S.toNat <;> simp
theorem base_ne {k : Nat} (h0 : k ≠ 0) (h1 : k < 2305843009213688669) : pbase k ≠ 1 := fun h => h0 (base_one h h1)
theorem neg1 {r : Nat} (h : pright r = true) : padd r (pneg 1) = r := by
  have := (group_eq h right_one h).1 (by rw [add_one, taken_of h])
  exact this.symm
theorem fz_oo : FZ oo (zO oo) := by
  refine ⟨fun k hk => ?_, fun k hk => ?_, fun n t => ?_, fun k n m t => ?_, fun k n m t => ?_, fun a b => ?_, fun a b => ?_, fun k n m t hu hk ht => ?_, fun p m t R S hS => ?_, fun p m R S x hS hx h hfx => ?_, fun p m t R S hS => ?_, fun p m t S => ?_, fun p m t R S h => ?_, fun S t hS hf => ?_, fun S t ht hf => ?_, fun S a b ha hb fa fb => ?_, fun S t hS hf ht hft => ?_, fun t => ?_, ?_⟩
  · rw [inU_t] at hk
    rw [Bool.eq_iff_iff, fr_iff, Bool.not_eq_true', iLe_f]; omega
  · rw [inU_t] at hk
    rw [z_key, Bool.eq_iff_iff]
    simp only [Bool.and_eq_true, fr_iff, Bool.not_eq_true', iLe_f, iBne_t, iBeq_f]; omega
  · rw [z_aR, o_padd]; exact inU_cast (by have := padd_lt (oo.pbase n).toNat t.toNat; omega)
  · rw [z_aS, o_fadd]; exact inU_cast (by have := fadd_lt n.toNat (oo.fmul (chalO oo (oo.padd (oo.pbase n) t) (oo.pbase k) m) k).toNat; omega)
  · rw [z_aS, o_fadd, fr_iff, Int.toNat_natCast]; exact fadd_lt _ _
  · rw [o_fadd, fr_iff, Int.toNat_natCast]; exact fadd_lt _ _
  · rw [o_fsub, fr_iff, Int.toNat_natCast]; exact fsub_lt _ _
  · rw [z_key, Bool.and_eq_true, fr_iff, iBne_t] at hk
    rw [o_pright] at ht
    rw [chk_iff, z_aR, z_aS]
    generalize chalO oo (oo.padd (oo.pbase n) t) (oo.pbase k) m = e
    simp only [o_padd, o_pbase, o_fadd, o_fmul, Int.toNat_natCast]
    rw [inU_t] at hu
    refine ⟨fun h => base_ne (k := k.toNat) (by omega) hk.1 (by omega), right_base _, ht, right_add _ _, fadd_lt _ _, ?_⟩
    rw [base_add, r_comm_mul, ← base_mul]
    generalize pscale (pbase k.toNat) e.toNat = X
    have e1 : padd (padd (pbase n.toNat) t.toNat) X = padd (padd (pbase n.toNat) X) t.toNat := by rw [add_assoc, add_assoc, add_comm X t.toNat]
    rw [e1]
    have := add_sub (padd (pbase n.toNat) X) t.toNat
    rw [taken_of (right_add _ _)] at this
    exact this.symm
  · rw [Bool.eq_iff_iff, chk_iff, chk_iff]
    rw [fr_iff] at hS
    generalize chalO oo R p m = e
    simp only [o_pbase, o_fadd, Int.toNat_natCast, show (1 : Int).toNat = 1 from rfl, base_add]
    have g1 := group_eq (right_base S.toNat) (right_base t.toNat) (right_add R.toNat (pscale p.toNat e.toNat))
    have g2 := neg1 (right_add R.toNat (pscale p.toNat e.toNat))
    rw [g2, ← g1]
    have := fadd_lt S.toNat t.toNat
    have := right_base t.toNat
    have := right_one
    constructor
    · rintro ⟨a, b, c, d, e, f⟩; exact ⟨a, b, right_one, d, fadd_lt _ _, f⟩
    · rintro ⟨a, b, c, d, e, f⟩; exact ⟨a, b, right_base _, d, hS, f⟩
  · rw [chk_iff] at h
    rw [fr_iff] at hfx
    rw [inU_t] at hS hx
    obtain ⟨a, b, c, d, e, f⟩ := h
    rw [Bool.eq_iff_iff, chk_iff, iBeq_t, ← f]
    constructor
    · rintro ⟨_, _, _, _, _, f'⟩
      have := base_inj hfx e f'
      omega
    · rintro rfl; exact ⟨a, b, c, d, e, rfl⟩
  · cases hc : (zO oo).chk p m t R S with
    | false => rfl
    | true => rw [chk_iff] at hc; have := (fr_iff S).2 hc.2.2.2.2.1; rw [hS] at this; cases this
  · cases hc : (zO oo).chk p m t 0 S with
    | false => rfl
    | true => rw [chk_iff] at hc; have := ((right_iff 0).1 hc.2.2.2.1).1; omega
  · rw [chk_iff] at h; exact (fr_iff S).2 h.2.2.2.2.1
  · rw [inU_t] at hS
    rw [fr_iff] at hf
    rw [o_fadd, o_fsub, Int.toNat_natCast]; unfold fadd fsub fadd fneg; omega
  · rw [inU_t] at ht
    rw [fr_iff] at hf
    rw [o_fsub, o_fadd, Int.toNat_natCast]; unfold fsub fadd fneg; omega
  · rw [inU_t] at ha hb
    rw [fr_iff] at fa fb
    rw [o_fadd, o_fadd, Bool.eq_iff_iff, iBeq_t, iBeq_t]; unfold fadd; omega
  · rw [inU_t] at hS ht
    rw [fr_iff] at hf hft
    rw [o_fadd, Bool.eq_iff_iff, iBeq_t, iBeq_t]; unfold fadd; omega
  · rw [o_pright, o_pbase, Int.toNat_natCast]; exact right_base _
  · rw [o_pright]; exact right_one
end
set_option maxHeartbeats 4000000 in
theorem vc_sgTells (O : OO) (Z : OZ) (k p t a b c d : Int) (seed m : Nat → Int) (F : FO O) (G : FZ O Z) (h_k : inU k 18446744073709551616 = true) (h_p : inU p 18446744073709551616 = true) (h_t : inU t 18446744073709551616 = true) (h_a : inU a 18446744073709551616 = true) (h_b : inU b 18446744073709551616 = true) (h_c : inU c 18446744073709551616 = true) (h_d : inU d 18446744073709551616 = true) (h_seed : O.isH (AV seed) = true) (h_m : O.isH (AV m) = true) :
  If (O.isH (Array.mk (List.map (Value.int IntKind.u8) (tabI seed 32))))
    (If (O.isH (Array.mk (List.map (Value.int IntKind.u8) (tabI seed 32))))
      (If (iBne (Z.skey (Array.mk (List.map (Value.int IntKind.u8) (tabI seed 32)))) (Z.skey (Array.mk (List.map (Value.int IntKind.u8) (tabI seed 32))))) (Value.bool false = Value.bool true)
        (If (inU k 18446744073709551616 && O.isH (Array.mk (List.map (Value.int IntKind.u8) (tabI m 32))))
          (If (inU k 18446744073709551616 && O.isH (Array.mk (List.map (Value.int IntKind.u8) (tabI m 32))))
            (If
              (!eqv
                  (Array.mk
                    [Value.int IntKind.u64 (bif Z.key k then Z.aR (Z.non k (Array.mk (List.map (Value.int IntKind.u8) (tabI m 32)))) 1 else 0),
                      Value.int IntKind.u64
                        (bif Z.key k then Z.aS k (Z.non k (Array.mk (List.map (Value.int IntKind.u8) (tabI m 32)))) (Array.mk (List.map (Value.int IntKind.u8) (tabI m 32))) 1 else 0)])
                  (Array.mk
                    [Value.int IntKind.u64 (bif Z.key k then Z.aR (Z.non k (Array.mk (List.map (Value.int IntKind.u8) (tabI m 32)))) 1 else 0),
                      Value.int IntKind.u64
                        (bif Z.key k then Z.aS k (Z.non k (Array.mk (List.map (Value.int IntKind.u8) (tabI m 32)))) (Array.mk (List.map (Value.int IntKind.u8) (tabI m 32))) 1 else 0)]))
              (Value.bool false = Value.bool true)
              (If (inU k 18446744073709551616 && inU t 18446744073709551616 && O.isH (Array.mk (List.map (Value.int IntKind.u8) (tabI m 32))))
                (If (inU k 18446744073709551616 && inU t 18446744073709551616 && O.isH (Array.mk (List.map (Value.int IntKind.u8) (tabI m 32))))
                  (If
                    (!eqv
                        (Array.mk
                          [Value.int IntKind.u64 (bif Z.key k && O.pright t then Z.aR (Z.prn k (Array.mk (List.map (Value.int IntKind.u8) (tabI m 32))) t) t else 0),
                            Value.int IntKind.u64
                              (bif Z.key k && O.pright t then Z.aS k (Z.prn k (Array.mk (List.map (Value.int IntKind.u8) (tabI m 32))) t) (Array.mk (List.map (Value.int IntKind.u8) (tabI m 32))) t
                              else 0)])
                        (Array.mk
                          [Value.int IntKind.u64 (bif Z.key k && O.pright t then Z.aR (Z.prn k (Array.mk (List.map (Value.int IntKind.u8) (tabI m 32))) t) t else 0),
                            Value.int IntKind.u64
                              (bif Z.key k && O.pright t then Z.aS k (Z.prn k (Array.mk (List.map (Value.int IntKind.u8) (tabI m 32))) t) (Array.mk (List.map (Value.int IntKind.u8) (tabI m 32))) t
                              else 0)]))
                    (Value.bool false = Value.bool true)
                    (If (inU p 18446744073709551616 && inU a 18446744073709551616 && inU b 18446744073709551616 && O.isH (Array.mk (List.map (Value.int IntKind.u8) (tabI m 32))))
                      (If (inU p 18446744073709551616 && inU a 18446744073709551616 && inU b 18446744073709551616 && O.isH (Array.mk (List.map (Value.int IntKind.u8) (tabI m 32))))
                        (If (Z.chk p (Array.mk (List.map (Value.int IntKind.u8) (tabI m 32))) 1 a b == Z.chk p (Array.mk (List.map (Value.int IntKind.u8) (tabI m 32))) 1 a b)
                          (If
                            (inU p 18446744073709551616 && inU t 18446744073709551616 && inU a 18446744073709551616 && inU b 18446744073709551616 &&
                              O.isH (Array.mk (List.map (Value.int IntKind.u8) (tabI m 32))))
                            (If
                              (inU p 18446744073709551616 && inU t 18446744073709551616 && inU a 18446744073709551616 && inU b 18446744073709551616 &&
                                O.isH (Array.mk (List.map (Value.int IntKind.u8) (tabI m 32))))
                              (If (Z.chk p (Array.mk (List.map (Value.int IntKind.u8) (tabI m 32))) t a b == Z.chk p (Array.mk (List.map (Value.int IntKind.u8) (tabI m 32))) t a b)
                                (If (inU a 18446744073709551616 && inU b 18446744073709551616 && inU k 18446744073709551616)
                                  (If (inU a 18446744073709551616 && inU b 18446744073709551616 && inU k 18446744073709551616)
                                    (If
                                      (eqv (Array.mk [Value.int IntKind.u64 (bif O.fright b && O.fright k then a else 0), Value.int IntKind.u64 (bif O.fright b && O.fright k then O.fadd b k else 0)])
                                        (Array.mk [Value.int IntKind.u64 (bif O.fright b && O.fright k then a else 0), Value.int IntKind.u64 (bif O.fright b && O.fright k then O.fadd b k else 0)]))
                                      (If (inU a 18446744073709551616 && inU b 18446744073709551616 && inU c 18446744073709551616 && inU d 18446744073709551616)
                                        (If (inU a 18446744073709551616 && inU b 18446744073709551616 && inU c 18446744073709551616 && inU d 18446744073709551616)
                                          (Value.bool (iBeq (bif O.fright b && O.fright d then O.fsub d b else 0) (bif O.fright b && O.fright d then O.fsub d b else 0)) = Value.bool true) False)
                                        False)
                                      (Value.bool false = Value.bool true))
                                    False)
                                  False)
                                (Value.bool false = Value.bool true))
                              False)
                            False)
                          (Value.bool false = Value.bool true))
                        False)
                      False))
                  False)
                False))
            False)
          False))
      False)
    False := by
  have hAseed : O.isH (Array.mk (List.map (Value.int IntKind.u8) (tabI seed 32))) = true := h_seed
  have hAm : O.isH (Array.mk (List.map (Value.int IntKind.u8) (tabI m 32))) = true := h_m
  simp only [hAseed, hAm, h_k, h_p, h_t, h_a, h_b, h_c, h_d, Bool.and_self, Bool.and_true, Bool.true_and, Bool.and_false, Bool.false_and, Bool.not_true, Bool.not_false, Bool.or_true, Bool.true_or, Bool.false_or, Bool.or_false, cond_true, cond_false, If_t, If_f, beq_b, iBeq_self, iBne_self, eqv2, inU_1, inU_0]
theorem wpc_sgTells (O : OO) (Z : OZ) (k p t a b c d : Int) (seed m : Nat → Int) (F : FO O) (G : FZ O Z) (h_k : inU k 18446744073709551616 = true) (h_p : inU p 18446744073709551616 = true) (h_t : inU t 18446744073709551616 = true) (h_a : inU a 18446744073709551616 = true) (h_b : inU b 18446744073709551616 = true) (h_c : inU c 18446744073709551616 = true) (h_d : inU d 18446744073709551616 = true) (h_seed : O.isH (AV seed) = true) (h_m : O.isH (AV m) = true) : wpcI Try.prog (spZ5 O Z) Try.f3.ntmps [] (bodyOf Try.f3) 0 0 (argEnv [.agg (AV seed), .int .u64 k, .agg (AV m), .int .u64 p, .int .u64 t, .agg ⟨[.int .u64 a, .int .u64 b]⟩, .agg ⟨[.int .u64 c, .int .u64 d]⟩] 0) [] (retK Try.prog Try.f3.results.toList (.bool true)) :=
  Eq.mpr (by kernel_rfl) (vc_sgTells O Z k p t a b c d seed m F G h_k h_p h_t h_a h_b h_c h_d h_seed h_m)
theorem walk_sgTells (l_seed : List Nat) (hl_seed : l_seed.length = 32) (hb_seed : ∀ i, l_seed.getD i 0 < 256) (k : Nat) (hb_k : k < 18446744073709551616) (l_m : List Nat) (hl_m : l_m.length = 32) (hb_m : ∀ i, l_m.getD i 0 < 256) (p : Nat) (hb_p : p < 18446744073709551616) (t : Nat) (hb_t : t < 18446744073709551616) (a : Nat) (hb_a : a < 18446744073709551616) (b : Nat) (hb_b : b < 18446744073709551616) (c : Nat) (hb_c : c < 18446744073709551616) (d : Nat) (hb_d : d < 18446744073709551616) (w : World) : Calls Try.prog 3 #[B8 l_seed, .int .u64 (k : Int), B8 l_m, .int .u64 (p : Int), .int .u64 (t : Int), .agg ⟨[.int .u64 (a : Int), .int .u64 (b : Int)]⟩, .agg ⟨[.int .u64 (c : Int), .int .u64 (d : Int)]⟩] w fun e w' => e = .returned (.bool true) ∧ Kp w w' := by
  obtain ⟨seed, e_seed, i_seed⟩ := bcs_AV l_seed hl_seed hb_seed
  obtain ⟨m, e_m, i_m⟩ := bcs_AV l_m hl_m hb_m
  rw [show (B8 l_seed : Value) = .agg (AV seed) from congrArg Value.agg e_seed]
  rw [show (B8 l_m : Value) = .agg (AV m) from congrArg Value.agg e_m]
  exact (calls_realI (I := I0) (spZ5_ok I0 oo rfl (zO oo) rfl) (by kernel_rfl) [] (l := [.agg (AV seed), .int .u64 (k : Int), .agg (AV m), .int .u64 (p : Int), .int .u64 (t : Int), .agg ⟨[.int .u64 (a : Int), .int .u64 (b : Int)]⟩, .agg ⟨[.int .u64 (c : Int), .int .u64 (d : Int)]⟩]) Try.func3 (by kernel_rfl) rfl Try.ntmps3 (by simp) (wpc_sgTells oo (zO oo) (k : Int) (p : Int) (t : Int) (a : Int) (b : Int) (c : Int) (d : Int) seed m (fo_oo oo rfl) fz_oo (inU_of hb_k) (inU_of hb_p) (inU_of hb_t) (inU_of hb_a) (inU_of hb_b) (inU_of hb_c) (inU_of hb_d) (isH_oo i_seed) (isH_oo i_m)) w).mono fun _ _ ⟨he, hf⟩ => ⟨he, fr_below hf⟩
set_option maxHeartbeats 4000000 in
theorem vc_sgHolds (O : OO) (Z : OZ) (k : Int) (m : Nat → Int) (F : FO O) (G : FZ O Z) (h_k : inU k 18446744073709551616 = true) (h_m : O.isH (AV m) = true) :
  If (inU k 18446744073709551616 && O.isH (Array.mk (List.map (Value.int IntKind.u8) (tabI m 32))))
    (If (iBeq k 0)
      (Value.bool
          (eqv
            (Array.mk
              [Value.int IntKind.u64 (bif Z.key k then Z.aR (Z.non k (Array.mk (List.map (Value.int IntKind.u8) (tabI m 32)))) 1 else 0),
                Value.int IntKind.u64 (bif Z.key k then Z.aS k (Z.non k (Array.mk (List.map (Value.int IntKind.u8) (tabI m 32)))) (Array.mk (List.map (Value.int IntKind.u8) (tabI m 32))) 1 else 0)])
            (Array.mk [Value.int IntKind.u64 0, Value.int IntKind.u64 0])) =
        Value.bool true)
      (If (iLe 2305843009213688669 k)
        (Value.bool
            (eqv
              (Array.mk
                [Value.int IntKind.u64 (bif Z.key k then Z.aR (Z.non k (Array.mk (List.map (Value.int IntKind.u8) (tabI m 32)))) 1 else 0),
                  Value.int IntKind.u64 (bif Z.key k then Z.aS k (Z.non k (Array.mk (List.map (Value.int IntKind.u8) (tabI m 32)))) (Array.mk (List.map (Value.int IntKind.u8) (tabI m 32))) 1 else 0)])
              (Array.mk [Value.int IntKind.u64 0, Value.int IntKind.u64 0])) =
          Value.bool true)
        (If (inU k 18446744073709551616)
          (If
            (inU (O.pbase k) 18446744073709551616 && inU (bif Z.key k then Z.aR (Z.non k (Array.mk (List.map (Value.int IntKind.u8) (tabI m 32)))) 1 else 0) 18446744073709551616 &&
                inU (bif Z.key k then Z.aS k (Z.non k (Array.mk (List.map (Value.int IntKind.u8) (tabI m 32)))) (Array.mk (List.map (Value.int IntKind.u8) (tabI m 32))) 1 else 0) 18446744073709551616 &&
              O.isH (Array.mk (List.map (Value.int IntKind.u8) (tabI m 32))))
            (If
              (Z.chk (O.pbase k) (Array.mk (List.map (Value.int IntKind.u8) (tabI m 32))) 1 (bif Z.key k then Z.aR (Z.non k (Array.mk (List.map (Value.int IntKind.u8) (tabI m 32)))) 1 else 0)
                (bif Z.key k then Z.aS k (Z.non k (Array.mk (List.map (Value.int IntKind.u8) (tabI m 32)))) (Array.mk (List.map (Value.int IntKind.u8) (tabI m 32))) 1 else 0))
              (If (inU k 18446744073709551616 && O.isH (Array.mk (List.map (Value.int IntKind.u8) (tabI m 32))))
                (If
                  (eqv
                    (Array.mk
                      [Value.int IntKind.u64 (bif Z.key k then Z.aR (Z.non k (Array.mk (List.map (Value.int IntKind.u8) (tabI m 32)))) 1 else 0),
                        Value.int IntKind.u64
                          (bif Z.key k then Z.aS k (Z.non k (Array.mk (List.map (Value.int IntKind.u8) (tabI m 32)))) (Array.mk (List.map (Value.int IntKind.u8) (tabI m 32))) 1 else 0)])
                    (Array.mk
                      [Value.int IntKind.u64 (bif Z.key k then Z.aR (Z.non k (Array.mk (List.map (Value.int IntKind.u8) (tabI m 32)))) 1 else 0),
                        Value.int IntKind.u64
                          (bif Z.key k then Z.aS k (Z.non k (Array.mk (List.map (Value.int IntKind.u8) (tabI m 32)))) (Array.mk (List.map (Value.int IntKind.u8) (tabI m 32))) 1 else 0)]))
                  (If (inU k 18446744073709551616)
                    (If
                      (inU (O.pbase k) 18446744073709551616 && inU 1 18446744073709551616 &&
                            inU (bif Z.key k then Z.aR (Z.non k (Array.mk (List.map (Value.int IntKind.u8) (tabI m 32)))) 1 else 0) 18446744073709551616 &&
                          inU (bif Z.key k then Z.aS k (Z.non k (Array.mk (List.map (Value.int IntKind.u8) (tabI m 32)))) (Array.mk (List.map (Value.int IntKind.u8) (tabI m 32))) 1 else 0)
                            18446744073709551616 &&
                        O.isH (Array.mk (List.map (Value.int IntKind.u8) (tabI m 32))))
                      (Value.bool
                          (Z.chk (O.pbase k) (Array.mk (List.map (Value.int IntKind.u8) (tabI m 32))) 1
                            (bif Z.key k then Z.aR (Z.non k (Array.mk (List.map (Value.int IntKind.u8) (tabI m 32)))) 1 else 0)
                            (bif Z.key k then Z.aS k (Z.non k (Array.mk (List.map (Value.int IntKind.u8) (tabI m 32)))) (Array.mk (List.map (Value.int IntKind.u8) (tabI m 32))) 1 else 0)) =
                        Value.bool true)
                      False)
                    False)
                  (Value.bool false = Value.bool true))
                False)
              (Value.bool false = Value.bool true))
            False)
          False)))
    False := by
  have hAm : O.isH (Array.mk (List.map (Value.int IntKind.u8) (tabI m 32))) = true := h_m
  have hk := G.key k h_k
  cases e0 : iBeq k 0 with
  | true => rw [e0] at hk; simp only [hAm, h_k, hk, Bool.and_self, Bool.and_true, Bool.true_and, Bool.and_false, Bool.false_and, Bool.not_true, Bool.not_false, Bool.or_true, Bool.true_or, Bool.false_or, Bool.or_false, cond_true, cond_false, If_t, If_f, beq_b, iBeq_self, iBne_self, eqv2, inU_1, inU_0, F.fadd, F.fsub, F.fmul, F.padd, F.pneg, F.pbase, F.pscale, F.pall, F.ffrom, F.tH, G.sR, G.sS, G.sF, G.aF, G.bF, G.pb, G.p1]
  | false =>
    cases e1 : iLe 2305843009213688669 k with
    | true => rw [e0, e1] at hk; simp only [hAm, h_k, hk, Bool.and_self, Bool.and_true, Bool.true_and, Bool.and_false, Bool.false_and, Bool.not_true, Bool.not_false, Bool.or_true, Bool.true_or, Bool.false_or, Bool.or_false, cond_true, cond_false, If_t, If_f, beq_b, iBeq_self, iBne_self, eqv2, inU_1, inU_0, F.fadd, F.fsub, F.fmul, F.padd, F.pneg, F.pbase, F.pscale, F.pall, F.ffrom, F.tH, G.sR, G.sS, G.sF, G.aF, G.bF, G.pb, G.p1]
    | false =>
      rw [e0, e1] at hk
      have hk' : Z.key k = true := hk
      have gh := fun n (a : Array Value) => G.hold k n a 1 h_k hk' G.p1
      simp only [hAm, h_k, hk', gh, Bool.and_self, Bool.and_true, Bool.true_and, Bool.and_false, Bool.false_and, Bool.not_true, Bool.not_false, Bool.or_true, Bool.true_or, Bool.false_or, Bool.or_false, cond_true, cond_false, If_t, If_f, beq_b, iBeq_self, iBne_self, eqv2, inU_1, inU_0, F.fadd, F.fsub, F.fmul, F.padd, F.pneg, F.pbase, F.pscale, F.pall, F.ffrom, F.tH, G.sR, G.sS, G.sF, G.aF, G.bF, G.pb, G.p1]
theorem wpc_sgHolds (O : OO) (Z : OZ) (k : Int) (m : Nat → Int) (F : FO O) (G : FZ O Z) (h_k : inU k 18446744073709551616 = true) (h_m : O.isH (AV m) = true) : wpcI Try.prog (spZ5 O Z) Try.f4.ntmps [] (bodyOf Try.f4) 0 0 (argEnv [.int .u64 k, .agg (AV m)] 0) [] (retK Try.prog Try.f4.results.toList (.bool true)) :=
  Eq.mpr (by kernel_rfl) (vc_sgHolds O Z k m F G h_k h_m)
theorem walk_sgHolds (k : Nat) (hb_k : k < 18446744073709551616) (l_m : List Nat) (hl_m : l_m.length = 32) (hb_m : ∀ i, l_m.getD i 0 < 256) (w : World) : Calls Try.prog 4 #[.int .u64 (k : Int), B8 l_m] w fun e w' => e = .returned (.bool true) ∧ Kp w w' := by
  obtain ⟨m, e_m, i_m⟩ := bcs_AV l_m hl_m hb_m
  rw [show (B8 l_m : Value) = .agg (AV m) from congrArg Value.agg e_m]
  exact (calls_realI (I := I0) (spZ5_ok I0 oo rfl (zO oo) rfl) (by kernel_rfl) [] (l := [.int .u64 (k : Int), .agg (AV m)]) Try.func4 (by kernel_rfl) rfl Try.ntmps4 (by simp) (wpc_sgHolds oo (zO oo) (k : Int) m (fo_oo oo rfl) fz_oo (inU_of hb_k) (isH_oo i_m)) w).mono fun _ _ ⟨he, hf⟩ => ⟨he, fr_below hf⟩
set_option maxHeartbeats 4000000 in
theorem vc_sgOne (O : OO) (Z : OZ) (p r s t other : Int) (m : Nat → Int) (F : FO O) (G : FZ O Z) (h_p : inU p 18446744073709551616 = true) (h_r : inU r 18446744073709551616 = true) (h_s : inU s 18446744073709551616 = true) (h_t : inU t 18446744073709551616 = true) (h_other : inU other 18446744073709551616 = true) (h_m : O.isH (AV m) = true) :
  If (iLe 2305843009213688669 t)
    (If (inU s 18446744073709551616)
      (If (O.fright s) (Value.bool true = Value.bool true)
        (If (inU p 18446744073709551616 && inU r 18446744073709551616 && inU s 18446744073709551616 && O.isH (Array.mk (List.map (Value.int IntKind.u8) (tabI m 32))))
          ((Value.bool !Z.chk p (Array.mk (List.map (Value.int IntKind.u8) (tabI m 32))) 1 r s) = Value.bool true) False))
      False)
    (If (inU s 18446744073709551616)
      (If (!O.fright s)
        (If (inU s 18446744073709551616)
          (If (O.fright s) (Value.bool true = Value.bool true)
            (If (inU p 18446744073709551616 && inU r 18446744073709551616 && inU s 18446744073709551616 && O.isH (Array.mk (List.map (Value.int IntKind.u8) (tabI m 32))))
              ((Value.bool !Z.chk p (Array.mk (List.map (Value.int IntKind.u8) (tabI m 32))) 1 r s) = Value.bool true) False))
          False)
        (If (inU p 18446744073709551616 && inU r 18446744073709551616 && inU s 18446744073709551616 && O.isH (Array.mk (List.map (Value.int IntKind.u8) (tabI m 32))))
          (If (inU p 18446744073709551616 && inU r 18446744073709551616 && inU other 18446744073709551616 && O.isH (Array.mk (List.map (Value.int IntKind.u8) (tabI m 32))))
            (If (Z.chk p (Array.mk (List.map (Value.int IntKind.u8) (tabI m 32))) 1 r s)
              (If (!Z.chk p (Array.mk (List.map (Value.int IntKind.u8) (tabI m 32))) 1 r other == iBeq other s) (Value.bool false = Value.bool true)
                (If (inU s 18446744073709551616 && inU t 18446744073709551616)
                  (If (inU t 18446744073709551616)
                    (If
                      (inU p 18446744073709551616 && inU (O.pbase t) 18446744073709551616 && inU r 18446744073709551616 && inU (O.fsub s t) 18446744073709551616 &&
                        O.isH (Array.mk (List.map (Value.int IntKind.u8) (tabI m 32))))
                      (If (Z.chk p (Array.mk (List.map (Value.int IntKind.u8) (tabI m 32))) (O.pbase t) r (O.fsub s t) == Z.chk p (Array.mk (List.map (Value.int IntKind.u8) (tabI m 32))) 1 r s)
                        (If (!Z.chk p (Array.mk (List.map (Value.int IntKind.u8) (tabI m 32))) 1 r s) (Value.bool true = Value.bool true)
                          (If (inU r 18446744073709551616 && inU (O.fsub s t) 18446744073709551616 && inU t 18446744073709551616)
                            (Value.bool
                                (eqv
                                  (Array.mk
                                    [Value.int IntKind.u64 (bif O.fright (O.fsub s t) && O.fright t then r else 0),
                                      Value.int IntKind.u64 (bif O.fright (O.fsub s t) && O.fright t then O.fadd (O.fsub s t) t else 0)])
                                  (Array.mk [Value.int IntKind.u64 r, Value.int IntKind.u64 s])) =
                              Value.bool true)
                            False))
                        False)
                      False)
                    False)
                  False))
              (If (inU s 18446744073709551616 && inU t 18446744073709551616)
                (If (inU t 18446744073709551616)
                  (If
                    (inU p 18446744073709551616 && inU (O.pbase t) 18446744073709551616 && inU r 18446744073709551616 && inU (O.fsub s t) 18446744073709551616 &&
                      O.isH (Array.mk (List.map (Value.int IntKind.u8) (tabI m 32))))
                    (If (Z.chk p (Array.mk (List.map (Value.int IntKind.u8) (tabI m 32))) (O.pbase t) r (O.fsub s t) == Z.chk p (Array.mk (List.map (Value.int IntKind.u8) (tabI m 32))) 1 r s)
                      (If (!Z.chk p (Array.mk (List.map (Value.int IntKind.u8) (tabI m 32))) 1 r s) (Value.bool true = Value.bool true)
                        (If (inU r 18446744073709551616 && inU (O.fsub s t) 18446744073709551616 && inU t 18446744073709551616)
                          (Value.bool
                              (eqv
                                (Array.mk
                                  [Value.int IntKind.u64 (bif O.fright (O.fsub s t) && O.fright t then r else 0),
                                    Value.int IntKind.u64 (bif O.fright (O.fsub s t) && O.fright t then O.fadd (O.fsub s t) t else 0)])
                                (Array.mk [Value.int IntKind.u64 r, Value.int IntKind.u64 s])) =
                            Value.bool true)
                          False))
                      False)
                    False)
                  False)
                False))
            False)
          False))
      False) := by
  have hAm : O.isH (Array.mk (List.map (Value.int IntKind.u8) (tabI m 32))) = true := h_m
  generalize (Array.mk (List.map (Value.int IntKind.u8) (tabI m 32)) : Array Value) = A at hAm ⊢
  have hs := G.fr s h_s
  have ht := G.fr t h_t
  cases et : iLe 2305843009213688669 t with
  | true =>
    cases es : O.fright s with
    | true => simp only [h_s, es, et, Bool.and_self, Bool.and_true, Bool.true_and, Bool.and_false, Bool.false_and, Bool.not_true, Bool.not_false, Bool.or_true, Bool.true_or, Bool.false_or, Bool.or_false, cond_true, cond_false, If_t, If_f, beq_b, iBeq_self, iBne_self, eqv2, inU_1, inU_0]
    | false =>
      have h1 := G.chkF p A 1 r s es
      simp only [h_s, h_p, h_r, hAm, es, h1, Bool.and_self, Bool.and_true, Bool.true_and, Bool.and_false, Bool.false_and, Bool.not_true, Bool.not_false, Bool.or_true, Bool.true_or, Bool.false_or, Bool.or_false, cond_true, cond_false, If_t, If_f, beq_b, iBeq_self, iBne_self, eqv2, inU_1, inU_0]
  | false =>
    rw [et] at ht
    have ht' : O.fright t = true := ht
    cases es : O.fright s with
    | false =>
      have h1 := G.chkF p A 1 r s es
      simp only [h_s, h_p, h_r, hAm, es, h1, Bool.and_self, Bool.and_true, Bool.true_and, Bool.and_false, Bool.false_and, Bool.not_true, Bool.not_false, Bool.or_true, Bool.true_or, Bool.false_or, Bool.or_false, cond_true, cond_false, If_t, If_f, beq_b, iBeq_self, iBne_self, eqv2, inU_1, inU_0]
    | true =>
      have sh := G.shift p A t r (O.fsub s t) (G.bF s t)
      have ad := G.addsub s t h_s es
      rw [ad] at sh
      cases ec : Z.chk p A 1 r s with
      | false => rw [ec] at sh; simp only [h_s, h_p, h_r, h_t, h_other, hAm, es, ec, sh, ad, ht', F.fadd, F.fsub, F.fmul, F.padd, F.pneg, F.pbase, F.pscale, F.pall, F.ffrom, F.tH, G.sR, G.sS, G.sF, G.aF, G.bF, G.pb, G.p1, Bool.and_self, Bool.and_true, Bool.true_and, Bool.and_false, Bool.false_and, Bool.not_true, Bool.not_false, Bool.or_true, Bool.true_or, Bool.false_or, Bool.or_false, cond_true, cond_false, If_t, If_f, beq_b, iBeq_self, iBne_self, eqv2, inU_1, inU_0]
      | true =>
        rw [ec] at sh
        cases eo : O.fright other with
        | true =>
          have u := G.uniq p A r s other h_s h_other ec eo
          simp only [h_s, h_p, h_r, h_t, h_other, hAm, es, ec, sh, ad, ht', u, F.fadd, F.fsub, F.fmul, F.padd, F.pneg, F.pbase, F.pscale, F.pall, F.ffrom, F.tH, G.sR, G.sS, G.sF, G.aF, G.bF, G.pb, G.p1, Bool.and_self, Bool.and_true, Bool.true_and, Bool.and_false, Bool.false_and, Bool.not_true, Bool.not_false, Bool.or_true, Bool.true_or, Bool.false_or, Bool.or_false, cond_true, cond_false, If_t, If_f, beq_b, iBeq_self, iBne_self, eqv2, inU_1, inU_0]
        | false =>
          have u := G.chkF p A 1 r other eo
          have hne : iBeq other s = false := ne_fr eo es
          simp only [h_s, h_p, h_r, h_t, h_other, hAm, es, ec, sh, ad, ht', u, hne, F.fadd, F.fsub, F.fmul, F.padd, F.pneg, F.pbase, F.pscale, F.pall, F.ffrom, F.tH, G.sR, G.sS, G.sF, G.aF, G.bF, G.pb, G.p1, Bool.and_self, Bool.and_true, Bool.true_and, Bool.and_false, Bool.false_and, Bool.not_true, Bool.not_false, Bool.or_true, Bool.true_or, Bool.false_or, Bool.or_false, cond_true, cond_false, If_t, If_f, beq_b, iBeq_self, iBne_self, eqv2, inU_1, inU_0]
theorem wpc_sgOne (O : OO) (Z : OZ) (p r s t other : Int) (m : Nat → Int) (F : FO O) (G : FZ O Z) (h_p : inU p 18446744073709551616 = true) (h_r : inU r 18446744073709551616 = true) (h_s : inU s 18446744073709551616 = true) (h_t : inU t 18446744073709551616 = true) (h_other : inU other 18446744073709551616 = true) (h_m : O.isH (AV m) = true) : wpcI Try.prog (spZ5 O Z) Try.f6.ntmps [] (bodyOf Try.f6) 0 0 (argEnv [.int .u64 p, .agg (AV m), .agg ⟨[.int .u64 r, .int .u64 s]⟩, .int .u64 t, .int .u64 other] 0) [] (retK Try.prog Try.f6.results.toList (.bool true)) :=
  Eq.mpr (by kernel_rfl) (vc_sgOne O Z p r s t other m F G h_p h_r h_s h_t h_other h_m)
theorem walk_sgOne (p : Nat) (hb_p : p < 18446744073709551616) (l_m : List Nat) (hl_m : l_m.length = 32) (hb_m : ∀ i, l_m.getD i 0 < 256) (r : Nat) (hb_r : r < 18446744073709551616) (s : Nat) (hb_s : s < 18446744073709551616) (t : Nat) (hb_t : t < 18446744073709551616) (other : Nat) (hb_other : other < 18446744073709551616) (w : World) : Calls Try.prog 6 #[.int .u64 (p : Int), B8 l_m, .agg ⟨[.int .u64 (r : Int), .int .u64 (s : Int)]⟩, .int .u64 (t : Int), .int .u64 (other : Int)] w fun e w' => e = .returned (.bool true) ∧ Kp w w' := by
  obtain ⟨m, e_m, i_m⟩ := bcs_AV l_m hl_m hb_m
  rw [show (B8 l_m : Value) = .agg (AV m) from congrArg Value.agg e_m]
  exact (calls_realI (I := I0) (spZ5_ok I0 oo rfl (zO oo) rfl) (by kernel_rfl) [] (l := [.int .u64 (p : Int), .agg (AV m), .agg ⟨[.int .u64 (r : Int), .int .u64 (s : Int)]⟩, .int .u64 (t : Int), .int .u64 (other : Int)]) Try.func6 (by kernel_rfl) rfl Try.ntmps6 (by simp) (wpc_sgOne oo (zO oo) (p : Int) (r : Int) (s : Int) (t : Int) (other : Int) m (fo_oo oo rfl) fz_oo (inU_of hb_p) (inU_of hb_r) (inU_of hb_s) (inU_of hb_t) (inU_of hb_other) (isH_oo i_m)) w).mono fun _ _ ⟨he, hf⟩ => ⟨he, fr_below hf⟩
set_option maxHeartbeats 4000000 in
theorem vc_sgAdapts (O : OO) (Z : OZ) (k t other : Int) (m : Nat → Int) (F : FO O) (G : FZ O Z) (h_k : inU k 18446744073709551616 = true) (h_t : inU t 18446744073709551616 = true) (h_other : inU other 18446744073709551616 = true) (h_m : O.isH (AV m) = true) :
  If (iBeq k 0) (Value.bool true = Value.bool true)
    (If (iLe 2305843009213688669 k) (Value.bool true = Value.bool true)
      (If (iLe 2305843009213688669 t) (Value.bool true = Value.bool true)
        (If (inU k 18446744073709551616)
          (If (inU t 18446744073709551616)
            (If (inU k 18446744073709551616 && inU (O.pbase t) 18446744073709551616 && O.isH (Array.mk (List.map (Value.int IntKind.u8) (tabI m 32))))
              (If
                (inU (bif Z.key k && O.pright (O.pbase t) then Z.aR (Z.prn k (Array.mk (List.map (Value.int IntKind.u8) (tabI m 32))) (O.pbase t)) (O.pbase t) else 0) 18446744073709551616 &&
                    inU
                      (bif Z.key k && O.pright (O.pbase t) then
                        Z.aS k (Z.prn k (Array.mk (List.map (Value.int IntKind.u8) (tabI m 32))) (O.pbase t)) (Array.mk (List.map (Value.int IntKind.u8) (tabI m 32))) (O.pbase t)
                      else 0)
                      18446744073709551616 &&
                  inU t 18446744073709551616)
                (If
                  (inU (bif Z.key k && O.pright (O.pbase t) then Z.aR (Z.prn k (Array.mk (List.map (Value.int IntKind.u8) (tabI m 32))) (O.pbase t)) (O.pbase t) else 0) 18446744073709551616 &&
                      inU
                        (bif Z.key k && O.pright (O.pbase t) then
                          Z.aS k (Z.prn k (Array.mk (List.map (Value.int IntKind.u8) (tabI m 32))) (O.pbase t)) (Array.mk (List.map (Value.int IntKind.u8) (tabI m 32))) (O.pbase t)
                        else 0)
                        18446744073709551616 &&
                    inU other 18446744073709551616)
                  (If (inU t 18446744073709551616)
                    (If
                      (inU (O.pbase k) 18446744073709551616 && inU (O.pbase t) 18446744073709551616 &&
                            inU (bif Z.key k && O.pright (O.pbase t) then Z.aR (Z.prn k (Array.mk (List.map (Value.int IntKind.u8) (tabI m 32))) (O.pbase t)) (O.pbase t) else 0) 18446744073709551616 &&
                          inU
                            (bif Z.key k && O.pright (O.pbase t) then
                              Z.aS k (Z.prn k (Array.mk (List.map (Value.int IntKind.u8) (tabI m 32))) (O.pbase t)) (Array.mk (List.map (Value.int IntKind.u8) (tabI m 32))) (O.pbase t)
                            else 0)
                            18446744073709551616 &&
                        O.isH (Array.mk (List.map (Value.int IntKind.u8) (tabI m 32))))
                      (If
                        (!Z.chk (O.pbase k) (Array.mk (List.map (Value.int IntKind.u8) (tabI m 32))) (O.pbase t)
                            (bif Z.key k && O.pright (O.pbase t) then Z.aR (Z.prn k (Array.mk (List.map (Value.int IntKind.u8) (tabI m 32))) (O.pbase t)) (O.pbase t) else 0)
                            (bif Z.key k && O.pright (O.pbase t) then
                              Z.aS k (Z.prn k (Array.mk (List.map (Value.int IntKind.u8) (tabI m 32))) (O.pbase t)) (Array.mk (List.map (Value.int IntKind.u8) (tabI m 32))) (O.pbase t)
                            else 0))
                        (Value.bool false = Value.bool true)
                        (If
                          (inU (O.pbase k) 18446744073709551616 &&
                                inU
                                  (bif
                                      O.fright
                                          (bif Z.key k && O.pright (O.pbase t) then
                                            Z.aS k (Z.prn k (Array.mk (List.map (Value.int IntKind.u8) (tabI m 32))) (O.pbase t)) (Array.mk (List.map (Value.int IntKind.u8) (tabI m 32))) (O.pbase t)
                                          else 0) &&
                                        O.fright t then
                                    bif Z.key k && O.pright (O.pbase t) then Z.aR (Z.prn k (Array.mk (List.map (Value.int IntKind.u8) (tabI m 32))) (O.pbase t)) (O.pbase t) else 0
                                  else 0)
                                  18446744073709551616 &&
                              inU
                                (bif
                                    O.fright
                                        (bif Z.key k && O.pright (O.pbase t) then
                                          Z.aS k (Z.prn k (Array.mk (List.map (Value.int IntKind.u8) (tabI m 32))) (O.pbase t)) (Array.mk (List.map (Value.int IntKind.u8) (tabI m 32))) (O.pbase t)
                                        else 0) &&
                                      O.fright t then
                                  O.fadd
                                    (bif Z.key k && O.pright (O.pbase t) then
                                      Z.aS k (Z.prn k (Array.mk (List.map (Value.int IntKind.u8) (tabI m 32))) (O.pbase t)) (Array.mk (List.map (Value.int IntKind.u8) (tabI m 32))) (O.pbase t)
                                    else 0)
                                    t
                                else 0)
                                18446744073709551616 &&
                            O.isH (Array.mk (List.map (Value.int IntKind.u8) (tabI m 32))))
                          (If
                            (!Z.chk (O.pbase k) (Array.mk (List.map (Value.int IntKind.u8) (tabI m 32))) 1
                                (bif
                                    O.fright
                                        (bif Z.key k && O.pright (O.pbase t) then
                                          Z.aS k (Z.prn k (Array.mk (List.map (Value.int IntKind.u8) (tabI m 32))) (O.pbase t)) (Array.mk (List.map (Value.int IntKind.u8) (tabI m 32))) (O.pbase t)
                                        else 0) &&
                                      O.fright t then
                                  bif Z.key k && O.pright (O.pbase t) then Z.aR (Z.prn k (Array.mk (List.map (Value.int IntKind.u8) (tabI m 32))) (O.pbase t)) (O.pbase t) else 0
                                else 0)
                                (bif
                                    O.fright
                                        (bif Z.key k && O.pright (O.pbase t) then
                                          Z.aS k (Z.prn k (Array.mk (List.map (Value.int IntKind.u8) (tabI m 32))) (O.pbase t)) (Array.mk (List.map (Value.int IntKind.u8) (tabI m 32))) (O.pbase t)
                                        else 0) &&
                                      O.fright t then
                                  O.fadd
                                    (bif Z.key k && O.pright (O.pbase t) then
                                      Z.aS k (Z.prn k (Array.mk (List.map (Value.int IntKind.u8) (tabI m 32))) (O.pbase t)) (Array.mk (List.map (Value.int IntKind.u8) (tabI m 32))) (O.pbase t)
                                    else 0)
                                    t
                                else 0))
                            (Value.bool false = Value.bool true)
                            (If
                              (inU (bif Z.key k && O.pright (O.pbase t) then Z.aR (Z.prn k (Array.mk (List.map (Value.int IntKind.u8) (tabI m 32))) (O.pbase t)) (O.pbase t) else 0)
                                      18446744073709551616 &&
                                    inU
                                      (bif Z.key k && O.pright (O.pbase t) then
                                        Z.aS k (Z.prn k (Array.mk (List.map (Value.int IntKind.u8) (tabI m 32))) (O.pbase t)) (Array.mk (List.map (Value.int IntKind.u8) (tabI m 32))) (O.pbase t)
                                      else 0)
                                      18446744073709551616 &&
                                  inU
                                    (bif
                                        O.fright
                                            (bif Z.key k && O.pright (O.pbase t) then
                                              Z.aS k (Z.prn k (Array.mk (List.map (Value.int IntKind.u8) (tabI m 32))) (O.pbase t)) (Array.mk (List.map (Value.int IntKind.u8) (tabI m 32))) (O.pbase t)
                                            else 0) &&
                                          O.fright t then
                                      bif Z.key k && O.pright (O.pbase t) then Z.aR (Z.prn k (Array.mk (List.map (Value.int IntKind.u8) (tabI m 32))) (O.pbase t)) (O.pbase t) else 0
                                    else 0)
                                    18446744073709551616 &&
                                inU
                                  (bif
                                      O.fright
                                          (bif Z.key k && O.pright (O.pbase t) then
                                            Z.aS k (Z.prn k (Array.mk (List.map (Value.int IntKind.u8) (tabI m 32))) (O.pbase t)) (Array.mk (List.map (Value.int IntKind.u8) (tabI m 32))) (O.pbase t)
                                          else 0) &&
                                        O.fright t then
                                    O.fadd
                                      (bif Z.key k && O.pright (O.pbase t) then
                                        Z.aS k (Z.prn k (Array.mk (List.map (Value.int IntKind.u8) (tabI m 32))) (O.pbase t)) (Array.mk (List.map (Value.int IntKind.u8) (tabI m 32))) (O.pbase t)
                                      else 0)
                                      t
                                  else 0)
                                  18446744073709551616)
                              (If
                                (iBne
                                  (bif
                                      O.fright
                                          (bif Z.key k && O.pright (O.pbase t) then
                                            Z.aS k (Z.prn k (Array.mk (List.map (Value.int IntKind.u8) (tabI m 32))) (O.pbase t)) (Array.mk (List.map (Value.int IntKind.u8) (tabI m 32))) (O.pbase t)
                                          else 0) &&
                                        O.fright
                                          (bif
                                              O.fright
                                                  (bif Z.key k && O.pright (O.pbase t) then
                                                    Z.aS k (Z.prn k (Array.mk (List.map (Value.int IntKind.u8) (tabI m 32))) (O.pbase t)) (Array.mk (List.map (Value.int IntKind.u8) (tabI m 32)))
                                                      (O.pbase t)
                                                  else 0) &&
                                                O.fright t then
                                            O.fadd
                                              (bif Z.key k && O.pright (O.pbase t) then
                                                Z.aS k (Z.prn k (Array.mk (List.map (Value.int IntKind.u8) (tabI m 32))) (O.pbase t)) (Array.mk (List.map (Value.int IntKind.u8) (tabI m 32))) (O.pbase t)
                                              else 0)
                                              t
                                          else 0) then
                                    O.fsub
                                      (bif
                                          O.fright
                                              (bif Z.key k && O.pright (O.pbase t) then
                                                Z.aS k (Z.prn k (Array.mk (List.map (Value.int IntKind.u8) (tabI m 32))) (O.pbase t)) (Array.mk (List.map (Value.int IntKind.u8) (tabI m 32))) (O.pbase t)
                                              else 0) &&
                                            O.fright t then
                                        O.fadd
                                          (bif Z.key k && O.pright (O.pbase t) then
                                            Z.aS k (Z.prn k (Array.mk (List.map (Value.int IntKind.u8) (tabI m 32))) (O.pbase t)) (Array.mk (List.map (Value.int IntKind.u8) (tabI m 32))) (O.pbase t)
                                          else 0)
                                          t
                                      else 0)
                                      (bif Z.key k && O.pright (O.pbase t) then
                                        Z.aS k (Z.prn k (Array.mk (List.map (Value.int IntKind.u8) (tabI m 32))) (O.pbase t)) (Array.mk (List.map (Value.int IntKind.u8) (tabI m 32))) (O.pbase t)
                                      else 0)
                                  else 0)
                                  t)
                                (Value.bool false = Value.bool true)
                                (If
                                  (inU (O.pbase k) 18446744073709551616 &&
                                        inU
                                          (bif
                                              O.fright
                                                  (bif Z.key k && O.pright (O.pbase t) then
                                                    Z.aS k (Z.prn k (Array.mk (List.map (Value.int IntKind.u8) (tabI m 32))) (O.pbase t)) (Array.mk (List.map (Value.int IntKind.u8) (tabI m 32)))
                                                      (O.pbase t)
                                                  else 0) &&
                                                O.fright other then
                                            bif Z.key k && O.pright (O.pbase t) then Z.aR (Z.prn k (Array.mk (List.map (Value.int IntKind.u8) (tabI m 32))) (O.pbase t)) (O.pbase t) else 0
                                          else 0)
                                          18446744073709551616 &&
                                      inU
                                        (bif
                                            O.fright
                                                (bif Z.key k && O.pright (O.pbase t) then
                                                  Z.aS k (Z.prn k (Array.mk (List.map (Value.int IntKind.u8) (tabI m 32))) (O.pbase t)) (Array.mk (List.map (Value.int IntKind.u8) (tabI m 32)))
                                                    (O.pbase t)
                                                else 0) &&
                                              O.fright other then
                                          O.fadd
                                            (bif Z.key k && O.pright (O.pbase t) then
                                              Z.aS k (Z.prn k (Array.mk (List.map (Value.int IntKind.u8) (tabI m 32))) (O.pbase t)) (Array.mk (List.map (Value.int IntKind.u8) (tabI m 32))) (O.pbase t)
                                            else 0)
                                            other
                                        else 0)
                                        18446744073709551616 &&
                                    O.isH (Array.mk (List.map (Value.int IntKind.u8) (tabI m 32))))
                                  (If
                                    (Z.chk (O.pbase k) (Array.mk (List.map (Value.int IntKind.u8) (tabI m 32))) 1
                                        (bif
                                            O.fright
                                                (bif Z.key k && O.pright (O.pbase t) then
                                                  Z.aS k (Z.prn k (Array.mk (List.map (Value.int IntKind.u8) (tabI m 32))) (O.pbase t)) (Array.mk (List.map (Value.int IntKind.u8) (tabI m 32)))
                                                    (O.pbase t)
                                                else 0) &&
                                              O.fright other then
                                          bif Z.key k && O.pright (O.pbase t) then Z.aR (Z.prn k (Array.mk (List.map (Value.int IntKind.u8) (tabI m 32))) (O.pbase t)) (O.pbase t) else 0
                                        else 0)
                                        (bif
                                            O.fright
                                                (bif Z.key k && O.pright (O.pbase t) then
                                                  Z.aS k (Z.prn k (Array.mk (List.map (Value.int IntKind.u8) (tabI m 32))) (O.pbase t)) (Array.mk (List.map (Value.int IntKind.u8) (tabI m 32)))
                                                    (O.pbase t)
                                                else 0) &&
                                              O.fright other then
                                          O.fadd
                                            (bif Z.key k && O.pright (O.pbase t) then
                                              Z.aS k (Z.prn k (Array.mk (List.map (Value.int IntKind.u8) (tabI m 32))) (O.pbase t)) (Array.mk (List.map (Value.int IntKind.u8) (tabI m 32))) (O.pbase t)
                                            else 0)
                                            other
                                        else 0) ==
                                      iBeq other t)
                                    (If
                                      (inU (O.pbase k) 18446744073709551616 &&
                                            inU (bif Z.key k && O.pright (O.pbase t) then Z.aR (Z.prn k (Array.mk (List.map (Value.int IntKind.u8) (tabI m 32))) (O.pbase t)) (O.pbase t) else 0)
                                              18446744073709551616 &&
                                          inU
                                            (bif Z.key k && O.pright (O.pbase t) then
                                              Z.aS k (Z.prn k (Array.mk (List.map (Value.int IntKind.u8) (tabI m 32))) (O.pbase t)) (Array.mk (List.map (Value.int IntKind.u8) (tabI m 32))) (O.pbase t)
                                            else 0)
                                            18446744073709551616 &&
                                        O.isH (Array.mk (List.map (Value.int IntKind.u8) (tabI m 32))))
                                      (Value.bool
                                          (Z.chk (O.pbase k) (Array.mk (List.map (Value.int IntKind.u8) (tabI m 32))) 1
                                              (bif Z.key k && O.pright (O.pbase t) then Z.aR (Z.prn k (Array.mk (List.map (Value.int IntKind.u8) (tabI m 32))) (O.pbase t)) (O.pbase t) else 0)
                                              (bif Z.key k && O.pright (O.pbase t) then
                                                Z.aS k (Z.prn k (Array.mk (List.map (Value.int IntKind.u8) (tabI m 32))) (O.pbase t)) (Array.mk (List.map (Value.int IntKind.u8) (tabI m 32))) (O.pbase t)
                                              else 0) ==
                                            iBeq t 0) =
                                        Value.bool true)
                                      False)
                                    (Value.bool false = Value.bool true))
                                  False))
                              False))
                          False))
                      False)
                    False)
                  False)
                False)
              False)
            False)
          False))) := by
  have hAm : O.isH (Array.mk (List.map (Value.int IntKind.u8) (tabI m 32))) = true := h_m
  generalize (Array.mk (List.map (Value.int IntKind.u8) (tabI m 32)) : Array Value) = A at hAm ⊢
  have hk := G.key k h_k
  have ht := G.fr t h_t
  cases e0 : iBeq k 0 with
  | true => simp only [Bool.and_self, Bool.and_true, Bool.true_and, Bool.and_false, Bool.false_and, Bool.not_true, Bool.not_false, Bool.or_true, Bool.true_or, Bool.false_or, Bool.or_false, cond_true, cond_false, If_t, If_f, beq_b, iBeq_self, iBne_self, eqv2, inU_1, inU_0]
  | false =>
    cases e1 : iLe 2305843009213688669 k with
    | true => simp only [Bool.and_self, Bool.and_true, Bool.true_and, Bool.and_false, Bool.false_and, Bool.not_true, Bool.not_false, Bool.or_true, Bool.true_or, Bool.false_or, Bool.or_false, cond_true, cond_false, If_t, If_f, beq_b, iBeq_self, iBne_self, eqv2, inU_1, inU_0]
    | false =>
      cases e2 : iLe 2305843009213688669 t with
      | true => simp only [Bool.and_self, Bool.and_true, Bool.true_and, Bool.and_false, Bool.false_and, Bool.not_true, Bool.not_false, Bool.or_true, Bool.true_or, Bool.false_or, Bool.or_false, cond_true, cond_false, If_t, If_f, beq_b, iBeq_self, iBne_self, eqv2, inU_1, inU_0]
      | false =>
        rw [e0, e1] at hk
        rw [e2] at ht
        have hk' : Z.key k = true := hk
        have ht' : O.fright t = true := ht
        have h1 := G.hold k (Z.prn k A (O.pbase t)) A (O.pbase t) h_k hk' (G.pb t)
        have sf := G.sF k (Z.prn k A (O.pbase t)) A (O.pbase t)
        have sS := G.sS k (Z.prn k A (O.pbase t)) A (O.pbase t)
        have sR := G.sR (Z.prn k A (O.pbase t)) (O.pbase t)
        simp only [hk', ht', G.pb, cond_true, Bool.and_self]
        generalize Z.aS k (Z.prn k A (O.pbase t)) A (O.pbase t) = X at *
        generalize Z.aR (Z.prn k A (O.pbase t)) (O.pbase t) = R at *
        have h2 := G.shift (O.pbase k) A t R X sf
        rw [h1] at h2
        have h2 := h2.symm
        have h3 := G.subadd X t h_t ht'
        have h4 := G.uniq (O.pbase k) A R (O.fadd X t) X (F.fadd _ _) sS h2 sf
        rw [G.add0 X t sS sf h_t ht'] at h4
        cases eo : O.fright other with
        | true =>
          have h5 := G.uniq (O.pbase k) A R (O.fadd X t) (O.fadd X other) (F.fadd _ _) (F.fadd _ _) h2 (G.aF _ _)
          rw [G.inj X other t h_other h_t eo ht'] at h5
          simp only [h_k, h_t, h_other, hAm, sf, sS, sR, h1, h2, h3, h4, h5, eo, F.fadd, F.fsub, F.fmul, F.padd, F.pneg, F.pbase, F.pscale, F.pall, F.ffrom, F.tH, G.sR, G.sS, G.sF, G.aF, G.bF, G.pb, G.p1, Bool.and_self, Bool.and_true, Bool.true_and, Bool.and_false, Bool.false_and, Bool.not_true, Bool.not_false, Bool.or_true, Bool.true_or, Bool.false_or, Bool.or_false, cond_true, cond_false, If_t, If_f, beq_b, iBeq_self, iBne_self, eqv2, inU_1, inU_0]
        | false =>
          have hne : iBeq other t = false := ne_fr eo ht'
          simp only [h_k, h_t, h_other, hAm, sf, sS, sR, h1, h2, h3, h4, hne, eo, G.chk0, F.fadd, F.fsub, F.fmul, F.padd, F.pneg, F.pbase, F.pscale, F.pall, F.ffrom, F.tH, G.sR, G.sS, G.sF, G.aF, G.bF, G.pb, G.p1, Bool.and_self, Bool.and_true, Bool.true_and, Bool.and_false, Bool.false_and, Bool.not_true, Bool.not_false, Bool.or_true, Bool.true_or, Bool.false_or, Bool.or_false, cond_true, cond_false, If_t, If_f, beq_b, iBeq_self, iBne_self, eqv2, inU_1, inU_0]
theorem wpc_sgAdapts (O : OO) (Z : OZ) (k t other : Int) (m : Nat → Int) (F : FO O) (G : FZ O Z) (h_k : inU k 18446744073709551616 = true) (h_t : inU t 18446744073709551616 = true) (h_other : inU other 18446744073709551616 = true) (h_m : O.isH (AV m) = true) : wpcI Try.prog (spZ5 O Z) Try.f5.ntmps [] (bodyOf Try.f5) 0 0 (argEnv [.int .u64 k, .int .u64 t, .agg (AV m), .int .u64 other] 0) [] (retK Try.prog Try.f5.results.toList (.bool true)) :=
  Eq.mpr (by kernel_rfl) (vc_sgAdapts O Z k t other m F G h_k h_t h_other h_m)
theorem walk_sgAdapts (k : Nat) (hb_k : k < 18446744073709551616) (t : Nat) (hb_t : t < 18446744073709551616) (l_m : List Nat) (hl_m : l_m.length = 32) (hb_m : ∀ i, l_m.getD i 0 < 256) (other : Nat) (hb_other : other < 18446744073709551616) (w : World) : Calls Try.prog 5 #[.int .u64 (k : Int), .int .u64 (t : Int), B8 l_m, .int .u64 (other : Int)] w fun e w' => e = .returned (.bool true) ∧ Kp w w' := by
  obtain ⟨m, e_m, i_m⟩ := bcs_AV l_m hl_m hb_m
  rw [show (B8 l_m : Value) = .agg (AV m) from congrArg Value.agg e_m]
  exact (calls_realI (I := I0) (spZ5_ok I0 oo rfl (zO oo) rfl) (by kernel_rfl) [] (l := [.int .u64 (k : Int), .int .u64 (t : Int), .agg (AV m), .int .u64 (other : Int)]) Try.func5 (by kernel_rfl) rfl Try.ntmps5 (by simp) (wpc_sgAdapts oo (zO oo) (k : Int) (t : Int) (other : Int) m (fo_oo oo rfl) fz_oo (inU_of hb_k) (inU_of hb_t) (inU_of hb_other) (isH_oo i_m)) w).mono fun _ _ ⟨he, hf⟩ => ⟨he, fr_below hf⟩
set_option maxHeartbeats 4000000 in
theorem vc_sgSwaps (O : OO) (Z : OZ) (a b t : Int) (m n : Nat → Int) (F : FO O) (G : FZ O Z) (h_a : inU a 18446744073709551616 = true) (h_b : inU b 18446744073709551616 = true) (h_t : inU t 18446744073709551616 = true) (h_m : O.isH (AV m) = true) (h_n : O.isH (AV n) = true) :
  If (iBeq a 0) (Value.bool true = Value.bool true)
    (If (iLe 2305843009213688669 a) (Value.bool true = Value.bool true)
      (If (iBeq b 0) (Value.bool true = Value.bool true)
        (If (iLe 2305843009213688669 b) (Value.bool true = Value.bool true)
          (If (iLe 2305843009213688669 t) (Value.bool true = Value.bool true)
            (If (inU t 18446744073709551616)
              (If (inU a 18446744073709551616 && inU (O.pbase t) 18446744073709551616 && O.isH (Array.mk (List.map (Value.int IntKind.u8) (tabI m 32))))
                (If (inU t 18446744073709551616)
                  (If (inU b 18446744073709551616 && inU (O.pbase t) 18446744073709551616 && O.isH (Array.mk (List.map (Value.int IntKind.u8) (tabI n 32))))
                    (If
                      (inU (bif Z.key a && O.pright (O.pbase t) then Z.aR (Z.prn a (Array.mk (List.map (Value.int IntKind.u8) (tabI m 32))) (O.pbase t)) (O.pbase t) else 0) 18446744073709551616 &&
                          inU
                            (bif Z.key a && O.pright (O.pbase t) then
                              Z.aS a (Z.prn a (Array.mk (List.map (Value.int IntKind.u8) (tabI m 32))) (O.pbase t)) (Array.mk (List.map (Value.int IntKind.u8) (tabI m 32))) (O.pbase t)
                            else 0)
                            18446744073709551616 &&
                        inU t 18446744073709551616)
                      (If
                        (inU (bif Z.key a && O.pright (O.pbase t) then Z.aR (Z.prn a (Array.mk (List.map (Value.int IntKind.u8) (tabI m 32))) (O.pbase t)) (O.pbase t) else 0) 18446744073709551616 &&
                              inU
                                (bif Z.key a && O.pright (O.pbase t) then
                                  Z.aS a (Z.prn a (Array.mk (List.map (Value.int IntKind.u8) (tabI m 32))) (O.pbase t)) (Array.mk (List.map (Value.int IntKind.u8) (tabI m 32))) (O.pbase t)
                                else 0)
                                18446744073709551616 &&
                            inU
                              (bif
                                  O.fright
                                      (bif Z.key a && O.pright (O.pbase t) then
                                        Z.aS a (Z.prn a (Array.mk (List.map (Value.int IntKind.u8) (tabI m 32))) (O.pbase t)) (Array.mk (List.map (Value.int IntKind.u8) (tabI m 32))) (O.pbase t)
                                      else 0) &&
                                    O.fright t then
                                bif Z.key a && O.pright (O.pbase t) then Z.aR (Z.prn a (Array.mk (List.map (Value.int IntKind.u8) (tabI m 32))) (O.pbase t)) (O.pbase t) else 0
                              else 0)
                              18446744073709551616 &&
                          inU
                            (bif
                                O.fright
                                    (bif Z.key a && O.pright (O.pbase t) then
                                      Z.aS a (Z.prn a (Array.mk (List.map (Value.int IntKind.u8) (tabI m 32))) (O.pbase t)) (Array.mk (List.map (Value.int IntKind.u8) (tabI m 32))) (O.pbase t)
                                    else 0) &&
                                  O.fright t then
                              O.fadd
                                (bif Z.key a && O.pright (O.pbase t) then
                                  Z.aS a (Z.prn a (Array.mk (List.map (Value.int IntKind.u8) (tabI m 32))) (O.pbase t)) (Array.mk (List.map (Value.int IntKind.u8) (tabI m 32))) (O.pbase t)
                                else 0)
                                t
                            else 0)
                            18446744073709551616)
                        (If
                          (inU (bif Z.key b && O.pright (O.pbase t) then Z.aR (Z.prn b (Array.mk (List.map (Value.int IntKind.u8) (tabI n 32))) (O.pbase t)) (O.pbase t) else 0) 18446744073709551616 &&
                              inU
                                (bif Z.key b && O.pright (O.pbase t) then
                                  Z.aS b (Z.prn b (Array.mk (List.map (Value.int IntKind.u8) (tabI n 32))) (O.pbase t)) (Array.mk (List.map (Value.int IntKind.u8) (tabI n 32))) (O.pbase t)
                                else 0)
                                18446744073709551616 &&
                            inU
                              (bif
                                  O.fright
                                      (bif Z.key a && O.pright (O.pbase t) then
                                        Z.aS a (Z.prn a (Array.mk (List.map (Value.int IntKind.u8) (tabI m 32))) (O.pbase t)) (Array.mk (List.map (Value.int IntKind.u8) (tabI m 32))) (O.pbase t)
                                      else 0) &&
                                    O.fright
                                      (bif
                                          O.fright
                                              (bif Z.key a && O.pright (O.pbase t) then
                                                Z.aS a (Z.prn a (Array.mk (List.map (Value.int IntKind.u8) (tabI m 32))) (O.pbase t)) (Array.mk (List.map (Value.int IntKind.u8) (tabI m 32))) (O.pbase t)
                                              else 0) &&
                                            O.fright t then
                                        O.fadd
                                          (bif Z.key a && O.pright (O.pbase t) then
                                            Z.aS a (Z.prn a (Array.mk (List.map (Value.int IntKind.u8) (tabI m 32))) (O.pbase t)) (Array.mk (List.map (Value.int IntKind.u8) (tabI m 32))) (O.pbase t)
                                          else 0)
                                          t
                                      else 0) then
                                O.fsub
                                  (bif
                                      O.fright
                                          (bif Z.key a && O.pright (O.pbase t) then
                                            Z.aS a (Z.prn a (Array.mk (List.map (Value.int IntKind.u8) (tabI m 32))) (O.pbase t)) (Array.mk (List.map (Value.int IntKind.u8) (tabI m 32))) (O.pbase t)
                                          else 0) &&
                                        O.fright t then
                                    O.fadd
                                      (bif Z.key a && O.pright (O.pbase t) then
                                        Z.aS a (Z.prn a (Array.mk (List.map (Value.int IntKind.u8) (tabI m 32))) (O.pbase t)) (Array.mk (List.map (Value.int IntKind.u8) (tabI m 32))) (O.pbase t)
                                      else 0)
                                      t
                                  else 0)
                                  (bif Z.key a && O.pright (O.pbase t) then
                                    Z.aS a (Z.prn a (Array.mk (List.map (Value.int IntKind.u8) (tabI m 32))) (O.pbase t)) (Array.mk (List.map (Value.int IntKind.u8) (tabI m 32))) (O.pbase t)
                                  else 0)
                              else 0)
                              18446744073709551616)
                          (If (inU a 18446744073709551616)
                            (If
                              (inU (O.pbase a) 18446744073709551616 &&
                                    inU
                                      (bif
                                          O.fright
                                              (bif Z.key a && O.pright (O.pbase t) then
                                                Z.aS a (Z.prn a (Array.mk (List.map (Value.int IntKind.u8) (tabI m 32))) (O.pbase t)) (Array.mk (List.map (Value.int IntKind.u8) (tabI m 32))) (O.pbase t)
                                              else 0) &&
                                            O.fright t then
                                        bif Z.key a && O.pright (O.pbase t) then Z.aR (Z.prn a (Array.mk (List.map (Value.int IntKind.u8) (tabI m 32))) (O.pbase t)) (O.pbase t) else 0
                                      else 0)
                                      18446744073709551616 &&
                                  inU
                                    (bif
                                        O.fright
                                            (bif Z.key a && O.pright (O.pbase t) then
                                              Z.aS a (Z.prn a (Array.mk (List.map (Value.int IntKind.u8) (tabI m 32))) (O.pbase t)) (Array.mk (List.map (Value.int IntKind.u8) (tabI m 32))) (O.pbase t)
                                            else 0) &&
                                          O.fright t then
                                      O.fadd
                                        (bif Z.key a && O.pright (O.pbase t) then
                                          Z.aS a (Z.prn a (Array.mk (List.map (Value.int IntKind.u8) (tabI m 32))) (O.pbase t)) (Array.mk (List.map (Value.int IntKind.u8) (tabI m 32))) (O.pbase t)
                                        else 0)
                                        t
                                    else 0)
                                    18446744073709551616 &&
                                O.isH (Array.mk (List.map (Value.int IntKind.u8) (tabI m 32))))
                              (If
                                (Z.chk (O.pbase a) (Array.mk (List.map (Value.int IntKind.u8) (tabI m 32))) 1
                                  (bif
                                      O.fright
                                          (bif Z.key a && O.pright (O.pbase t) then
                                            Z.aS a (Z.prn a (Array.mk (List.map (Value.int IntKind.u8) (tabI m 32))) (O.pbase t)) (Array.mk (List.map (Value.int IntKind.u8) (tabI m 32))) (O.pbase t)
                                          else 0) &&
                                        O.fright t then
                                    bif Z.key a && O.pright (O.pbase t) then Z.aR (Z.prn a (Array.mk (List.map (Value.int IntKind.u8) (tabI m 32))) (O.pbase t)) (O.pbase t) else 0
                                  else 0)
                                  (bif
                                      O.fright
                                          (bif Z.key a && O.pright (O.pbase t) then
                                            Z.aS a (Z.prn a (Array.mk (List.map (Value.int IntKind.u8) (tabI m 32))) (O.pbase t)) (Array.mk (List.map (Value.int IntKind.u8) (tabI m 32))) (O.pbase t)
                                          else 0) &&
                                        O.fright t then
                                    O.fadd
                                      (bif Z.key a && O.pright (O.pbase t) then
                                        Z.aS a (Z.prn a (Array.mk (List.map (Value.int IntKind.u8) (tabI m 32))) (O.pbase t)) (Array.mk (List.map (Value.int IntKind.u8) (tabI m 32))) (O.pbase t)
                                      else 0)
                                      t
                                  else 0))
                                (If (inU b 18446744073709551616)
                                  (If
                                    (inU (O.pbase b) 18446744073709551616 &&
                                          inU
                                            (bif
                                                O.fright
                                                    (bif Z.key b && O.pright (O.pbase t) then
                                                      Z.aS b (Z.prn b (Array.mk (List.map (Value.int IntKind.u8) (tabI n 32))) (O.pbase t)) (Array.mk (List.map (Value.int IntKind.u8) (tabI n 32)))
                                                        (O.pbase t)
                                                    else 0) &&
                                                  O.fright
                                                    (bif
                                                        O.fright
                                                            (bif Z.key a && O.pright (O.pbase t) then
                                                              Z.aS a (Z.prn a (Array.mk (List.map (Value.int IntKind.u8) (tabI m 32))) (O.pbase t))
                                                                (Array.mk (List.map (Value.int IntKind.u8) (tabI m 32))) (O.pbase t)
                                                            else 0) &&
                                                          O.fright
                                                            (bif
                                                                O.fright
                                                                    (bif Z.key a && O.pright (O.pbase t) then
                                                                      Z.aS a (Z.prn a (Array.mk (List.map (Value.int IntKind.u8) (tabI m 32))) (O.pbase t))
                                                                        (Array.mk (List.map (Value.int IntKind.u8) (tabI m 32))) (O.pbase t)
                                                                    else 0) &&
                                                                  O.fright t then
                                                              O.fadd
                                                                (bif Z.key a && O.pright (O.pbase t) then
                                                                  Z.aS a (Z.prn a (Array.mk (List.map (Value.int IntKind.u8) (tabI m 32))) (O.pbase t))
                                                                    (Array.mk (List.map (Value.int IntKind.u8) (tabI m 32))) (O.pbase t)
                                                                else 0)
                                                                t
                                                            else 0) then
                                                      O.fsub
                                                        (bif
                                                            O.fright
                                                                (bif Z.key a && O.pright (O.pbase t) then
                                                                  Z.aS a (Z.prn a (Array.mk (List.map (Value.int IntKind.u8) (tabI m 32))) (O.pbase t))
                                                                    (Array.mk (List.map (Value.int IntKind.u8) (tabI m 32))) (O.pbase t)
                                                                else 0) &&
                                                              O.fright t then
                                                          O.fadd
                                                            (bif Z.key a && O.pright (O.pbase t) then
                                                              Z.aS a (Z.prn a (Array.mk (List.map (Value.int IntKind.u8) (tabI m 32))) (O.pbase t))
                                                                (Array.mk (List.map (Value.int IntKind.u8) (tabI m 32))) (O.pbase t)
                                                            else 0)
                                                            t
                                                        else 0)
                                                        (bif Z.key a && O.pright (O.pbase t) then
                                                          Z.aS a (Z.prn a (Array.mk (List.map (Value.int IntKind.u8) (tabI m 32))) (O.pbase t)) (Array.mk (List.map (Value.int IntKind.u8) (tabI m 32)))
                                                            (O.pbase t)
                                                        else 0)
                                                    else 0) then
                                              bif Z.key b && O.pright (O.pbase t) then Z.aR (Z.prn b (Array.mk (List.map (Value.int IntKind.u8) (tabI n 32))) (O.pbase t)) (O.pbase t) else 0
                                            else 0)
                                            18446744073709551616 &&
                                        inU
                                          (bif
                                              O.fright
                                                  (bif Z.key b && O.pright (O.pbase t) then
                                                    Z.aS b (Z.prn b (Array.mk (List.map (Value.int IntKind.u8) (tabI n 32))) (O.pbase t)) (Array.mk (List.map (Value.int IntKind.u8) (tabI n 32)))
                                                      (O.pbase t)
                                                  else 0) &&
                                                O.fright
                                                  (bif
                                                      O.fright
                                                          (bif Z.key a && O.pright (O.pbase t) then
                                                            Z.aS a (Z.prn a (Array.mk (List.map (Value.int IntKind.u8) (tabI m 32))) (O.pbase t)) (Array.mk (List.map (Value.int IntKind.u8) (tabI m 32)))
                                                              (O.pbase t)
                                                          else 0) &&
                                                        O.fright
                                                          (bif
                                                              O.fright
                                                                  (bif Z.key a && O.pright (O.pbase t) then
                                                                    Z.aS a (Z.prn a (Array.mk (List.map (Value.int IntKind.u8) (tabI m 32))) (O.pbase t))
                                                                      (Array.mk (List.map (Value.int IntKind.u8) (tabI m 32))) (O.pbase t)
                                                                  else 0) &&
                                                                O.fright t then
                                                            O.fadd
                                                              (bif Z.key a && O.pright (O.pbase t) then
                                                                Z.aS a (Z.prn a (Array.mk (List.map (Value.int IntKind.u8) (tabI m 32))) (O.pbase t))
                                                                  (Array.mk (List.map (Value.int IntKind.u8) (tabI m 32))) (O.pbase t)
                                                              else 0)
                                                              t
                                                          else 0) then
                                                    O.fsub
                                                      (bif
                                                          O.fright
                                                              (bif Z.key a && O.pright (O.pbase t) then
                                                                Z.aS a (Z.prn a (Array.mk (List.map (Value.int IntKind.u8) (tabI m 32))) (O.pbase t))
                                                                  (Array.mk (List.map (Value.int IntKind.u8) (tabI m 32))) (O.pbase t)
                                                              else 0) &&
                                                            O.fright t then
                                                        O.fadd
                                                          (bif Z.key a && O.pright (O.pbase t) then
                                                            Z.aS a (Z.prn a (Array.mk (List.map (Value.int IntKind.u8) (tabI m 32))) (O.pbase t)) (Array.mk (List.map (Value.int IntKind.u8) (tabI m 32)))
                                                              (O.pbase t)
                                                          else 0)
                                                          t
                                                      else 0)
                                                      (bif Z.key a && O.pright (O.pbase t) then
                                                        Z.aS a (Z.prn a (Array.mk (List.map (Value.int IntKind.u8) (tabI m 32))) (O.pbase t)) (Array.mk (List.map (Value.int IntKind.u8) (tabI m 32)))
                                                          (O.pbase t)
                                                      else 0)
                                                  else 0) then
                                            O.fadd
                                              (bif Z.key b && O.pright (O.pbase t) then
                                                Z.aS b (Z.prn b (Array.mk (List.map (Value.int IntKind.u8) (tabI n 32))) (O.pbase t)) (Array.mk (List.map (Value.int IntKind.u8) (tabI n 32))) (O.pbase t)
                                              else 0)
                                              (bif
                                                  O.fright
                                                      (bif Z.key a && O.pright (O.pbase t) then
                                                        Z.aS a (Z.prn a (Array.mk (List.map (Value.int IntKind.u8) (tabI m 32))) (O.pbase t)) (Array.mk (List.map (Value.int IntKind.u8) (tabI m 32)))
                                                          (O.pbase t)
                                                      else 0) &&
                                                    O.fright
                                                      (bif
                                                          O.fright
                                                              (bif Z.key a && O.pright (O.pbase t) then
                                                                Z.aS a (Z.prn a (Array.mk (List.map (Value.int IntKind.u8) (tabI m 32))) (O.pbase t))
                                                                  (Array.mk (List.map (Value.int IntKind.u8) (tabI m 32))) (O.pbase t)
                                                              else 0) &&
                                                            O.fright t then
                                                        O.fadd
                                                          (bif Z.key a && O.pright (O.pbase t) then
                                                            Z.aS a (Z.prn a (Array.mk (List.map (Value.int IntKind.u8) (tabI m 32))) (O.pbase t)) (Array.mk (List.map (Value.int IntKind.u8) (tabI m 32)))
                                                              (O.pbase t)
                                                          else 0)
                                                          t
                                                      else 0) then
                                                O.fsub
                                                  (bif
                                                      O.fright
                                                          (bif Z.key a && O.pright (O.pbase t) then
                                                            Z.aS a (Z.prn a (Array.mk (List.map (Value.int IntKind.u8) (tabI m 32))) (O.pbase t)) (Array.mk (List.map (Value.int IntKind.u8) (tabI m 32)))
                                                              (O.pbase t)
                                                          else 0) &&
                                                        O.fright t then
                                                    O.fadd
                                                      (bif Z.key a && O.pright (O.pbase t) then
                                                        Z.aS a (Z.prn a (Array.mk (List.map (Value.int IntKind.u8) (tabI m 32))) (O.pbase t)) (Array.mk (List.map (Value.int IntKind.u8) (tabI m 32)))
                                                          (O.pbase t)
                                                      else 0)
                                                      t
                                                  else 0)
                                                  (bif Z.key a && O.pright (O.pbase t) then
                                                    Z.aS a (Z.prn a (Array.mk (List.map (Value.int IntKind.u8) (tabI m 32))) (O.pbase t)) (Array.mk (List.map (Value.int IntKind.u8) (tabI m 32)))
                                                      (O.pbase t)
                                                  else 0)
                                              else 0)
                                          else 0)
                                          18446744073709551616 &&
                                      O.isH (Array.mk (List.map (Value.int IntKind.u8) (tabI n 32))))
                                    (If
                                      (Z.chk (O.pbase b) (Array.mk (List.map (Value.int IntKind.u8) (tabI n 32))) 1
                                        (bif
                                            O.fright
                                                (bif Z.key b && O.pright (O.pbase t) then
                                                  Z.aS b (Z.prn b (Array.mk (List.map (Value.int IntKind.u8) (tabI n 32))) (O.pbase t)) (Array.mk (List.map (Value.int IntKind.u8) (tabI n 32)))
                                                    (O.pbase t)
                                                else 0) &&
                                              O.fright
                                                (bif
                                                    O.fright
                                                        (bif Z.key a && O.pright (O.pbase t) then
                                                          Z.aS a (Z.prn a (Array.mk (List.map (Value.int IntKind.u8) (tabI m 32))) (O.pbase t)) (Array.mk (List.map (Value.int IntKind.u8) (tabI m 32)))
                                                            (O.pbase t)
                                                        else 0) &&
                                                      O.fright
                                                        (bif
                                                            O.fright
                                                                (bif Z.key a && O.pright (O.pbase t) then
                                                                  Z.aS a (Z.prn a (Array.mk (List.map (Value.int IntKind.u8) (tabI m 32))) (O.pbase t))
                                                                    (Array.mk (List.map (Value.int IntKind.u8) (tabI m 32))) (O.pbase t)
                                                                else 0) &&
                                                              O.fright t then
                                                          O.fadd
                                                            (bif Z.key a && O.pright (O.pbase t) then
                                                              Z.aS a (Z.prn a (Array.mk (List.map (Value.int IntKind.u8) (tabI m 32))) (O.pbase t))
                                                                (Array.mk (List.map (Value.int IntKind.u8) (tabI m 32))) (O.pbase t)
                                                            else 0)
                                                            t
                                                        else 0) then
                                                  O.fsub
                                                    (bif
                                                        O.fright
                                                            (bif Z.key a && O.pright (O.pbase t) then
                                                              Z.aS a (Z.prn a (Array.mk (List.map (Value.int IntKind.u8) (tabI m 32))) (O.pbase t))
                                                                (Array.mk (List.map (Value.int IntKind.u8) (tabI m 32))) (O.pbase t)
                                                            else 0) &&
                                                          O.fright t then
                                                      O.fadd
                                                        (bif Z.key a && O.pright (O.pbase t) then
                                                          Z.aS a (Z.prn a (Array.mk (List.map (Value.int IntKind.u8) (tabI m 32))) (O.pbase t)) (Array.mk (List.map (Value.int IntKind.u8) (tabI m 32)))
                                                            (O.pbase t)
                                                        else 0)
                                                        t
                                                    else 0)
                                                    (bif Z.key a && O.pright (O.pbase t) then
                                                      Z.aS a (Z.prn a (Array.mk (List.map (Value.int IntKind.u8) (tabI m 32))) (O.pbase t)) (Array.mk (List.map (Value.int IntKind.u8) (tabI m 32)))
                                                        (O.pbase t)
                                                    else 0)
                                                else 0) then
                                          bif Z.key b && O.pright (O.pbase t) then Z.aR (Z.prn b (Array.mk (List.map (Value.int IntKind.u8) (tabI n 32))) (O.pbase t)) (O.pbase t) else 0
                                        else 0)
                                        (bif
                                            O.fright
                                                (bif Z.key b && O.pright (O.pbase t) then
                                                  Z.aS b (Z.prn b (Array.mk (List.map (Value.int IntKind.u8) (tabI n 32))) (O.pbase t)) (Array.mk (List.map (Value.int IntKind.u8) (tabI n 32)))
                                                    (O.pbase t)
                                                else 0) &&
                                              O.fright
                                                (bif
                                                    O.fright
                                                        (bif Z.key a && O.pright (O.pbase t) then
                                                          Z.aS a (Z.prn a (Array.mk (List.map (Value.int IntKind.u8) (tabI m 32))) (O.pbase t)) (Array.mk (List.map (Value.int IntKind.u8) (tabI m 32)))
                                                            (O.pbase t)
                                                        else 0) &&
                                                      O.fright
                                                        (bif
                                                            O.fright
                                                                (bif Z.key a && O.pright (O.pbase t) then
                                                                  Z.aS a (Z.prn a (Array.mk (List.map (Value.int IntKind.u8) (tabI m 32))) (O.pbase t))
                                                                    (Array.mk (List.map (Value.int IntKind.u8) (tabI m 32))) (O.pbase t)
                                                                else 0) &&
                                                              O.fright t then
                                                          O.fadd
                                                            (bif Z.key a && O.pright (O.pbase t) then
                                                              Z.aS a (Z.prn a (Array.mk (List.map (Value.int IntKind.u8) (tabI m 32))) (O.pbase t))
                                                                (Array.mk (List.map (Value.int IntKind.u8) (tabI m 32))) (O.pbase t)
                                                            else 0)
                                                            t
                                                        else 0) then
                                                  O.fsub
                                                    (bif
                                                        O.fright
                                                            (bif Z.key a && O.pright (O.pbase t) then
                                                              Z.aS a (Z.prn a (Array.mk (List.map (Value.int IntKind.u8) (tabI m 32))) (O.pbase t))
                                                                (Array.mk (List.map (Value.int IntKind.u8) (tabI m 32))) (O.pbase t)
                                                            else 0) &&
                                                          O.fright t then
                                                      O.fadd
                                                        (bif Z.key a && O.pright (O.pbase t) then
                                                          Z.aS a (Z.prn a (Array.mk (List.map (Value.int IntKind.u8) (tabI m 32))) (O.pbase t)) (Array.mk (List.map (Value.int IntKind.u8) (tabI m 32)))
                                                            (O.pbase t)
                                                        else 0)
                                                        t
                                                    else 0)
                                                    (bif Z.key a && O.pright (O.pbase t) then
                                                      Z.aS a (Z.prn a (Array.mk (List.map (Value.int IntKind.u8) (tabI m 32))) (O.pbase t)) (Array.mk (List.map (Value.int IntKind.u8) (tabI m 32)))
                                                        (O.pbase t)
                                                    else 0)
                                                else 0) then
                                          O.fadd
                                            (bif Z.key b && O.pright (O.pbase t) then
                                              Z.aS b (Z.prn b (Array.mk (List.map (Value.int IntKind.u8) (tabI n 32))) (O.pbase t)) (Array.mk (List.map (Value.int IntKind.u8) (tabI n 32))) (O.pbase t)
                                            else 0)
                                            (bif
                                                O.fright
                                                    (bif Z.key a && O.pright (O.pbase t) then
                                                      Z.aS a (Z.prn a (Array.mk (List.map (Value.int IntKind.u8) (tabI m 32))) (O.pbase t)) (Array.mk (List.map (Value.int IntKind.u8) (tabI m 32)))
                                                        (O.pbase t)
                                                    else 0) &&
                                                  O.fright
                                                    (bif
                                                        O.fright
                                                            (bif Z.key a && O.pright (O.pbase t) then
                                                              Z.aS a (Z.prn a (Array.mk (List.map (Value.int IntKind.u8) (tabI m 32))) (O.pbase t))
                                                                (Array.mk (List.map (Value.int IntKind.u8) (tabI m 32))) (O.pbase t)
                                                            else 0) &&
                                                          O.fright t then
                                                      O.fadd
                                                        (bif Z.key a && O.pright (O.pbase t) then
                                                          Z.aS a (Z.prn a (Array.mk (List.map (Value.int IntKind.u8) (tabI m 32))) (O.pbase t)) (Array.mk (List.map (Value.int IntKind.u8) (tabI m 32)))
                                                            (O.pbase t)
                                                        else 0)
                                                        t
                                                    else 0) then
                                              O.fsub
                                                (bif
                                                    O.fright
                                                        (bif Z.key a && O.pright (O.pbase t) then
                                                          Z.aS a (Z.prn a (Array.mk (List.map (Value.int IntKind.u8) (tabI m 32))) (O.pbase t)) (Array.mk (List.map (Value.int IntKind.u8) (tabI m 32)))
                                                            (O.pbase t)
                                                        else 0) &&
                                                      O.fright t then
                                                  O.fadd
                                                    (bif Z.key a && O.pright (O.pbase t) then
                                                      Z.aS a (Z.prn a (Array.mk (List.map (Value.int IntKind.u8) (tabI m 32))) (O.pbase t)) (Array.mk (List.map (Value.int IntKind.u8) (tabI m 32)))
                                                        (O.pbase t)
                                                    else 0)
                                                    t
                                                else 0)
                                                (bif Z.key a && O.pright (O.pbase t) then
                                                  Z.aS a (Z.prn a (Array.mk (List.map (Value.int IntKind.u8) (tabI m 32))) (O.pbase t)) (Array.mk (List.map (Value.int IntKind.u8) (tabI m 32)))
                                                    (O.pbase t)
                                                else 0)
                                            else 0)
                                        else 0))
                                      (If
                                        (inU
                                          (bif
                                              O.fright
                                                  (bif Z.key a && O.pright (O.pbase t) then
                                                    Z.aS a (Z.prn a (Array.mk (List.map (Value.int IntKind.u8) (tabI m 32))) (O.pbase t)) (Array.mk (List.map (Value.int IntKind.u8) (tabI m 32)))
                                                      (O.pbase t)
                                                  else 0) &&
                                                O.fright
                                                  (bif
                                                      O.fright
                                                          (bif Z.key a && O.pright (O.pbase t) then
                                                            Z.aS a (Z.prn a (Array.mk (List.map (Value.int IntKind.u8) (tabI m 32))) (O.pbase t)) (Array.mk (List.map (Value.int IntKind.u8) (tabI m 32)))
                                                              (O.pbase t)
                                                          else 0) &&
                                                        O.fright t then
                                                    O.fadd
                                                      (bif Z.key a && O.pright (O.pbase t) then
                                                        Z.aS a (Z.prn a (Array.mk (List.map (Value.int IntKind.u8) (tabI m 32))) (O.pbase t)) (Array.mk (List.map (Value.int IntKind.u8) (tabI m 32)))
                                                          (O.pbase t)
                                                      else 0)
                                                      t
                                                  else 0) then
                                            O.fsub
                                              (bif
                                                  O.fright
                                                      (bif Z.key a && O.pright (O.pbase t) then
                                                        Z.aS a (Z.prn a (Array.mk (List.map (Value.int IntKind.u8) (tabI m 32))) (O.pbase t)) (Array.mk (List.map (Value.int IntKind.u8) (tabI m 32)))
                                                          (O.pbase t)
                                                      else 0) &&
                                                    O.fright t then
                                                O.fadd
                                                  (bif Z.key a && O.pright (O.pbase t) then
                                                    Z.aS a (Z.prn a (Array.mk (List.map (Value.int IntKind.u8) (tabI m 32))) (O.pbase t)) (Array.mk (List.map (Value.int IntKind.u8) (tabI m 32)))
                                                      (O.pbase t)
                                                  else 0)
                                                  t
                                              else 0)
                                              (bif Z.key a && O.pright (O.pbase t) then
                                                Z.aS a (Z.prn a (Array.mk (List.map (Value.int IntKind.u8) (tabI m 32))) (O.pbase t)) (Array.mk (List.map (Value.int IntKind.u8) (tabI m 32))) (O.pbase t)
                                              else 0)
                                          else 0)
                                          18446744073709551616)
                                        (If (inU t 18446744073709551616)
                                          (If
                                            (iBeq
                                              (O.pbase
                                                (bif
                                                    O.fright
                                                        (bif Z.key a && O.pright (O.pbase t) then
                                                          Z.aS a (Z.prn a (Array.mk (List.map (Value.int IntKind.u8) (tabI m 32))) (O.pbase t)) (Array.mk (List.map (Value.int IntKind.u8) (tabI m 32)))
                                                            (O.pbase t)
                                                        else 0) &&
                                                      O.fright
                                                        (bif
                                                            O.fright
                                                                (bif Z.key a && O.pright (O.pbase t) then
                                                                  Z.aS a (Z.prn a (Array.mk (List.map (Value.int IntKind.u8) (tabI m 32))) (O.pbase t))
                                                                    (Array.mk (List.map (Value.int IntKind.u8) (tabI m 32))) (O.pbase t)
                                                                else 0) &&
                                                              O.fright t then
                                                          O.fadd
                                                            (bif Z.key a && O.pright (O.pbase t) then
                                                              Z.aS a (Z.prn a (Array.mk (List.map (Value.int IntKind.u8) (tabI m 32))) (O.pbase t))
                                                                (Array.mk (List.map (Value.int IntKind.u8) (tabI m 32))) (O.pbase t)
                                                            else 0)
                                                            t
                                                        else 0) then
                                                  O.fsub
                                                    (bif
                                                        O.fright
                                                            (bif Z.key a && O.pright (O.pbase t) then
                                                              Z.aS a (Z.prn a (Array.mk (List.map (Value.int IntKind.u8) (tabI m 32))) (O.pbase t))
                                                                (Array.mk (List.map (Value.int IntKind.u8) (tabI m 32))) (O.pbase t)
                                                            else 0) &&
                                                          O.fright t then
                                                      O.fadd
                                                        (bif Z.key a && O.pright (O.pbase t) then
                                                          Z.aS a (Z.prn a (Array.mk (List.map (Value.int IntKind.u8) (tabI m 32))) (O.pbase t)) (Array.mk (List.map (Value.int IntKind.u8) (tabI m 32)))
                                                            (O.pbase t)
                                                        else 0)
                                                        t
                                                    else 0)
                                                    (bif Z.key a && O.pright (O.pbase t) then
                                                      Z.aS a (Z.prn a (Array.mk (List.map (Value.int IntKind.u8) (tabI m 32))) (O.pbase t)) (Array.mk (List.map (Value.int IntKind.u8) (tabI m 32)))
                                                        (O.pbase t)
                                                    else 0)
                                                else 0))
                                              (O.pbase t))
                                            (If
                                              (inU (bif Z.key b && O.pright (O.pbase t) then Z.aR (Z.prn b (Array.mk (List.map (Value.int IntKind.u8) (tabI n 32))) (O.pbase t)) (O.pbase t) else 0)
                                                      18446744073709551616 &&
                                                    inU
                                                      (bif Z.key b && O.pright (O.pbase t) then
                                                        Z.aS b (Z.prn b (Array.mk (List.map (Value.int IntKind.u8) (tabI n 32))) (O.pbase t)) (Array.mk (List.map (Value.int IntKind.u8) (tabI n 32)))
                                                          (O.pbase t)
                                                      else 0)
                                                      18446744073709551616 &&
                                                  inU
                                                    (bif
                                                        O.fright
                                                            (bif Z.key b && O.pright (O.pbase t) then
                                                              Z.aS b (Z.prn b (Array.mk (List.map (Value.int IntKind.u8) (tabI n 32))) (O.pbase t))
                                                                (Array.mk (List.map (Value.int IntKind.u8) (tabI n 32))) (O.pbase t)
                                                            else 0) &&
                                                          O.fright
                                                            (bif
                                                                O.fright
                                                                    (bif Z.key a && O.pright (O.pbase t) then
                                                                      Z.aS a (Z.prn a (Array.mk (List.map (Value.int IntKind.u8) (tabI m 32))) (O.pbase t))
                                                                        (Array.mk (List.map (Value.int IntKind.u8) (tabI m 32))) (O.pbase t)
                                                                    else 0) &&
                                                                  O.fright
                                                                    (bif
                                                                        O.fright
                                                                            (bif Z.key a && O.pright (O.pbase t) then
                                                                              Z.aS a (Z.prn a (Array.mk (List.map (Value.int IntKind.u8) (tabI m 32))) (O.pbase t))
                                                                                (Array.mk (List.map (Value.int IntKind.u8) (tabI m 32))) (O.pbase t)
                                                                            else 0) &&
                                                                          O.fright t then
                                                                      O.fadd
                                                                        (bif Z.key a && O.pright (O.pbase t) then
                                                                          Z.aS a (Z.prn a (Array.mk (List.map (Value.int IntKind.u8) (tabI m 32))) (O.pbase t))
                                                                            (Array.mk (List.map (Value.int IntKind.u8) (tabI m 32))) (O.pbase t)
                                                                        else 0)
                                                                        t
                                                                    else 0) then
                                                              O.fsub
                                                                (bif
                                                                    O.fright
                                                                        (bif Z.key a && O.pright (O.pbase t) then
                                                                          Z.aS a (Z.prn a (Array.mk (List.map (Value.int IntKind.u8) (tabI m 32))) (O.pbase t))
                                                                            (Array.mk (List.map (Value.int IntKind.u8) (tabI m 32))) (O.pbase t)
                                                                        else 0) &&
                                                                      O.fright t then
                                                                  O.fadd
                                                                    (bif Z.key a && O.pright (O.pbase t) then
                                                                      Z.aS a (Z.prn a (Array.mk (List.map (Value.int IntKind.u8) (tabI m 32))) (O.pbase t))
                                                                        (Array.mk (List.map (Value.int IntKind.u8) (tabI m 32))) (O.pbase t)
                                                                    else 0)
                                                                    t
                                                                else 0)
                                                                (bif Z.key a && O.pright (O.pbase t) then
                                                                  Z.aS a (Z.prn a (Array.mk (List.map (Value.int IntKind.u8) (tabI m 32))) (O.pbase t))
                                                                    (Array.mk (List.map (Value.int IntKind.u8) (tabI m 32))) (O.pbase t)
                                                                else 0)
                                                            else 0) then
                                                      bif Z.key b && O.pright (O.pbase t) then Z.aR (Z.prn b (Array.mk (List.map (Value.int IntKind.u8) (tabI n 32))) (O.pbase t)) (O.pbase t) else 0
                                                    else 0)
                                                    18446744073709551616 &&
                                                inU
                                                  (bif
                                                      O.fright
                                                          (bif Z.key b && O.pright (O.pbase t) then
                                                            Z.aS b (Z.prn b (Array.mk (List.map (Value.int IntKind.u8) (tabI n 32))) (O.pbase t)) (Array.mk (List.map (Value.int IntKind.u8) (tabI n 32)))
                                                              (O.pbase t)
                                                          else 0) &&
                                                        O.fright
                                                          (bif
                                                              O.fright
                                                                  (bif Z.key a && O.pright (O.pbase t) then
                                                                    Z.aS a (Z.prn a (Array.mk (List.map (Value.int IntKind.u8) (tabI m 32))) (O.pbase t))
                                                                      (Array.mk (List.map (Value.int IntKind.u8) (tabI m 32))) (O.pbase t)
                                                                  else 0) &&
                                                                O.fright
                                                                  (bif
                                                                      O.fright
                                                                          (bif Z.key a && O.pright (O.pbase t) then
                                                                            Z.aS a (Z.prn a (Array.mk (List.map (Value.int IntKind.u8) (tabI m 32))) (O.pbase t))
                                                                              (Array.mk (List.map (Value.int IntKind.u8) (tabI m 32))) (O.pbase t)
                                                                          else 0) &&
                                                                        O.fright t then
                                                                    O.fadd
                                                                      (bif Z.key a && O.pright (O.pbase t) then
                                                                        Z.aS a (Z.prn a (Array.mk (List.map (Value.int IntKind.u8) (tabI m 32))) (O.pbase t))
                                                                          (Array.mk (List.map (Value.int IntKind.u8) (tabI m 32))) (O.pbase t)
                                                                      else 0)
                                                                      t
                                                                  else 0) then
                                                            O.fsub
                                                              (bif
                                                                  O.fright
                                                                      (bif Z.key a && O.pright (O.pbase t) then
                                                                        Z.aS a (Z.prn a (Array.mk (List.map (Value.int IntKind.u8) (tabI m 32))) (O.pbase t))
                                                                          (Array.mk (List.map (Value.int IntKind.u8) (tabI m 32))) (O.pbase t)
                                                                      else 0) &&
                                                                    O.fright t then
                                                                O.fadd
                                                                  (bif Z.key a && O.pright (O.pbase t) then
                                                                    Z.aS a (Z.prn a (Array.mk (List.map (Value.int IntKind.u8) (tabI m 32))) (O.pbase t))
                                                                      (Array.mk (List.map (Value.int IntKind.u8) (tabI m 32))) (O.pbase t)
                                                                  else 0)
                                                                  t
                                                              else 0)
                                                              (bif Z.key a && O.pright (O.pbase t) then
                                                                Z.aS a (Z.prn a (Array.mk (List.map (Value.int IntKind.u8) (tabI m 32))) (O.pbase t))
                                                                  (Array.mk (List.map (Value.int IntKind.u8) (tabI m 32))) (O.pbase t)
                                                              else 0)
                                                          else 0) then
                                                    O.fadd
                                                      (bif Z.key b && O.pright (O.pbase t) then
                                                        Z.aS b (Z.prn b (Array.mk (List.map (Value.int IntKind.u8) (tabI n 32))) (O.pbase t)) (Array.mk (List.map (Value.int IntKind.u8) (tabI n 32)))
                                                          (O.pbase t)
                                                      else 0)
                                                      (bif
                                                          O.fright
                                                              (bif Z.key a && O.pright (O.pbase t) then
                                                                Z.aS a (Z.prn a (Array.mk (List.map (Value.int IntKind.u8) (tabI m 32))) (O.pbase t))
                                                                  (Array.mk (List.map (Value.int IntKind.u8) (tabI m 32))) (O.pbase t)
                                                              else 0) &&
                                                            O.fright
                                                              (bif
                                                                  O.fright
                                                                      (bif Z.key a && O.pright (O.pbase t) then
                                                                        Z.aS a (Z.prn a (Array.mk (List.map (Value.int IntKind.u8) (tabI m 32))) (O.pbase t))
                                                                          (Array.mk (List.map (Value.int IntKind.u8) (tabI m 32))) (O.pbase t)
                                                                      else 0) &&
                                                                    O.fright t then
                                                                O.fadd
                                                                  (bif Z.key a && O.pright (O.pbase t) then
                                                                    Z.aS a (Z.prn a (Array.mk (List.map (Value.int IntKind.u8) (tabI m 32))) (O.pbase t))
                                                                      (Array.mk (List.map (Value.int IntKind.u8) (tabI m 32))) (O.pbase t)
                                                                  else 0)
                                                                  t
                                                              else 0) then
                                                        O.fsub
                                                          (bif
                                                              O.fright
                                                                  (bif Z.key a && O.pright (O.pbase t) then
                                                                    Z.aS a (Z.prn a (Array.mk (List.map (Value.int IntKind.u8) (tabI m 32))) (O.pbase t))
                                                                      (Array.mk (List.map (Value.int IntKind.u8) (tabI m 32))) (O.pbase t)
                                                                  else 0) &&
                                                                O.fright t then
                                                            O.fadd
                                                              (bif Z.key a && O.pright (O.pbase t) then
                                                                Z.aS a (Z.prn a (Array.mk (List.map (Value.int IntKind.u8) (tabI m 32))) (O.pbase t))
                                                                  (Array.mk (List.map (Value.int IntKind.u8) (tabI m 32))) (O.pbase t)
                                                              else 0)
                                                              t
                                                          else 0)
                                                          (bif Z.key a && O.pright (O.pbase t) then
                                                            Z.aS a (Z.prn a (Array.mk (List.map (Value.int IntKind.u8) (tabI m 32))) (O.pbase t)) (Array.mk (List.map (Value.int IntKind.u8) (tabI m 32)))
                                                              (O.pbase t)
                                                          else 0)
                                                      else 0)
                                                  else 0)
                                                  18446744073709551616)
                                              (Value.bool
                                                  (iBeq
                                                    (bif
                                                        O.fright
                                                            (bif Z.key b && O.pright (O.pbase t) then
                                                              Z.aS b (Z.prn b (Array.mk (List.map (Value.int IntKind.u8) (tabI n 32))) (O.pbase t))
                                                                (Array.mk (List.map (Value.int IntKind.u8) (tabI n 32))) (O.pbase t)
                                                            else 0) &&
                                                          O.fright
                                                            (bif
                                                                O.fright
                                                                    (bif Z.key b && O.pright (O.pbase t) then
                                                                      Z.aS b (Z.prn b (Array.mk (List.map (Value.int IntKind.u8) (tabI n 32))) (O.pbase t))
                                                                        (Array.mk (List.map (Value.int IntKind.u8) (tabI n 32))) (O.pbase t)
                                                                    else 0) &&
                                                                  O.fright
                                                                    (bif
                                                                        O.fright
                                                                            (bif Z.key a && O.pright (O.pbase t) then
                                                                              Z.aS a (Z.prn a (Array.mk (List.map (Value.int IntKind.u8) (tabI m 32))) (O.pbase t))
                                                                                (Array.mk (List.map (Value.int IntKind.u8) (tabI m 32))) (O.pbase t)
                                                                            else 0) &&
                                                                          O.fright
                                                                            (bif
                                                                                O.fright
                                                                                    (bif Z.key a && O.pright (O.pbase t) then
                                                                                      Z.aS a (Z.prn a (Array.mk (List.map (Value.int IntKind.u8) (tabI m 32))) (O.pbase t))
                                                                                        (Array.mk (List.map (Value.int IntKind.u8) (tabI m 32))) (O.pbase t)
                                                                                    else 0) &&
                                                                                  O.fright t then
                                                                              O.fadd
                                                                                (bif Z.key a && O.pright (O.pbase t) then
                                                                                  Z.aS a (Z.prn a (Array.mk (List.map (Value.int IntKind.u8) (tabI m 32))) (O.pbase t))
                                                                                    (Array.mk (List.map (Value.int IntKind.u8) (tabI m 32))) (O.pbase t)
                                                                                else 0)
                                                                                t
                                                                            else 0) then
                                                                      O.fsub
                                                                        (bif
                                                                            O.fright
                                                                                (bif Z.key a && O.pright (O.pbase t) then
                                                                                  Z.aS a (Z.prn a (Array.mk (List.map (Value.int IntKind.u8) (tabI m 32))) (O.pbase t))
                                                                                    (Array.mk (List.map (Value.int IntKind.u8) (tabI m 32))) (O.pbase t)
                                                                                else 0) &&
                                                                              O.fright t then
                                                                          O.fadd
                                                                            (bif Z.key a && O.pright (O.pbase t) then
                                                                              Z.aS a (Z.prn a (Array.mk (List.map (Value.int IntKind.u8) (tabI m 32))) (O.pbase t))
                                                                                (Array.mk (List.map (Value.int IntKind.u8) (tabI m 32))) (O.pbase t)
                                                                            else 0)
                                                                            t
                                                                        else 0)
                                                                        (bif Z.key a && O.pright (O.pbase t) then
                                                                          Z.aS a (Z.prn a (Array.mk (List.map (Value.int IntKind.u8) (tabI m 32))) (O.pbase t))
                                                                            (Array.mk (List.map (Value.int IntKind.u8) (tabI m 32))) (O.pbase t)
                                                                        else 0)
                                                                    else 0) then
                                                              O.fadd
                                                                (bif Z.key b && O.pright (O.pbase t) then
                                                                  Z.aS b (Z.prn b (Array.mk (List.map (Value.int IntKind.u8) (tabI n 32))) (O.pbase t))
                                                                    (Array.mk (List.map (Value.int IntKind.u8) (tabI n 32))) (O.pbase t)
                                                                else 0)
                                                                (bif
                                                                    O.fright
                                                                        (bif Z.key a && O.pright (O.pbase t) then
                                                                          Z.aS a (Z.prn a (Array.mk (List.map (Value.int IntKind.u8) (tabI m 32))) (O.pbase t))
                                                                            (Array.mk (List.map (Value.int IntKind.u8) (tabI m 32))) (O.pbase t)
                                                                        else 0) &&
                                                                      O.fright
                                                                        (bif
                                                                            O.fright
                                                                                (bif Z.key a && O.pright (O.pbase t) then
                                                                                  Z.aS a (Z.prn a (Array.mk (List.map (Value.int IntKind.u8) (tabI m 32))) (O.pbase t))
                                                                                    (Array.mk (List.map (Value.int IntKind.u8) (tabI m 32))) (O.pbase t)
                                                                                else 0) &&
                                                                              O.fright t then
                                                                          O.fadd
                                                                            (bif Z.key a && O.pright (O.pbase t) then
                                                                              Z.aS a (Z.prn a (Array.mk (List.map (Value.int IntKind.u8) (tabI m 32))) (O.pbase t))
                                                                                (Array.mk (List.map (Value.int IntKind.u8) (tabI m 32))) (O.pbase t)
                                                                            else 0)
                                                                            t
                                                                        else 0) then
                                                                  O.fsub
                                                                    (bif
                                                                        O.fright
                                                                            (bif Z.key a && O.pright (O.pbase t) then
                                                                              Z.aS a (Z.prn a (Array.mk (List.map (Value.int IntKind.u8) (tabI m 32))) (O.pbase t))
                                                                                (Array.mk (List.map (Value.int IntKind.u8) (tabI m 32))) (O.pbase t)
                                                                            else 0) &&
                                                                          O.fright t then
                                                                      O.fadd
                                                                        (bif Z.key a && O.pright (O.pbase t) then
                                                                          Z.aS a (Z.prn a (Array.mk (List.map (Value.int IntKind.u8) (tabI m 32))) (O.pbase t))
                                                                            (Array.mk (List.map (Value.int IntKind.u8) (tabI m 32))) (O.pbase t)
                                                                        else 0)
                                                                        t
                                                                    else 0)
                                                                    (bif Z.key a && O.pright (O.pbase t) then
                                                                      Z.aS a (Z.prn a (Array.mk (List.map (Value.int IntKind.u8) (tabI m 32))) (O.pbase t))
                                                                        (Array.mk (List.map (Value.int IntKind.u8) (tabI m 32))) (O.pbase t)
                                                                    else 0)
                                                                else 0)
                                                            else 0) then
                                                      O.fsub
                                                        (bif
                                                            O.fright
                                                                (bif Z.key b && O.pright (O.pbase t) then
                                                                  Z.aS b (Z.prn b (Array.mk (List.map (Value.int IntKind.u8) (tabI n 32))) (O.pbase t))
                                                                    (Array.mk (List.map (Value.int IntKind.u8) (tabI n 32))) (O.pbase t)
                                                                else 0) &&
                                                              O.fright
                                                                (bif
                                                                    O.fright
                                                                        (bif Z.key a && O.pright (O.pbase t) then
                                                                          Z.aS a (Z.prn a (Array.mk (List.map (Value.int IntKind.u8) (tabI m 32))) (O.pbase t))
                                                                            (Array.mk (List.map (Value.int IntKind.u8) (tabI m 32))) (O.pbase t)
                                                                        else 0) &&
                                                                      O.fright
                                                                        (bif
                                                                            O.fright
                                                                                (bif Z.key a && O.pright (O.pbase t) then
                                                                                  Z.aS a (Z.prn a (Array.mk (List.map (Value.int IntKind.u8) (tabI m 32))) (O.pbase t))
                                                                                    (Array.mk (List.map (Value.int IntKind.u8) (tabI m 32))) (O.pbase t)
                                                                                else 0) &&
                                                                              O.fright t then
                                                                          O.fadd
                                                                            (bif Z.key a && O.pright (O.pbase t) then
                                                                              Z.aS a (Z.prn a (Array.mk (List.map (Value.int IntKind.u8) (tabI m 32))) (O.pbase t))
                                                                                (Array.mk (List.map (Value.int IntKind.u8) (tabI m 32))) (O.pbase t)
                                                                            else 0)
                                                                            t
                                                                        else 0) then
                                                                  O.fsub
                                                                    (bif
                                                                        O.fright
                                                                            (bif Z.key a && O.pright (O.pbase t) then
                                                                              Z.aS a (Z.prn a (Array.mk (List.map (Value.int IntKind.u8) (tabI m 32))) (O.pbase t))
                                                                                (Array.mk (List.map (Value.int IntKind.u8) (tabI m 32))) (O.pbase t)
                                                                            else 0) &&
                                                                          O.fright t then
                                                                      O.fadd
                                                                        (bif Z.key a && O.pright (O.pbase t) then
                                                                          Z.aS a (Z.prn a (Array.mk (List.map (Value.int IntKind.u8) (tabI m 32))) (O.pbase t))
                                                                            (Array.mk (List.map (Value.int IntKind.u8) (tabI m 32))) (O.pbase t)
                                                                        else 0)
                                                                        t
                                                                    else 0)
                                                                    (bif Z.key a && O.pright (O.pbase t) then
                                                                      Z.aS a (Z.prn a (Array.mk (List.map (Value.int IntKind.u8) (tabI m 32))) (O.pbase t))
                                                                        (Array.mk (List.map (Value.int IntKind.u8) (tabI m 32))) (O.pbase t)
                                                                    else 0)
                                                                else 0) then
                                                          O.fadd
                                                            (bif Z.key b && O.pright (O.pbase t) then
                                                              Z.aS b (Z.prn b (Array.mk (List.map (Value.int IntKind.u8) (tabI n 32))) (O.pbase t))
                                                                (Array.mk (List.map (Value.int IntKind.u8) (tabI n 32))) (O.pbase t)
                                                            else 0)
                                                            (bif
                                                                O.fright
                                                                    (bif Z.key a && O.pright (O.pbase t) then
                                                                      Z.aS a (Z.prn a (Array.mk (List.map (Value.int IntKind.u8) (tabI m 32))) (O.pbase t))
                                                                        (Array.mk (List.map (Value.int IntKind.u8) (tabI m 32))) (O.pbase t)
                                                                    else 0) &&
                                                                  O.fright
                                                                    (bif
                                                                        O.fright
                                                                            (bif Z.key a && O.pright (O.pbase t) then
                                                                              Z.aS a (Z.prn a (Array.mk (List.map (Value.int IntKind.u8) (tabI m 32))) (O.pbase t))
                                                                                (Array.mk (List.map (Value.int IntKind.u8) (tabI m 32))) (O.pbase t)
                                                                            else 0) &&
                                                                          O.fright t then
                                                                      O.fadd
                                                                        (bif Z.key a && O.pright (O.pbase t) then
                                                                          Z.aS a (Z.prn a (Array.mk (List.map (Value.int IntKind.u8) (tabI m 32))) (O.pbase t))
                                                                            (Array.mk (List.map (Value.int IntKind.u8) (tabI m 32))) (O.pbase t)
                                                                        else 0)
                                                                        t
                                                                    else 0) then
                                                              O.fsub
                                                                (bif
                                                                    O.fright
                                                                        (bif Z.key a && O.pright (O.pbase t) then
                                                                          Z.aS a (Z.prn a (Array.mk (List.map (Value.int IntKind.u8) (tabI m 32))) (O.pbase t))
                                                                            (Array.mk (List.map (Value.int IntKind.u8) (tabI m 32))) (O.pbase t)
                                                                        else 0) &&
                                                                      O.fright t then
                                                                  O.fadd
                                                                    (bif Z.key a && O.pright (O.pbase t) then
                                                                      Z.aS a (Z.prn a (Array.mk (List.map (Value.int IntKind.u8) (tabI m 32))) (O.pbase t))
                                                                        (Array.mk (List.map (Value.int IntKind.u8) (tabI m 32))) (O.pbase t)
                                                                    else 0)
                                                                    t
                                                                else 0)
                                                                (bif Z.key a && O.pright (O.pbase t) then
                                                                  Z.aS a (Z.prn a (Array.mk (List.map (Value.int IntKind.u8) (tabI m 32))) (O.pbase t))
                                                                    (Array.mk (List.map (Value.int IntKind.u8) (tabI m 32))) (O.pbase t)
                                                                else 0)
                                                            else 0)
                                                        else 0)
                                                        (bif Z.key b && O.pright (O.pbase t) then
                                                          Z.aS b (Z.prn b (Array.mk (List.map (Value.int IntKind.u8) (tabI n 32))) (O.pbase t)) (Array.mk (List.map (Value.int IntKind.u8) (tabI n 32)))
                                                            (O.pbase t)
                                                        else 0)
                                                    else 0)
                                                    t) =
                                                Value.bool true)
                                              False)
                                            (Value.bool false = Value.bool true))
                                          False)
                                        False)
                                      (Value.bool false = Value.bool true))
                                    False)
                                  False)
                                (Value.bool false = Value.bool true))
                              False)
                            False)
                          False)
                        False)
                      False)
                    False)
                  False)
                False)
              False))))) := by
  have hAm : O.isH (Array.mk (List.map (Value.int IntKind.u8) (tabI m 32))) = true := h_m
  have hAn : O.isH (Array.mk (List.map (Value.int IntKind.u8) (tabI n 32))) = true := h_n
  generalize (Array.mk (List.map (Value.int IntKind.u8) (tabI m 32)) : Array Value) = A at hAm ⊢
  generalize (Array.mk (List.map (Value.int IntKind.u8) (tabI n 32)) : Array Value) = C at hAn ⊢
  have hk1 := G.key a h_a
  have hk2 := G.key b h_b
  have ht := G.fr t h_t
  cases e0 : iBeq a 0 with
  | true => simp only [Bool.and_self, Bool.and_true, Bool.true_and, Bool.and_false, Bool.false_and, Bool.not_true, Bool.not_false, Bool.or_true, Bool.true_or, Bool.false_or, Bool.or_false, cond_true, cond_false, If_t, If_f, beq_b, iBeq_self, iBne_self, eqv2, inU_1, inU_0]
  | false =>
  cases e1 : iLe 2305843009213688669 a with
  | true => simp only [Bool.and_self, Bool.and_true, Bool.true_and, Bool.and_false, Bool.false_and, Bool.not_true, Bool.not_false, Bool.or_true, Bool.true_or, Bool.false_or, Bool.or_false, cond_true, cond_false, If_t, If_f, beq_b, iBeq_self, iBne_self, eqv2, inU_1, inU_0]
  | false =>
  cases e2 : iBeq b 0 with
  | true => simp only [Bool.and_self, Bool.and_true, Bool.true_and, Bool.and_false, Bool.false_and, Bool.not_true, Bool.not_false, Bool.or_true, Bool.true_or, Bool.false_or, Bool.or_false, cond_true, cond_false, If_t, If_f, beq_b, iBeq_self, iBne_self, eqv2, inU_1, inU_0]
  | false =>
  cases e3 : iLe 2305843009213688669 b with
  | true => simp only [Bool.and_self, Bool.and_true, Bool.true_and, Bool.and_false, Bool.false_and, Bool.not_true, Bool.not_false, Bool.or_true, Bool.true_or, Bool.false_or, Bool.or_false, cond_true, cond_false, If_t, If_f, beq_b, iBeq_self, iBne_self, eqv2, inU_1, inU_0]
  | false =>
  cases e4 : iLe 2305843009213688669 t with
  | true => simp only [Bool.and_self, Bool.and_true, Bool.true_and, Bool.and_false, Bool.false_and, Bool.not_true, Bool.not_false, Bool.or_true, Bool.true_or, Bool.false_or, Bool.or_false, cond_true, cond_false, If_t, If_f, beq_b, iBeq_self, iBne_self, eqv2, inU_1, inU_0]
  | false =>
        rw [e0, e1] at hk1
        rw [e2, e3] at hk2
        rw [e4] at ht
        have hk1' : Z.key a = true := hk1
        have hk2' : Z.key b = true := hk2
        have ht' : O.fright t = true := ht
        have h11 := G.hold a (Z.prn a A (O.pbase t)) A (O.pbase t) h_a hk1' (G.pb t)
        have sf1 := G.sF a (Z.prn a A (O.pbase t)) A (O.pbase t)
        have sS1 := G.sS a (Z.prn a A (O.pbase t)) A (O.pbase t)
        have sR1 := G.sR (Z.prn a A (O.pbase t)) (O.pbase t)
        have h12 := G.hold b (Z.prn b C (O.pbase t)) C (O.pbase t) h_b hk2' (G.pb t)
        have sf2 := G.sF b (Z.prn b C (O.pbase t)) C (O.pbase t)
        have sS2 := G.sS b (Z.prn b C (O.pbase t)) C (O.pbase t)
        have sR2 := G.sR (Z.prn b C (O.pbase t)) (O.pbase t)
        simp only [hk1', hk2', ht', G.pb, cond_true, Bool.and_self, If_t, If_f]
        generalize Z.aS a (Z.prn a A (O.pbase t)) A (O.pbase t) = S1 at *
        generalize Z.aR (Z.prn a A (O.pbase t)) (O.pbase t) = R1 at *
        have h21 := G.shift (O.pbase a) A t R1 S1 sf1
        rw [h11] at h21
        have h21 := h21.symm
        have h31 := G.subadd S1 t h_t ht'
        generalize Z.aS b (Z.prn b C (O.pbase t)) C (O.pbase t) = S2 at *
        generalize Z.aR (Z.prn b C (O.pbase t)) (O.pbase t) = R2 at *
        have h22 := G.shift (O.pbase b) C t R2 S2 sf2
        rw [h12] at h22
        have h22 := h22.symm
        have h32 := G.subadd S2 t h_t ht'
        simp only [h_a, h_b, h_t, hAm, hAn, ht', sf1, sS1, sR1, h11, h21, h31, sf2, sS2, sR2, h12, h22, h32, F.fadd, F.fsub, F.fmul, F.padd, F.pneg, F.pbase, F.pscale, F.pall, F.ffrom, F.tH, G.sR, G.sS, G.sF, G.aF, G.bF, G.pb, G.p1, Bool.and_self, Bool.and_true, Bool.true_and, Bool.and_false, Bool.false_and, Bool.not_true, Bool.not_false, Bool.or_true, Bool.true_or, Bool.false_or, Bool.or_false, cond_true, cond_false, If_t, If_f, beq_b, iBeq_self, iBne_self, eqv2, inU_1, inU_0]
theorem wpc_sgSwaps (O : OO) (Z : OZ) (a b t : Int) (m n : Nat → Int) (F : FO O) (G : FZ O Z) (h_a : inU a 18446744073709551616 = true) (h_b : inU b 18446744073709551616 = true) (h_t : inU t 18446744073709551616 = true) (h_m : O.isH (AV m) = true) (h_n : O.isH (AV n) = true) : wpcI Try.prog (spZ5 O Z) Try.f7.ntmps [] (bodyOf Try.f7) 0 0 (argEnv [.int .u64 a, .int .u64 b, .agg (AV m), .agg (AV n), .int .u64 t] 0) [] (retK Try.prog Try.f7.results.toList (.bool true)) :=
  Eq.mpr (by kernel_rfl) (vc_sgSwaps O Z a b t m n F G h_a h_b h_t h_m h_n)
theorem walk_sgSwaps (a : Nat) (hb_a : a < 18446744073709551616) (b : Nat) (hb_b : b < 18446744073709551616) (l_m : List Nat) (hl_m : l_m.length = 32) (hb_m : ∀ i, l_m.getD i 0 < 256) (l_n : List Nat) (hl_n : l_n.length = 32) (hb_n : ∀ i, l_n.getD i 0 < 256) (t : Nat) (hb_t : t < 18446744073709551616) (w : World) : Calls Try.prog 7 #[.int .u64 (a : Int), .int .u64 (b : Int), B8 l_m, B8 l_n, .int .u64 (t : Int)] w fun e w' => e = .returned (.bool true) ∧ Kp w w' := by
  obtain ⟨m, e_m, i_m⟩ := bcs_AV l_m hl_m hb_m
  obtain ⟨n, e_n, i_n⟩ := bcs_AV l_n hl_n hb_n
  rw [show (B8 l_m : Value) = .agg (AV m) from congrArg Value.agg e_m]
  rw [show (B8 l_n : Value) = .agg (AV n) from congrArg Value.agg e_n]
  exact (calls_realI (I := I0) (spZ5_ok I0 oo rfl (zO oo) rfl) (by kernel_rfl) [] (l := [.int .u64 (a : Int), .int .u64 (b : Int), .agg (AV m), .agg (AV n), .int .u64 (t : Int)]) Try.func7 (by kernel_rfl) rfl Try.ntmps7 (by simp) (wpc_sgSwaps oo (zO oo) (a : Int) (b : Int) (t : Int) m n (fo_oo oo rfl) fz_oo (inU_of hb_a) (inU_of hb_b) (inU_of hb_t) (isH_oo i_m) (isH_oo i_n)) w).mono fun _ _ ⟨he, hf⟩ => ⟨he, fr_below hf⟩
end Go.Proofs.Ytebffdgghkomjaa
