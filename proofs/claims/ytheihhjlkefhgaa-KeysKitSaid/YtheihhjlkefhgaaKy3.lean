/- The laws of keys: the walks, by the symbolic machine (printed by genky3.py; VCs by VcTool). -/
import Derived.Test.YtheihhjlkefhgaaKy2
namespace Go.Proofs.Ytheihhjlkefhgaa
open Go.RowKit Go.Lib Ckp Cfd Cpd Sx
set_option linter.unusedVariables false
set_option linter.unusedSimpArgs false
set_option maxRecDepth 1000000
def I0 : Sx.Interp := ⟨fun _ _ _ _ _ => False, fun _ _ _ _ _ _ _ h => h⟩
def spY5b (O : OO) (Z : OZ) (Y : OY) (f : FuncId) : Option Sx.Spec := match spY5 O Y f with
  | some s => some s
  | none => spZ4 O Z f
theorem spY5b_ok (I : Sx.Interp) (O : OO) (hO : O = oo) (Z : OZ) (hZ : Z = zO O) (Y : OY) (hY : Y = yO O) : ∀ f s, spY5b O Z Y f = some s → Sx.SpecOK I Try.prog f s := by
  intro f s h
  unfold spY5b at h
  split at h
  · rename_i s' hs; cases h; exact spY5_ok I O hO Y hY _ _ hs
  · exact spZ4_ok I O hO Z hZ _ s h
def g_small11 (l : List Value) : Option (Bool × Value) := match l with
  | [] => some (true, .bool true)
  | _ => none
theorem small11_calls (w : World) : Calls Try.prog 36 (List.toArray []) w fun e w' => e = .returned (.bool true) ∧ Fr (fun _ => False) w w' :=
  calls_real (I := I0) (spY5b_ok I0 oo rfl (zO oo) rfl (yO oo) rfl) (by kernel_rfl) [] Try.func36 (by kernel_rfl) rfl Try.ntmps36 (by decide) (Eq.mpr (by kernel_rfl : _ = (Value.bool true = Value.bool true)) rfl) w
theorem ok_small11 (I : Sx.Interp) : Sx.SpecOK I Try.prog 36 (Sx.vspec g_small11) := by
  refine Sx.spec_of_calls Try.func36 (by kernel_rfl) (by kernel_rfl) ?_
  intro l v hg w
  unfold g_small11 at hg
  split at hg
  · simp only [Option.some.injEq, Prod.mk.injEq, true_and] at hg
    subst hg
    exact small11_calls w
  · cases hg
def spY6 (O : OO) (Z : OZ) (Y : OY) (f : FuncId) : Option Sx.Spec := match f with
  | 36 => some (Sx.vspec g_small11)
  | f => spY5b O Z Y f
theorem spY6_ok (I : Sx.Interp) (O : OO) (hO : O = oo) (Z : OZ) (hZ : Z = zO O) (Y : OY) (hY : Y = yO O) : ∀ f s, spY6 O Z Y f = some s → Sx.SpecOK I Try.prog f s := by
  intro f s h
  unfold spY6 at h
  split at h
  · cases h; exact ok_small11 I
  · exact spY5b_ok I O hO Z hZ Y hY _ s h
theorem calls_realI {I : Interp} {P : Program} {sp : FuncId → Option Sx.Spec} (hsp : ∀ f s, sp f = some s → Sx.SpecOK I P f s) (hm : P.follows .mixedOrders = true) (an : List Ann) {f : FuncId} {fn : Func} {c : Code} {N : Nat}
    (hf : P.funcs[f]? = some fn) (hb' : fn.body.isSome = true) (hc : bodyOf fn = c) (hN : fn.ntmps = N) {l : List Value} {v : Value} (hl : l.length ≤ N)
    (h : wpcI P sp N an c 0 0 (argEnv l 0) [] (retK P fn.results.toList v)) (w : World) : Calls P f l.toArray w fun e w' => e = .returned v ∧ Fr (fun _ => False) w w' :=
  calls_real hsp hm an hf hb' hc hN hl (wpcI_of h) w
theorem isH_oo {a : Array Value} (h : isHa a = true) : oo.isH a = true := by
  have e : oo.isH a = isHa a := by kernel_rfl
  rw [e]; exact h
theorem bcs_AV (l : List Nat) (h1 : l.length = 32) (h2 : ∀ i, l.getD i 0 < 256) : ∃ m : Nat → Int, bcs l = AV m ∧ isHa (AV m) = true := by
  have e : bcs l = ⟨(l.map fun n : Nat => (n : Int)).map (Value.int .u8)⟩ := by unfold bcs; apply Array.ext'; simp
  have hh : isHa (bcs l) = true := by
    rw [e]
    refine isHa_AV (by simpa using h1) fun x hx => ?_
    obtain ⟨n, hn, rfl⟩ := List.mem_map.1 hx
    obtain ⟨i, hi, rfl⟩ := List.mem_iff_getElem.1 hn
    have := h2 i
    rw [List.getD_eq_getElem?_getD, List.getElem?_eq_getElem hi] at this
    simp only [Option.getD_some] at this
    omega
  obtain ⟨m, hm⟩ := isH_AV hh
  exact ⟨m, hm, hm ▸ hh⟩

/-- What the laws ask of the functions. -/
structure FZ (O : OO) (Z : OZ) : Prop where
  fr : ∀ k, inU k 18446744073709551616 = true → O.fright k = !(iLe 2305843009213688669 k)
  key : ∀ k, inU k 18446744073709551616 = true → Z.key k = (!(iBeq k 0) && !(iLe 2305843009213688669 k))
  sR : ∀ n t, inU (Z.aR n t) 18446744073709551616 = true
  sS : ∀ k n m t, inU (Z.aS k n m t) 18446744073709551616 = true
  sF : ∀ k n m t, O.fright (Z.aS k n m t) = true
  aF : ∀ a b, O.fright (O.fadd a b) = true
  bF : ∀ a b, O.fright (O.fsub a b) = true
  hold : ∀ k n m t, inU k 18446744073709551616 = true → Z.key k = true → O.pright t = true → Z.chk (O.pbase k) m t (Z.aR n t) (Z.aS k n m t) = true
  shift : ∀ p m t R S, O.fright S = true → Z.chk p m (O.pbase t) R S = Z.chk p m 1 R (O.fadd S t)
  uniq : ∀ p m R S x, inU S 18446744073709551616 = true → inU x 18446744073709551616 = true → Z.chk p m 1 R S = true → O.fright x = true → Z.chk p m 1 R x = iBeq x S
  chkF : ∀ p m t R S, O.fright S = false → Z.chk p m t R S = false
  chk0 : ∀ p m t S, Z.chk p m t 0 S = false
  chkS : ∀ p m t R S, Z.chk p m t R S = true → O.fright S = true
  addsub : ∀ S t, inU S 18446744073709551616 = true → O.fright S = true → O.fadd (O.fsub S t) t = S
  subadd : ∀ S t, inU t 18446744073709551616 = true → O.fright t = true → O.fsub (O.fadd S t) S = t
  inj : ∀ S a b, inU a 18446744073709551616 = true → inU b 18446744073709551616 = true → O.fright a = true → O.fright b = true → iBeq (O.fadd S a) (O.fadd S b) = iBeq a b
  add0 : ∀ S t, inU S 18446744073709551616 = true → O.fright S = true → inU t 18446744073709551616 = true → O.fright t = true → iBeq S (O.fadd S t) = iBeq t 0
  pb : ∀ t, O.pright (O.pbase t) = true
  p1 : O.pright 1 = true
theorem inU_0 : inU 0 18446744073709551616 = true := by decide
theorem ne_fr {O : OO} {a b : Int} (ha : O.fright a = false) (hb : O.fright b = true) : iBeq a b = false := by
  cases h : iBeq a b with
  | false => rfl
  | true => rw [iBeq_t] at h; rw [h, hb] at ha; cases ha
theorem beq_b (a : Bool) : (a == a) = true := by cases a <;> rfl
theorem iBeq_self (a : Int) : iBeq a a = true := by simp [iBeq]
theorem iBne_self (a : Int) : iBne a a = false := by simp [iBne]
theorem eqv2 (a b c d : Int) : eqv (Array.mk [Value.int .u64 a, Value.int .u64 b]) (Array.mk [Value.int .u64 c, Value.int .u64 d]) = (iBeq a c && iBeq b d) := by
  have e : eqv (Array.mk [Value.int .u64 a, Value.int .u64 b]) (Array.mk [Value.int .u64 c, Value.int .u64 d]) = (decide (a = c) && (decide (b = d) && true)) := by rfl
  rw [e, Bool.and_true, Bool.eq_iff_iff]; simp [iBeq]

section
theorem o_fadd (a b : Int) : oo.fadd a b = ((fadd a.toNat b.toNat : Nat) : Int) := by kernel_rfl
theorem o_fsub (a b : Int) : oo.fsub a b = ((fsub a.toNat b.toNat : Nat) : Int) := by kernel_rfl
theorem o_fmul (a b : Int) : oo.fmul a b = ((fmul a.toNat b.toNat : Nat) : Int) := by kernel_rfl
theorem o_fright (a : Int) : oo.fright a = fright a.toNat := by kernel_rfl
theorem o_pright (a : Int) : oo.pright a = pright a.toNat := by kernel_rfl
theorem o_pbase (a : Int) : oo.pbase a = ((pbase a.toNat : Nat) : Int) := by kernel_rfl
theorem o_padd (a b : Int) : oo.padd a b = ((padd a.toNat b.toNat : Nat) : Int) := by kernel_rfl
theorem o_pscale (a b : Int) : oo.pscale a b = ((pscale a.toNat b.toNat : Nat) : Int) := by kernel_rfl
theorem o_pneg (a : Int) : oo.pneg a = ((pneg a.toNat : Nat) : Int) := by kernel_rfl
theorem o_pall (l : List Int) : oo.pall l = ((pall (l.map Int.toNat) : Nat) : Int) := by
  have e : oo.pall l = pallI l := by kernel_rfl
  rw [e, pallI_nat]
theorem z_chk (p : Int) (a : Array Value) (t R S : Int) : (zO oo).chk p a t R S = chkO oo p a t R S := by kernel_rfl
theorem z_aR (n t : Int) : (zO oo).aR n t = oo.padd (oo.pbase n) t := by kernel_rfl
theorem z_aS (k n : Int) (a : Array Value) (t : Int) : (zO oo).aS k n a t = oo.fadd n (oo.fmul (chalO oo (oo.padd (oo.pbase n) t) (oo.pbase k) a) k) := by kernel_rfl
theorem z_key (k : Int) : (zO oo).key k = (oo.fright k && iBne k 0) := by kernel_rfl
theorem fr_iff (x : Int) : oo.fright x = true ↔ x.toNat < 2305843009213688669 := by rw [o_fright]; unfold fright; simp
theorem chk_iff (p : Int) (a : Array Value) (t R S : Int) : (zO oo).chk p a t R S = true ↔ p ≠ 1 ∧ pright p.toNat = true ∧ pright t.toNat = true ∧ pright R.toNat = true ∧ S.toNat < 2305843009213688669 ∧ pbase S.toNat = padd (padd R.toNat (pscale p.toNat (chalO oo R p a).toNat)) (pneg t.toNat) := by
  rw [z_chk]
  unfold chkO
  generalize chalO oo R p a = e
  simp only [o_fright, o_pright, o_pbase, o_pall, o_pscale, o_pneg, List.map_cons, List.map_nil, Int.toNat_natCast, pall3]
  have h1 : (iBeq ((pbase S.toNat : Nat) : Int) ((padd (padd R.toNat (pscale p.toNat e.toNat)) (pneg t.toNat) : Nat) : Int) = true) ↔ pbase S.toNat = padd (padd R.toNat (pscale p.toNat e.toNat)) (pneg t.toNat) := by rw [iBeq_t, Int.natCast_inj]
  have h2 : (iBeq p 1 = false) ↔ p ≠ 1 := by rw [iBeq_f]
  have h3 : (fright S.toNat = true) ↔ S.toNat < 2305843009213688669 := by unfold fright; simp
  rw [← h1, ← h2, ← h3]
  cases iBeq p 1 <;> cases pright p.toNat <;> cases pright t.toNat <;> cases pright R.toNat <;> cases fright S.toNat <;> simp
theorem base_ne {k : Nat} (h0 : k ≠ 0) (h1 : k < 2305843009213688669) : pbase k ≠ 1 := fun h => h0 (base_one h h1)
theorem neg1 {r : Nat} (h : pright r = true) : padd r (pneg 1) = r := by
  have := (group_eq h right_one h).1 (by rw [add_one, taken_of h])
  exact this.symm
theorem fz_oo : FZ oo (zO oo) := by
  refine ⟨fun k hk => ?_, fun k hk => ?_, fun n t => ?_, fun k n m t => ?_, fun k n m t => ?_, fun a b => ?_, fun a b => ?_, fun k n m t hu hk ht => ?_, fun p m t R S hS => ?_, fun p m R S x hS hx h hfx => ?_, fun p m t R S hS => ?_, fun p m t S => ?_, fun p m t R S h => ?_, fun S t hS hf => ?_, fun S t ht hf => ?_, fun S a b ha hb fa fb => ?_, fun S t hS hf ht hft => ?_, fun t => ?_, ?_⟩
  · rw [inU_t] at hk
    rw [Bool.eq_iff_iff, fr_iff, Bool.not_eq_true', iLe_f]; omega
  · rw [inU_t] at hk
    rw [z_key, Bool.eq_iff_iff]
    simp only [Bool.and_eq_true, fr_iff, Bool.not_eq_true', iLe_f, iBne_t, iBeq_f]; omega
  · rw [z_aR, o_padd]; exact inU_cast (by have := padd_lt (oo.pbase n).toNat t.toNat; omega)
  · rw [z_aS, o_fadd]; exact inU_cast (by have := fadd_lt n.toNat (oo.fmul (chalO oo (oo.padd (oo.pbase n) t) (oo.pbase k) m) k).toNat; omega)
  · rw [z_aS, o_fadd, fr_iff, Int.toNat_natCast]; exact fadd_lt _ _
  · rw [o_fadd, fr_iff, Int.toNat_natCast]; exact fadd_lt _ _
  · rw [o_fsub, fr_iff, Int.toNat_natCast]; exact fsub_lt _ _
  · rw [z_key, Bool.and_eq_true, fr_iff, iBne_t] at hk
    rw [o_pright] at ht
    rw [chk_iff, z_aR, z_aS]
    generalize chalO oo (oo.padd (oo.pbase n) t) (oo.pbase k) m = e
    simp only [o_padd, o_pbase, o_fadd, o_fmul, Int.toNat_natCast]
    rw [inU_t] at hu
    refine ⟨fun h => base_ne (k := k.toNat) (by omega) hk.1 (by omega), right_base _, ht, right_add _ _, fadd_lt _ _, ?_⟩
    rw [base_add, r_comm_mul, ← base_mul]
    generalize pscale (pbase k.toNat) e.toNat = X
    have e1 : padd (padd (pbase n.toNat) t.toNat) X = padd (padd (pbase n.toNat) X) t.toNat := by rw [add_assoc, add_assoc, add_comm X t.toNat]
    rw [e1]
    have := add_sub (padd (pbase n.toNat) X) t.toNat
    rw [taken_of (right_add _ _)] at this
    exact this.symm
  · rw [Bool.eq_iff_iff, chk_iff, chk_iff]
    rw [fr_iff] at hS
    generalize chalO oo R p m = e
    simp only [o_pbase, o_fadd, Int.toNat_natCast, show (1 : Int).toNat = 1 from rfl, base_add]
    have g1 := group_eq (right_base S.toNat) (right_base t.toNat) (right_add R.toNat (pscale p.toNat e.toNat))
    have g2 := neg1 (right_add R.toNat (pscale p.toNat e.toNat))
    rw [g2, ← g1]
    have := fadd_lt S.toNat t.toNat
    have := right_base t.toNat
    have := right_one
    constructor
    · rintro ⟨a, b, c, d, e, f⟩; exact ⟨a, b, right_one, d, fadd_lt _ _, f⟩
    · rintro ⟨a, b, c, d, e, f⟩; exact ⟨a, b, right_base _, d, hS, f⟩
  · rw [chk_iff] at h
    rw [fr_iff] at hfx
    rw [inU_t] at hS hx
    obtain ⟨a, b, c, d, e, f⟩ := h
    rw [Bool.eq_iff_iff, chk_iff, iBeq_t, ← f]
    constructor
    · rintro ⟨_, _, _, _, _, f'⟩
      have := base_inj hfx e f'
      omega
    · rintro rfl; exact ⟨a, b, c, d, e, rfl⟩
  · cases hc : (zO oo).chk p m t R S with
    | false => rfl
    | true => rw [chk_iff] at hc; have := (fr_iff S).2 hc.2.2.2.2.1; rw [hS] at this; cases this
  · cases hc : (zO oo).chk p m t 0 S with
    | false => rfl
    | true => rw [chk_iff] at hc; have := ((right_iff 0).1 hc.2.2.2.1).1; omega
  · rw [chk_iff] at h; exact (fr_iff S).2 h.2.2.2.2.1
  · rw [inU_t] at hS
    rw [fr_iff] at hf
    rw [o_fadd, o_fsub, Int.toNat_natCast]; unfold fadd fsub fadd fneg; omega
  · rw [inU_t] at ht
    rw [fr_iff] at hf
    rw [o_fsub, o_fadd, Int.toNat_natCast]; unfold fsub fadd fneg; omega
  · rw [inU_t] at ha hb
    rw [fr_iff] at fa fb
    rw [o_fadd, o_fadd, Bool.eq_iff_iff, iBeq_t, iBeq_t]; unfold fadd; omega
  · rw [inU_t] at hS ht
    rw [fr_iff] at hf hft
    rw [o_fadd, Bool.eq_iff_iff, iBeq_t, iBeq_t]; unfold fadd; omega
  · rw [o_pright, o_pbase, Int.toNat_natCast]; exact right_base _
  · rw [o_pright]; exact right_one
end
theorem mS' (a p : Int) : mixO oo (yO oo) (oo.pbase a) p = oo.pbase (msecO oo (yO oo) a p) := by
  have key : ∀ x : Int, oo.padd (oo.pbase a) (oo.pbase x) = oo.pbase (oo.fadd a x) := fun x => by
    rw [o_padd, o_pbase a, o_pbase x, o_fadd, o_pbase]
    rw [Int.toNat_natCast, Int.toNat_natCast, Int.toNat_natCast, base_add]
  have := key ((yO oo).fac mixB p (oo.pbase a))
  unfold mixO msecO
  exact this
theorem rS' (a : Int) (m : Array Value) : revO oo (yO oo) (oo.pbase a) (perO oo m) = oo.pbase (rsecO oo (yO oo) a m) := by
  have key : ∀ s x y : Int, oo.padd (oo.pscale (oo.pbase a) x) (oo.pscale (oo.pbase s) y) = oo.pbase (oo.fadd (oo.fmul a x) (oo.fmul s y)) := fun s x y => by
    rw [o_padd, o_pbase a, o_pbase s, o_pscale _ x, o_pscale _ y, o_fmul a, o_fmul s, o_fadd, o_pbase]
    rw [Int.toNat_natCast, Int.toNat_natCast, Int.toNat_natCast, Int.toNat_natCast, Int.toNat_natCast, Int.toNat_natCast, Int.toNat_natCast, base_add, base_mul, base_mul]
  have := key (oo.ffrom m) ((yO oo).fac revB (oo.pbase a) (perO oo m)) ((yO oo).fac revB (perO oo m) (oo.pbase a))
  unfold revO rsecO
  exact this
set_option maxHeartbeats 4000000 in
theorem vc_kyMeet (O : OO) (Z : OZ) (Y : OY) (a b : Int) (secret : Nat → Int) (F : FO O) (G : FZ O Z) (mS : ∀ a p, mixO O Y (O.pbase a) p = O.pbase (msecO O Y a p)) (rS : ∀ a m, revO O Y (O.pbase a) (perO O m) = O.pbase (rsecO O Y a m)) (h_a : inU a 18446744073709551616 = true) (h_b : inU b 18446744073709551616 = true) (h_secret : O.isH (AV secret) = true) :
  If (inU a 18446744073709551616)
    (If (O.isH (Array.mk (List.map (Value.int IntKind.u8) (tabI secret 32))))
      (If (inU b 18446744073709551616)
        (If (inU a 18446744073709551616 && inU (perO O (Array.mk (List.map (Value.int IntKind.u8) (tabI secret 32)))) 18446744073709551616)
          (If (inU (msecO O Y a (perO O (Array.mk (List.map (Value.int IntKind.u8) (tabI secret 32))))) 18446744073709551616)
            (If (inU (O.pbase a) 18446744073709551616 && inU (perO O (Array.mk (List.map (Value.int IntKind.u8) (tabI secret 32)))) 18446744073709551616)
              (If
                (iBeq (O.pbase (msecO O Y a (perO O (Array.mk (List.map (Value.int IntKind.u8) (tabI secret 32))))))
                  (mixO O Y (O.pbase a) (perO O (Array.mk (List.map (Value.int IntKind.u8) (tabI secret 32))))))
                (If (inU a 18446744073709551616 && inU (O.pbase b) 18446744073709551616)
                  (If (inU (msecO O Y a (O.pbase b)) 18446744073709551616)
                    (If (inU (O.pbase a) 18446744073709551616 && inU (O.pbase b) 18446744073709551616)
                      (If (iBeq (O.pbase (msecO O Y a (O.pbase b))) (mixO O Y (O.pbase a) (O.pbase b)))
                        (If (inU a 18446744073709551616 && O.isH (Array.mk (List.map (Value.int IntKind.u8) (tabI secret 32))))
                          (If (inU (rsecO O Y a (Array.mk (List.map (Value.int IntKind.u8) (tabI secret 32)))) 18446744073709551616)
                            (If (inU (O.pbase a) 18446744073709551616 && inU (perO O (Array.mk (List.map (Value.int IntKind.u8) (tabI secret 32)))) 18446744073709551616)
                              (If
                                (iBeq (O.pbase (rsecO O Y a (Array.mk (List.map (Value.int IntKind.u8) (tabI secret 32)))))
                                  (revO O Y (O.pbase a) (perO O (Array.mk (List.map (Value.int IntKind.u8) (tabI secret 32))))))
                                (If (inU a 18446744073709551616 && inU (perO O (Array.mk (List.map (Value.int IntKind.u8) (tabI secret 32)))) 18446744073709551616)
                                  (If (inU (msecO O Y a (perO O (Array.mk (List.map (Value.int IntKind.u8) (tabI secret 32))))) 18446744073709551616)
                                    (If (O.fright (msecO O Y a (perO O (Array.mk (List.map (Value.int IntKind.u8) (tabI secret 32))))))
                                      (If (inU a 18446744073709551616 && O.isH (Array.mk (List.map (Value.int IntKind.u8) (tabI secret 32))))
                                        (If (inU (rsecO O Y a (Array.mk (List.map (Value.int IntKind.u8) (tabI secret 32)))) 18446744073709551616)
                                          (Value.bool (O.fright (rsecO O Y a (Array.mk (List.map (Value.int IntKind.u8) (tabI secret 32))))) = Value.bool true) False)
                                        False)
                                      (Value.bool false = Value.bool true))
                                    False)
                                  False)
                                (Value.bool false = Value.bool true))
                              False)
                            False)
                          False)
                        (Value.bool false = Value.bool true))
                      False)
                    False)
                  False)
                (Value.bool false = Value.bool true))
              False)
            False)
          False)
        False)
      False)
    False := by
  have hAsecret : O.isH (Array.mk (List.map (Value.int IntKind.u8) (tabI secret 32))) = true := h_secret
  have iM : ∀ a p, inU (msecO O Y a p) 18446744073709551616 = true := fun _ _ => F.fadd _ _
  have iR : ∀ a m, inU (rsecO O Y a m) 18446744073709551616 = true := fun _ _ => F.fadd _ _
  have iP : ∀ m, inU (perO O m) 18446744073709551616 = true := fun _ => F.pbase _
  have fM : ∀ a p, O.fright (msecO O Y a p) = true := fun _ _ => G.aF _ _
  have fR : ∀ a m, O.fright (rsecO O Y a m) = true := fun _ _ => G.aF _ _
  simp only [hAsecret, h_a, h_b, mS, rS, iM, iR, iP, fM, fR, F.fadd, F.fsub, F.fmul, F.padd, F.pneg, F.pbase, F.pscale, F.pall, F.ffrom, F.tH, G.sR, G.sS, G.sF, G.aF, G.bF, G.pb, G.p1, Bool.and_self, Bool.and_true, Bool.true_and, Bool.and_false, Bool.false_and, Bool.not_true, Bool.not_false, Bool.or_true, Bool.true_or, Bool.false_or, Bool.or_false, cond_true, cond_false, If_t, If_f, beq_b, iBeq_self, iBne_self, eqv2, inU_1, inU_0]
theorem wpc_kyMeet (O : OO) (Z : OZ) (Y : OY) (a b : Int) (secret : Nat → Int) (F : FO O) (G : FZ O Z) (mS : ∀ a p, mixO O Y (O.pbase a) p = O.pbase (msecO O Y a p)) (rS : ∀ a m, revO O Y (O.pbase a) (perO O m) = O.pbase (rsecO O Y a m)) (h_a : inU a 18446744073709551616 = true) (h_b : inU b 18446744073709551616 = true) (h_secret : O.isH (AV secret) = true) : wpcI Try.prog (spY6 O Z Y) Try.f8.ntmps [] (bodyOf Try.f8) 0 0 (argEnv [.int .u64 a, .int .u64 b, .agg (AV secret)] 0) [] (retK Try.prog Try.f8.results.toList (.bool true)) :=
  Eq.mpr (by kernel_rfl) (vc_kyMeet O Z Y a b secret F G mS rS h_a h_b h_secret)
theorem walk_kyMeet (a : Nat) (hb_a : a < 18446744073709551616) (b : Nat) (hb_b : b < 18446744073709551616) (l_secret : List Nat) (hl_secret : l_secret.length = 32) (hb_secret : ∀ i, l_secret.getD i 0 < 256) (w : World) : Calls Try.prog 8 #[.int .u64 (a : Int), .int .u64 (b : Int), B8 l_secret] w fun e w' => e = .returned (.bool true) ∧ Kp w w' := by
  obtain ⟨secret, e_secret, i_secret⟩ := bcs_AV l_secret hl_secret hb_secret
  rw [show (B8 l_secret : Value) = .agg (AV secret) from congrArg Value.agg e_secret]
  exact (calls_realI (I := I0) (spY6_ok I0 oo rfl (zO oo) rfl (yO oo) rfl) (by kernel_rfl) [] (l := [.int .u64 (a : Int), .int .u64 (b : Int), .agg (AV secret)]) Try.func8 (by kernel_rfl) rfl Try.ntmps8 (by simp) (wpc_kyMeet oo (zO oo) (yO oo) (a : Int) (b : Int) secret (fo_oo oo rfl) fz_oo mS' rS' (inU_of hb_a) (inU_of hb_b) (isH_oo i_secret)) w).mono fun _ _ ⟨he, hf⟩ => ⟨he, fr_below hf⟩
set_option maxHeartbeats 4000000 in
theorem vc_kySign (O : OO) (Z : OZ) (Y : OY) (a : Int) (secret m : Nat → Int) (F : FO O) (G : FZ O Z) (mS : ∀ a p, mixO O Y (O.pbase a) p = O.pbase (msecO O Y a p)) (rS : ∀ a m, revO O Y (O.pbase a) (perO O m) = O.pbase (rsecO O Y a m)) (h_a : inU a 18446744073709551616 = true) (h_secret : O.isH (AV secret) = true) (h_m : O.isH (AV m) = true) :
  If (inU a 18446744073709551616)
    (If (O.isH (Array.mk (List.map (Value.int IntKind.u8) (tabI secret 32))))
      (If (inU a 18446744073709551616 && inU (perO O (Array.mk (List.map (Value.int IntKind.u8) (tabI secret 32)))) 18446744073709551616)
        (If (inU a 18446744073709551616 && O.isH (Array.mk (List.map (Value.int IntKind.u8) (tabI secret 32))))
          (If (iBeq (msecO O Y a (perO O (Array.mk (List.map (Value.int IntKind.u8) (tabI secret 32))))) 0)
            (If (iBeq (rsecO O Y a (Array.mk (List.map (Value.int IntKind.u8) (tabI secret 32)))) 0) (Value.bool true = Value.bool true)
              (If (inU (O.pbase a) 18446744073709551616 && inU (perO O (Array.mk (List.map (Value.int IntKind.u8) (tabI secret 32)))) 18446744073709551616)
                (If (inU (rsecO O Y a (Array.mk (List.map (Value.int IntKind.u8) (tabI secret 32)))) 18446744073709551616 && O.isH (Array.mk (List.map (Value.int IntKind.u8) (tabI m 32))))
                  (If
                    (inU (revO O Y (O.pbase a) (perO O (Array.mk (List.map (Value.int IntKind.u8) (tabI secret 32))))) 18446744073709551616 &&
                          inU
                            (bif Z.key (rsecO O Y a (Array.mk (List.map (Value.int IntKind.u8) (tabI secret 32)))) then
                              Z.aR (Z.non (rsecO O Y a (Array.mk (List.map (Value.int IntKind.u8) (tabI secret 32)))) (Array.mk (List.map (Value.int IntKind.u8) (tabI m 32)))) 1
                            else 0)
                            18446744073709551616 &&
                        inU
                          (bif Z.key (rsecO O Y a (Array.mk (List.map (Value.int IntKind.u8) (tabI secret 32)))) then
                            Z.aS (rsecO O Y a (Array.mk (List.map (Value.int IntKind.u8) (tabI secret 32))))
                              (Z.non (rsecO O Y a (Array.mk (List.map (Value.int IntKind.u8) (tabI secret 32)))) (Array.mk (List.map (Value.int IntKind.u8) (tabI m 32))))
                              (Array.mk (List.map (Value.int IntKind.u8) (tabI m 32))) 1
                          else 0)
                          18446744073709551616 &&
                      O.isH (Array.mk (List.map (Value.int IntKind.u8) (tabI m 32))))
                    (Value.bool
                        (Z.chk (revO O Y (O.pbase a) (perO O (Array.mk (List.map (Value.int IntKind.u8) (tabI secret 32))))) (Array.mk (List.map (Value.int IntKind.u8) (tabI m 32))) 1
                          (bif Z.key (rsecO O Y a (Array.mk (List.map (Value.int IntKind.u8) (tabI secret 32)))) then
                            Z.aR (Z.non (rsecO O Y a (Array.mk (List.map (Value.int IntKind.u8) (tabI secret 32)))) (Array.mk (List.map (Value.int IntKind.u8) (tabI m 32)))) 1
                          else 0)
                          (bif Z.key (rsecO O Y a (Array.mk (List.map (Value.int IntKind.u8) (tabI secret 32)))) then
                            Z.aS (rsecO O Y a (Array.mk (List.map (Value.int IntKind.u8) (tabI secret 32))))
                              (Z.non (rsecO O Y a (Array.mk (List.map (Value.int IntKind.u8) (tabI secret 32)))) (Array.mk (List.map (Value.int IntKind.u8) (tabI m 32))))
                              (Array.mk (List.map (Value.int IntKind.u8) (tabI m 32))) 1
                          else 0)) =
                      Value.bool true)
                    False)
                  False)
                False))
            (If (inU (O.pbase a) 18446744073709551616 && inU (perO O (Array.mk (List.map (Value.int IntKind.u8) (tabI secret 32)))) 18446744073709551616)
              (If (inU (msecO O Y a (perO O (Array.mk (List.map (Value.int IntKind.u8) (tabI secret 32))))) 18446744073709551616 && O.isH (Array.mk (List.map (Value.int IntKind.u8) (tabI m 32))))
                (If
                  (inU (mixO O Y (O.pbase a) (perO O (Array.mk (List.map (Value.int IntKind.u8) (tabI secret 32))))) 18446744073709551616 &&
                        inU
                          (bif Z.key (msecO O Y a (perO O (Array.mk (List.map (Value.int IntKind.u8) (tabI secret 32))))) then
                            Z.aR (Z.non (msecO O Y a (perO O (Array.mk (List.map (Value.int IntKind.u8) (tabI secret 32))))) (Array.mk (List.map (Value.int IntKind.u8) (tabI m 32)))) 1
                          else 0)
                          18446744073709551616 &&
                      inU
                        (bif Z.key (msecO O Y a (perO O (Array.mk (List.map (Value.int IntKind.u8) (tabI secret 32))))) then
                          Z.aS (msecO O Y a (perO O (Array.mk (List.map (Value.int IntKind.u8) (tabI secret 32)))))
                            (Z.non (msecO O Y a (perO O (Array.mk (List.map (Value.int IntKind.u8) (tabI secret 32))))) (Array.mk (List.map (Value.int IntKind.u8) (tabI m 32))))
                            (Array.mk (List.map (Value.int IntKind.u8) (tabI m 32))) 1
                        else 0)
                        18446744073709551616 &&
                    O.isH (Array.mk (List.map (Value.int IntKind.u8) (tabI m 32))))
                  (If
                    (Z.chk (mixO O Y (O.pbase a) (perO O (Array.mk (List.map (Value.int IntKind.u8) (tabI secret 32))))) (Array.mk (List.map (Value.int IntKind.u8) (tabI m 32))) 1
                      (bif Z.key (msecO O Y a (perO O (Array.mk (List.map (Value.int IntKind.u8) (tabI secret 32))))) then
                        Z.aR (Z.non (msecO O Y a (perO O (Array.mk (List.map (Value.int IntKind.u8) (tabI secret 32))))) (Array.mk (List.map (Value.int IntKind.u8) (tabI m 32)))) 1
                      else 0)
                      (bif Z.key (msecO O Y a (perO O (Array.mk (List.map (Value.int IntKind.u8) (tabI secret 32))))) then
                        Z.aS (msecO O Y a (perO O (Array.mk (List.map (Value.int IntKind.u8) (tabI secret 32)))))
                          (Z.non (msecO O Y a (perO O (Array.mk (List.map (Value.int IntKind.u8) (tabI secret 32))))) (Array.mk (List.map (Value.int IntKind.u8) (tabI m 32))))
                          (Array.mk (List.map (Value.int IntKind.u8) (tabI m 32))) 1
                      else 0))
                    (If (iBeq (rsecO O Y a (Array.mk (List.map (Value.int IntKind.u8) (tabI secret 32)))) 0) (Value.bool true = Value.bool true)
                      (If (inU (O.pbase a) 18446744073709551616 && inU (perO O (Array.mk (List.map (Value.int IntKind.u8) (tabI secret 32)))) 18446744073709551616)
                        (If (inU (rsecO O Y a (Array.mk (List.map (Value.int IntKind.u8) (tabI secret 32)))) 18446744073709551616 && O.isH (Array.mk (List.map (Value.int IntKind.u8) (tabI m 32))))
                          (If
                            (inU (revO O Y (O.pbase a) (perO O (Array.mk (List.map (Value.int IntKind.u8) (tabI secret 32))))) 18446744073709551616 &&
                                  inU
                                    (bif Z.key (rsecO O Y a (Array.mk (List.map (Value.int IntKind.u8) (tabI secret 32)))) then
                                      Z.aR (Z.non (rsecO O Y a (Array.mk (List.map (Value.int IntKind.u8) (tabI secret 32)))) (Array.mk (List.map (Value.int IntKind.u8) (tabI m 32)))) 1
                                    else 0)
                                    18446744073709551616 &&
                                inU
                                  (bif Z.key (rsecO O Y a (Array.mk (List.map (Value.int IntKind.u8) (tabI secret 32)))) then
                                    Z.aS (rsecO O Y a (Array.mk (List.map (Value.int IntKind.u8) (tabI secret 32))))
                                      (Z.non (rsecO O Y a (Array.mk (List.map (Value.int IntKind.u8) (tabI secret 32)))) (Array.mk (List.map (Value.int IntKind.u8) (tabI m 32))))
                                      (Array.mk (List.map (Value.int IntKind.u8) (tabI m 32))) 1
                                  else 0)
                                  18446744073709551616 &&
                              O.isH (Array.mk (List.map (Value.int IntKind.u8) (tabI m 32))))
                            (Value.bool
                                (Z.chk (revO O Y (O.pbase a) (perO O (Array.mk (List.map (Value.int IntKind.u8) (tabI secret 32))))) (Array.mk (List.map (Value.int IntKind.u8) (tabI m 32))) 1
                                  (bif Z.key (rsecO O Y a (Array.mk (List.map (Value.int IntKind.u8) (tabI secret 32)))) then
                                    Z.aR (Z.non (rsecO O Y a (Array.mk (List.map (Value.int IntKind.u8) (tabI secret 32)))) (Array.mk (List.map (Value.int IntKind.u8) (tabI m 32)))) 1
                                  else 0)
                                  (bif Z.key (rsecO O Y a (Array.mk (List.map (Value.int IntKind.u8) (tabI secret 32)))) then
                                    Z.aS (rsecO O Y a (Array.mk (List.map (Value.int IntKind.u8) (tabI secret 32))))
                                      (Z.non (rsecO O Y a (Array.mk (List.map (Value.int IntKind.u8) (tabI secret 32)))) (Array.mk (List.map (Value.int IntKind.u8) (tabI m 32))))
                                      (Array.mk (List.map (Value.int IntKind.u8) (tabI m 32))) 1
                                  else 0)) =
                              Value.bool true)
                            False)
                          False)
                        False))
                    False)
                  False)
                False)
              False))
          False)
        False)
      False)
    False := by
  have hAsecret : O.isH (Array.mk (List.map (Value.int IntKind.u8) (tabI secret 32))) = true := h_secret
  have hAm : O.isH (Array.mk (List.map (Value.int IntKind.u8) (tabI m 32))) = true := h_m
  have iM : ∀ a p, inU (msecO O Y a p) 18446744073709551616 = true := fun _ _ => F.fadd _ _
  have iR : ∀ a m, inU (rsecO O Y a m) 18446744073709551616 = true := fun _ _ => F.fadd _ _
  have iP : ∀ m, inU (perO O m) 18446744073709551616 = true := fun _ => F.pbase _
  have fM : ∀ a p, O.fright (msecO O Y a p) = true := fun _ _ => G.aF _ _
  have fR : ∀ a m, O.fright (rsecO O Y a m) = true := fun _ _ => G.aF _ _
  simp only [hAsecret, hAm, h_a, mS, rS, iM, iR, iP, If_t, Bool.and_self]
  have x1 := iM a (perO O (Array.mk (List.map (Value.int IntKind.u8) (tabI secret 32))))
  have x2 := fM a (perO O (Array.mk (List.map (Value.int IntKind.u8) (tabI secret 32))))
  have y1 := iR a (Array.mk (List.map (Value.int IntKind.u8) (tabI secret 32)))
  have y2 := fR a (Array.mk (List.map (Value.int IntKind.u8) (tabI secret 32)))
  generalize msecO O Y a (perO O (Array.mk (List.map (Value.int IntKind.u8) (tabI secret 32)))) = x at *
  generalize rsecO O Y a (Array.mk (List.map (Value.int IntKind.u8) (tabI secret 32))) = y at *
  have kx := G.key x x1
  have ky := G.key y y1
  rw [← G.fr x x1, x2] at kx
  rw [← G.fr y y1, y2] at ky
  cases ex : iBeq x 0 with
  | true =>
    cases ey : iBeq y 0 with
    | true => simp only [Bool.and_self, Bool.and_true, Bool.true_and, Bool.and_false, Bool.false_and, Bool.not_true, Bool.not_false, Bool.or_true, Bool.true_or, Bool.false_or, Bool.or_false, cond_true, cond_false, If_t, If_f, beq_b, iBeq_self, iBne_self, eqv2, inU_1, inU_0]
    | false =>
      rw [ey] at ky
      have ky' : Z.key y = true := ky
      have gy := fun n (a : Array Value) => G.hold y n a 1 y1 ky' G.p1
      simp only [ky', gy, y1, hAm, F.fadd, F.fsub, F.fmul, F.padd, F.pneg, F.pbase, F.pscale, F.pall, F.ffrom, F.tH, G.sR, G.sS, G.sF, G.aF, G.bF, G.pb, G.p1, Bool.and_self, Bool.and_true, Bool.true_and, Bool.and_false, Bool.false_and, Bool.not_true, Bool.not_false, Bool.or_true, Bool.true_or, Bool.false_or, Bool.or_false, cond_true, cond_false, If_t, If_f, beq_b, iBeq_self, iBne_self, eqv2, inU_1, inU_0]
  | false =>
    rw [ex] at kx
    have kx' : Z.key x = true := kx
    have gx := fun n (a : Array Value) => G.hold x n a 1 x1 kx' G.p1
    cases ey : iBeq y 0 with
    | true => simp only [kx', gx, x1, hAm, F.fadd, F.fsub, F.fmul, F.padd, F.pneg, F.pbase, F.pscale, F.pall, F.ffrom, F.tH, G.sR, G.sS, G.sF, G.aF, G.bF, G.pb, G.p1, Bool.and_self, Bool.and_true, Bool.true_and, Bool.and_false, Bool.false_and, Bool.not_true, Bool.not_false, Bool.or_true, Bool.true_or, Bool.false_or, Bool.or_false, cond_true, cond_false, If_t, If_f, beq_b, iBeq_self, iBne_self, eqv2, inU_1, inU_0]
    | false =>
      rw [ey] at ky
      have ky' : Z.key y = true := ky
      have gy := fun n (a : Array Value) => G.hold y n a 1 y1 ky' G.p1
      simp only [kx', gx, x1, ky', gy, y1, hAm, F.fadd, F.fsub, F.fmul, F.padd, F.pneg, F.pbase, F.pscale, F.pall, F.ffrom, F.tH, G.sR, G.sS, G.sF, G.aF, G.bF, G.pb, G.p1, Bool.and_self, Bool.and_true, Bool.true_and, Bool.and_false, Bool.false_and, Bool.not_true, Bool.not_false, Bool.or_true, Bool.true_or, Bool.false_or, Bool.or_false, cond_true, cond_false, If_t, If_f, beq_b, iBeq_self, iBne_self, eqv2, inU_1, inU_0]
theorem wpc_kySign (O : OO) (Z : OZ) (Y : OY) (a : Int) (secret m : Nat → Int) (F : FO O) (G : FZ O Z) (mS : ∀ a p, mixO O Y (O.pbase a) p = O.pbase (msecO O Y a p)) (rS : ∀ a m, revO O Y (O.pbase a) (perO O m) = O.pbase (rsecO O Y a m)) (h_a : inU a 18446744073709551616 = true) (h_secret : O.isH (AV secret) = true) (h_m : O.isH (AV m) = true) : wpcI Try.prog (spY6 O Z Y) Try.f10.ntmps [] (bodyOf Try.f10) 0 0 (argEnv [.int .u64 a, .agg (AV secret), .agg (AV m)] 0) [] (retK Try.prog Try.f10.results.toList (.bool true)) :=
  Eq.mpr (by kernel_rfl) (vc_kySign O Z Y a secret m F G mS rS h_a h_secret h_m)
theorem walk_kySign (a : Nat) (hb_a : a < 18446744073709551616) (l_secret : List Nat) (hl_secret : l_secret.length = 32) (hb_secret : ∀ i, l_secret.getD i 0 < 256) (l_m : List Nat) (hl_m : l_m.length = 32) (hb_m : ∀ i, l_m.getD i 0 < 256) (w : World) : Calls Try.prog 10 #[.int .u64 (a : Int), B8 l_secret, B8 l_m] w fun e w' => e = .returned (.bool true) ∧ Kp w w' := by
  obtain ⟨secret, e_secret, i_secret⟩ := bcs_AV l_secret hl_secret hb_secret
  obtain ⟨m, e_m, i_m⟩ := bcs_AV l_m hl_m hb_m
  rw [show (B8 l_secret : Value) = .agg (AV secret) from congrArg Value.agg e_secret]
  rw [show (B8 l_m : Value) = .agg (AV m) from congrArg Value.agg e_m]
  exact (calls_realI (I := I0) (spY6_ok I0 oo rfl (zO oo) rfl (yO oo) rfl) (by kernel_rfl) [] (l := [.int .u64 (a : Int), .agg (AV secret), .agg (AV m)]) Try.func10 (by kernel_rfl) rfl Try.ntmps10 (by simp) (wpc_kySign oo (zO oo) (yO oo) (a : Int) secret m (fo_oo oo rfl) fz_oo mS' rS' (inU_of hb_a) (isH_oo i_secret) (isH_oo i_m)) w).mono fun _ _ ⟨he, hf⟩ => ⟨he, fr_below hf⟩
end Go.Proofs.Ytheihhjlkefhgaa
