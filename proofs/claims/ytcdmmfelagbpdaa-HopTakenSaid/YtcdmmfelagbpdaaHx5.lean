/- HopTaken: the walk, by the symbolic machine (printed by genhx5.py; VC by VcTool). -/
import Derived.Test.YtcdmmfelagbpdaaHy1
import Derived.Test.YtcdmmfelagbpdaaPa9
namespace Go.Proofs.Ytcdmmfelagbpdaa
open Go.RowKit Go.Lib Ckp Cfd Cpd Sx
set_option linter.unusedVariables false
set_option linter.unusedSimpArgs false
set_option maxRecDepth 1000000


/-- What the laws ask of the functions. -/
structure FZ (O : OO) (Z : OZ) : Prop where
 fr : ∀ k, inU k 18446744073709551616 = true → O.fright k = !(iLe 2305843009213688669 k)
 key : ∀ k, inU k 18446744073709551616 = true → Z.key k = (!(iBeq k 0) && !(iLe 2305843009213688669 k))
 sR : ∀ n t, inU (Z.aR n t) 18446744073709551616 = true
 sS : ∀ k n m t, inU (Z.aS k n m t) 18446744073709551616 = true
 sF : ∀ k n m t, O.fright (Z.aS k n m t) = true
 aF : ∀ a b, O.fright (O.fadd a b) = true
 bF : ∀ a b, O.fright (O.fsub a b) = true
 hold : ∀ k n m t, inU k 18446744073709551616 = true → Z.key k = true → O.pright t = true → Z.chk (O.pbase k) m t (Z.aR n t) (Z.aS k n m t) = true
 shift : ∀ p m t R S, O.fright S = true → Z.chk p m (O.pbase t) R S = Z.chk p m 1 R (O.fadd S t)
 uniq : ∀ p m R S x, inU S 18446744073709551616 = true → inU x 18446744073709551616 = true → Z.chk p m 1 R S = true → O.fright x = true → Z.chk p m 1 R x = iBeq x S
 chkF : ∀ p m t R S, O.fright S = false → Z.chk p m t R S = false
 chk0 : ∀ p m t S, Z.chk p m t 0 S = false
 chkS : ∀ p m t R S, Z.chk p m t R S = true → O.fright S = true
 addsub : ∀ S t, inU S 18446744073709551616 = true → O.fright S = true → O.fadd (O.fsub S t) t = S
 subadd : ∀ S t, inU t 18446744073709551616 = true → O.fright t = true → O.fsub (O.fadd S t) S = t
 inj : ∀ S a b, inU a 18446744073709551616 = true → inU b 18446744073709551616 = true → O.fright a = true → O.fright b = true → iBeq (O.fadd S a) (O.fadd S b) = iBeq a b
 add0 : ∀ S t, inU S 18446744073709551616 = true → O.fright S = true → inU t 18446744073709551616 = true → O.fright t = true → iBeq S (O.fadd S t) = iBeq t 0
 pb : ∀ t, O.pright (O.pbase t) = true
 p1 : O.pright 1 = true
theorem inU_0 : inU 0 18446744073709551616 = true := by decide
theorem ne_fr {O : OO} {a b : Int} (ha : O.fright a = false) (hb : O.fright b = true) : iBeq a b = false := by
 cases h : iBeq a b with
 | false => rfl
 | true => rw [iBeq_t] at h; rw [h, hb] at ha; cases ha
theorem beq_b (a : Bool) : (a == a) = true := by cases a <;> rfl
theorem iBeq_self (a : Int) : iBeq a a = true := by simp [iBeq]
theorem iBne_self (a : Int) : iBne a a = false := by simp [iBne]
theorem eqv2 (a b c d : Int) : eqv (Array.mk [Value.int .u64 a, Value.int .u64 b]) (Array.mk [Value.int .u64 c, Value.int .u64 d]) = (iBeq a c && iBeq b d) := by
 have e : eqv (Array.mk [Value.int .u64 a, Value.int .u64 b]) (Array.mk [Value.int .u64 c, Value.int .u64 d]) = (decide (a = c) && (decide (b = d) && true)) := by rfl
 rw [e, Bool.and_true, Bool.eq_iff_iff]; simp [iBeq]

section
theorem o_fmul (a b : Int) : oo.fmul a b = ((fmul a.toNat b.toNat : Nat) : Int) := by kernel_rfl
theorem o_fright (a : Int) : oo.fright a = fright a.toNat := by kernel_rfl
theorem o_pscale (a b : Int) : oo.pscale a b = ((pscale a.toNat b.toNat : Nat) : Int) := by kernel_rfl
theorem o_pneg (a : Int) : oo.pneg a = ((pneg a.toNat : Nat) : Int) := by kernel_rfl
theorem o_pall (l : List Int) : oo.pall l = ((pall (l.map Int.toNat) : Nat) : Int) := by
 have e : oo.pall l = pallI l := by kernel_rfl
 rw [e, pallI_nat]
theorem z_chk (p : Int) (a : Array Value) (t R S : Int) : (zO oo).chk p a t R S = chkO oo p a t R S := by kernel_rfl
theorem z_aR (n t : Int) : (zO oo).aR n t = oo.padd (oo.pbase n) t := by kernel_rfl
theorem z_aS (k n : Int) (a : Array Value) (t : Int) : (zO oo).aS k n a t = oo.fadd n (oo.fmul (chalO oo (oo.padd (oo.pbase n) t) (oo.pbase k) a) k) := by kernel_rfl
theorem z_key (k : Int) : (zO oo).key k = (oo.fright k && iBne k 0) := by kernel_rfl
theorem fr_iff (x : Int) : oo.fright x = true ↔ x.toNat < 2305843009213688669 := by rw [o_fright]; unfold fright; simp
theorem chk_iff (p : Int) (a : Array Value) (t R S : Int) : (zO oo).chk p a t R S = true ↔ p ≠ 1 ∧ pright p.toNat = true ∧ pright t.toNat = true ∧ pright R.toNat = true ∧ S.toNat < 2305843009213688669 ∧ pbase S.toNat = padd (padd R.toNat (pscale p.toNat (chalO oo R p a).toNat)) (pneg t.toNat) := by
 rw [z_chk]
 unfold chkO
 generalize chalO oo R p a = e
 simp only [o_fright, o_pright, o_pbase, o_pall, o_pscale, o_pneg, List.map_cons, List.map_nil, Int.toNat_natCast, pall3]
 have h1 : (iBeq ((pbase S.toNat : Nat) : Int) ((padd (padd R.toNat (pscale p.toNat e.toNat)) (pneg t.toNat) : Nat) : Int) = true) ↔ pbase S.toNat = padd (padd R.toNat (pscale p.toNat e.toNat)) (pneg t.toNat) := by rw [iBeq_t, Int.natCast_inj]
 have h2 : (iBeq p 1 = false) ↔ p ≠ 1 := by rw [iBeq_f]
 have h3 : (fright S.toNat = true) ↔ S.toNat < 2305843009213688669 := by unfold fright; simp
 rw [← h1, ← h2, ← h3]
 cases iBeq p 1 <;> cases pright p.toNat <;> cases pright t.toNat <;> cases pright R.toNat <;> cases fright S.toNat <;> simp
theorem base_ne {k : Nat} (h0 : k ≠ 0) (h1 : k < 2305843009213688669) : pbase k ≠ 1 := fun h => h0 (base_one h h1)
theorem neg1 {r : Nat} (h : pright r = true) : padd r (pneg 1) = r := by
 have := (group_eq h right_one h).1 (by rw [add_one, taken_of h])
 exact this.symm
theorem fz_oo : FZ oo (zO oo) := by
 refine ⟨fun k hk => ?_, fun k hk => ?_, fun n t => ?_, fun k n m t => ?_, fun k n m t => ?_, fun a b => ?_, fun a b => ?_, fun k n m t hu hk ht => ?_, fun p m t R S hS => ?_, fun p m R S x hS hx h hfx => ?_, fun p m t R S hS => ?_, fun p m t S => ?_, fun p m t R S h => ?_, fun S t hS hf => ?_, fun S t ht hf => ?_, fun S a b ha hb fa fb => ?_, fun S t hS hf ht hft => ?_, fun t => ?_, ?_⟩
 ·rw [inU_t] at hk
  rw [Bool.eq_iff_iff, fr_iff, Bool.not_eq_true', iLe_f]; omega
 ·rw [inU_t] at hk
  rw [z_key, Bool.eq_iff_iff]
  simp only [Bool.and_eq_true, fr_iff, Bool.not_eq_true', iLe_f, iBne_t, iBeq_f]; omega
 ·rw [z_aR, o_padd]; exact inU_cast (by have := padd_lt (oo.pbase n).toNat t.toNat; omega)
 ·rw [z_aS, o_fadd]; exact inU_cast (by have := fadd_lt n.toNat (oo.fmul (chalO oo (oo.padd (oo.pbase n) t) (oo.pbase k) m) k).toNat; omega)
 ·rw [z_aS, o_fadd, fr_iff, Int.toNat_natCast]; exact fadd_lt _ _
 ·rw [o_fadd, fr_iff, Int.toNat_natCast]; exact fadd_lt _ _
 ·rw [o_fsub, fr_iff, Int.toNat_natCast]; exact fsub_lt _ _
 ·rw [z_key, Bool.and_eq_true, fr_iff, iBne_t] at hk
  rw [o_pright] at ht
  rw [chk_iff, z_aR, z_aS]
  generalize chalO oo (oo.padd (oo.pbase n) t) (oo.pbase k) m = e
  simp only [o_padd, o_pbase, o_fadd, o_fmul, Int.toNat_natCast]
  rw [inU_t] at hu
  refine ⟨fun h => base_ne (k := k.toNat) (by omega) hk.1 (by omega), right_base _, ht, right_add _ _, fadd_lt _ _, ?_⟩
  rw [base_add, r_comm_mul, ← base_mul]
  generalize pscale (pbase k.toNat) e.toNat = X
  have e1 : padd (padd (pbase n.toNat) t.toNat) X = padd (padd (pbase n.toNat) X) t.toNat := by rw [add_assoc, add_assoc, add_comm X t.toNat]
  rw [e1]
  have := add_sub (padd (pbase n.toNat) X) t.toNat
  rw [taken_of (right_add _ _)] at this
  exact this.symm
 ·rw [Bool.eq_iff_iff, chk_iff, chk_iff]
  rw [fr_iff] at hS
  generalize chalO oo R p m = e
  simp only [o_pbase, o_fadd, Int.toNat_natCast, show (1 : Int).toNat = 1 from rfl, base_add]
  have g1 := group_eq (right_base S.toNat) (right_base t.toNat) (right_add R.toNat (pscale p.toNat e.toNat))
  have g2 := neg1 (right_add R.toNat (pscale p.toNat e.toNat))
  rw [g2, ← g1]
  have := fadd_lt S.toNat t.toNat
  have := right_base t.toNat
  have := right_one
  constructor
  ·rintro ⟨a, b, c, d, e, f⟩; exact ⟨a, b, right_one, d, fadd_lt _ _, f⟩
  ·rintro ⟨a, b, c, d, e, f⟩; exact ⟨a, b, right_base _, d, hS, f⟩
 ·rw [chk_iff] at h
  rw [fr_iff] at hfx
  rw [inU_t] at hS hx
  obtain ⟨a, b, c, d, e, f⟩ := h
  rw [Bool.eq_iff_iff, chk_iff, iBeq_t, ← f]
  constructor
  ·rintro ⟨_, _, _, _, _, f'⟩
   have := base_inj hfx e f'
   omega
  ·rintro rfl; exact ⟨a, b, c, d, e, rfl⟩
 ·cases hc : (zO oo).chk p m t R S with
  | false => rfl
  | true => rw [chk_iff] at hc; have := (fr_iff S).2 hc.2.2.2.2.1; rw [hS] at this; cases this
 ·cases hc : (zO oo).chk p m t 0 S with
  | false => rfl
  | true => rw [chk_iff] at hc; have := ((right_iff 0).1 hc.2.2.2.1).1; omega
 ·rw [chk_iff] at h; exact (fr_iff S).2 h.2.2.2.2.1
 ·rw [inU_t] at hS
  rw [fr_iff] at hf
  rw [o_fadd, o_fsub, Int.toNat_natCast]; unfold fadd fsub fadd fneg; omega
 ·rw [inU_t] at ht
  rw [fr_iff] at hf
  rw [o_fsub, o_fadd, Int.toNat_natCast]; unfold fsub fadd fneg; omega
 ·rw [inU_t] at ha hb
  rw [fr_iff] at fa fb
  rw [o_fadd, o_fadd, Bool.eq_iff_iff, iBeq_t, iBeq_t]; unfold fadd; omega
 ·rw [inU_t] at hS ht
  rw [fr_iff] at hf hft
  rw [o_fadd, Bool.eq_iff_iff, iBeq_t, iBeq_t]; unfold fadd; omega
 ·rw [o_pright, o_pbase, Int.toNat_natCast]; exact right_base _
 ·rw [o_pright]; exact right_one
end
theorem p0_oo : oo.pright 0 = false := by
 rw [o_pright]
 cases h : pright (0 : Int).toNat with
 | false => rfl
 | true => exact absurd ((right_iff 0).1 h).1 (Nat.lt_irrefl 0)
theorem back_ne {O : OO} (G : FP O) {a b : Int} (ha : inU a 18446744073709551616 = true) (hb : inU b 18446744073709551616 = true) (hp : inU (O.pbase a) 18446744073709551616 = true) : iBne (O.pbase a) (O.padd (O.pbase a) (O.pbase b)) = !(iBeq (b % 2305843009213688669) 0) := by
 rw [inU_t] at ha hb
 by_cases h : b % 2305843009213688669 = 0
 ·have e : O.padd (O.pbase a) (O.pbase b) = O.pbase a := by
   rw [G.ba, G.fv a b (by rw [inU_t]; exact ha) (by rw [inU_t]; exact hb), show (a + b) % 2305843009213688669 = a % 2305843009213688669 by omega, G.bm a (by rw [inU_t]; exact ha)]
  rw [e, iBne_self, h]; rfl
 ·have e : O.padd (O.pbase a) (O.pbase b) ≠ O.pbase a := fun e => h (G.pn _ _ hp (by rw [inU_t]; exact hb) (G.pb a) e)
  have e1 : iBne (O.pbase a) (O.padd (O.pbase a) (O.pbase b)) = true := by rw [iBne_t]; exact fun h => e h.symm
  have e2 : iBeq (b % 2305843009213688669) 0 = false := by rw [iBeq_f]; exact h
  rw [e1, e2]; rfl
def g_small33 (l : List Value) : Option (Bool × Value) := match l with
 | [] => some (true, .bool true)
 | _ => none
theorem small33_calls (w : World) : Calls Try.prog 27 (List.toArray []) w fun e w' => e = .returned (.bool true) ∧ Fr (fun _ => False) w w' :=
 calls_real (I := I0) (H33.sp33_ok I0 H33.o33 rfl) (by kernel_rfl) [] Try.func27 (by kernel_rfl) rfl Try.ntmps27 (by decide)
  (Eq.mpr (by kernel_rfl : _ = (Value.bool true = Value.bool true)) rfl) w
theorem ok_small33 (I : Sx.Interp) : Sx.SpecOK I Try.prog 27 (Sx.vspec g_small33) := by
 refine Sx.spec_of_calls Try.func27 (by kernel_rfl) (by kernel_rfl) ?_
 intro l v hg w
 unfold g_small33 at hg
 split at hg
 ·simp only [Option.some.injEq, Prod.mk.injEq, true_and] at hg
  subst hg
  exact small33_calls w
 ·cases hg
def spTk (O : OO) (Z : OZ) (Y : OY) (Q : H33.O33) (f : FuncId) : Option Sx.Spec := match f with
 | 27 => some (vspec g_small33)
 | 30 => some (vspec (H33.g_hNext Q))
 | f => spL5 O Z Y f
theorem spTk_ok (I : Sx.Interp) (O : OO) (hO : O = oo) (Z : OZ) (hZ : Z = zO O) (Y : OY) (hY : Y = yO O) (Q : H33.O33) (hQ : Q = H33.o33) : ∀ f s, spTk O Z Y Q f = some s → Sx.SpecOK I Try.prog f s := by
 intro f s h
 unfold spTk at h
 split at h
 ·cases h; exact ok_small33 I
 ·cases h; exact H33.ok_hNext I Q hQ
 ·exact spL5_ok I O hO Z hZ Y hY _ s h
theorem may_23 (xa xe : Int) (xq : Nat) (a e : Int) (q : Nat) (b p d l m h j r nap : Int) : may xa xe xq a e q b p d l m h j r nap ≠ 23 := by
 unfold may hmay
 repeat (split <;> try decide)
theorem nx_oo (n c a e q bl xa xe b p d l m h j r nap : Int) (hq : inU q 18446744073709551616 = true) (hb : inU bl 18446744073709551616 = true) : (H33.o33.next n c a e q bl xa xe (oo.padd q (oo.pbase bl)) b p d l m h j r nap).2 ≠ 23 := by
 show (next n c a e q.toNat bl.toNat xa xe (oo.padd q (oo.pbase bl)).toNat b p d l m h j r nap).2 ≠ 23
 have e1 : (oo.padd q (oo.pbase bl)).toNat = padd q.toNat (pbase bl.toNat) := by
  rw [o_padd, o_pbase, Int.toNat_natCast, Int.toNat_natCast]
 rw [e1]
 unfold next
 have h1 := may_23 xa xe (padd q.toNat (pbase bl.toNat)) a e q.toNat b p d l m h j r nap
 generalize may xa xe (padd q.toNat (pbase bl.toNat)) a e q.toNat b p d l m h j r nap = M at *
 unfold hnext
 split
 ·decide
 ·split
  ·rename_i h; exact absurd rfl h
  ·split
   ·exact h1
   ·decide
set_option maxHeartbeats 4000000 in
theorem vc_hopTaken (O : OO) (Z : OZ) (Y : OY) (Q : H33.O33) (n c a e q bl secret xf xi xa xq xe b p d l m h j r nap key : Int) (mm : Nat → Int) (F : FO O) (G : FP O) (H : FZ O Z) (P0 : O.pright 0 = false) (HP : decide (p ≤ 9223372036854775807) = true) (HN : ∀ n c a e q bl xa xe b p d l m h j r nap : Int, inU q 18446744073709551616 = true → inU bl 18446744073709551616 = true → (Q.next n c a e q bl xa xe (O.padd q (O.pbase bl)) b p d l m h j r nap).2 ≠ 23) (h_q : inU q 18446744073709551616 = true) (h_bl : inU bl 18446744073709551616 = true) (h_secret : inU secret 18446744073709551616 = true) (h_xq : inU xq 18446744073709551616 = true) (h_key : inU key 18446744073709551616 = true) (h_mm : O.isH (AV mm) = true) :
 If (inU secret 18446744073709551616) (If (inU bl 18446744073709551616) (If (inU (O.pbase secret) 18446744073709551616 && inU (O.pbase bl) 18446744073709551616) (If (inU (O.pbase
  secret) 18446744073709551616 && inU bl 18446744073709551616 && inU (O.padd (O.pbase secret) (O.pbase bl)) 18446744073709551616 && iLe p 9223372036854775807) (If (inU
  (IntKind.u64.wrap (iAdd 1 (key.tmod 2305843009213688668))) 18446744073709551616) (If (inU (IntKind.u64.wrap (iAdd 1 (key.tmod 2305843009213688668))) 18446744073709551616 && O.isH
  (Array.mk (List.map (Value.int .u8) (tabI mm 32)))) (If (inU secret 18446744073709551616 && inU bl 18446744073709551616) (If (iBne (H33.O33.next Q n c a e (O.pbase secret) bl xa xe
  (O.padd (O.pbase secret) (O.pbase bl)) b p d l m h j r nap).2 23) (If (inU (O.pbase (IntKind.u64.wrap (iAdd 1 (key.tmod 2305843009213688668)))) 18446744073709551616 && inU (O.padd
  (O.pbase secret) (O.pbase bl)) 18446744073709551616 && inU (bif Z.key (IntKind.u64.wrap (iAdd 1 (key.tmod 2305843009213688668))) then Z.aR (Z.non (IntKind.u64.wrap (iAdd 1 (key.tmod
  2305843009213688668))) (Array.mk (List.map (Value.int .u8) (tabI mm 32)))) 1 else 0) 18446744073709551616 && inU (bif Z.key (IntKind.u64.wrap (iAdd 1 (key.tmod
  2305843009213688668))) then Z.aS (IntKind.u64.wrap (iAdd 1 (key.tmod 2305843009213688668))) (Z.non (IntKind.u64.wrap (iAdd 1 (key.tmod 2305843009213688668))) (Array.mk (List.map
  (Value.int .u8) (tabI mm 32)))) (Array.mk (List.map (Value.int .u8) (tabI mm 32))) 1 else 0) 18446744073709551616 && inU (O.fadd (O.fadd 0 secret) bl) 18446744073709551616 && O.isH
  (Array.mk (List.map (Value.int .u8) (tabI mm 32)))) (Value.bool (iBeq (openO O Z (O.pbase (IntKind.u64.wrap (iAdd 1 (key.tmod 2305843009213688668)))) (O.padd (O.pbase secret)
  (O.pbase bl)) (O.fadd (O.fadd 0 secret) bl) (bif Z.key (IntKind.u64.wrap (iAdd 1 (key.tmod 2305843009213688668))) then Z.aR (Z.non (IntKind.u64.wrap (iAdd 1 (key.tmod
  2305843009213688668))) (Array.mk (List.map (Value.int .u8) (tabI mm 32)))) 1 else 0) (bif Z.key (IntKind.u64.wrap (iAdd 1 (key.tmod 2305843009213688668))) then Z.aS
  (IntKind.u64.wrap (iAdd 1 (key.tmod 2305843009213688668))) (Z.non (IntKind.u64.wrap (iAdd 1 (key.tmod 2305843009213688668))) (Array.mk (List.map (Value.int .u8) (tabI mm 32))))
  (Array.mk (List.map (Value.int .u8) (tabI mm 32))) 1 else 0) (Array.mk (List.map (Value.int .u8) (tabI mm 32)))) 0) = Value.bool true) False) (Value.bool false = Value.bool true))
  False) False) False) False) False) False) False := by
 have hAmm : O.isH (Array.mk (List.map (Value.int IntKind.u8) (tabI mm 32))) = true := h_mm
 have hk0 := h_key
 have hb0 := h_bl
 rw [inU_t] at hk0 hb0
 have e1 : key.tmod 2305843009213688668 = key % 2305843009213688668 := Int.tmod_eq_emod_of_nonneg hk0.1
 have e2 : IntKind.u64.wrap (1 + key % 2305843009213688668) = 1 + key % 2305843009213688668 := by rw [IntKind.wrap_u64]; omega
 have hN := HN n c a e (O.pbase secret) bl xa xe b p d l m h j r nap (F.pbase _) h_bl
 generalize H33.O33.next Q n c a e (O.pbase secret) bl xa xe (O.padd (O.pbase secret) (O.pbase bl)) b p d l m h j r nap = X at *
 simp only [Sx.app, Sx.nAdd, Sx.nSub, Sx.nMul, Sx.nPow, Sx.nDiv, Sx.nMod, Sx.iAdd, Sx.iSub, Sx.iMul, Sx.iNeg, Sx.iPow, Sx.iOf, e1, e2]
 obtain ⟨k, ek⟩ : ∃ k, k = 1 + key % 2305843009213688668 := ⟨_, rfl⟩
 simp only [← ek]
 have h_k : inU k 18446744073709551616 = true := by rw [inU_t]; omega
 have hk : Z.key k = true := by
  rw [H.key k h_k, show iBeq k 0 = false by simp only [Bool.and_eq_true, Bool.or_eq_true, Sx.iLt_t, Sx.iLt_f, Sx.iLe_t, Sx.iLe_f, Sx.iEq_t, Sx.iEq_f, Sx.iBeq_t, Sx.iBeq_f, Sx.iBne_t, Sx.iBne_f, Nat.ble_eq, Nat.beq_eq, Sx.Cont.n]; omega, show iLe 2305843009213688669 k = false by simp only [Bool.and_eq_true, Bool.or_eq_true, Sx.iLt_t, Sx.iLt_f, Sx.iLe_t, Sx.iLe_f, Sx.iEq_t, Sx.iEq_f, Sx.iBeq_t, Sx.iBeq_f, Sx.iBne_t, Sx.iBne_f, Nat.ble_eq, Nat.beq_eq, Sx.Cont.n]; omega]
  rfl
 generalize hM : (Array.mk (List.map (Value.int IntKind.u8) (tabI mm 32)) : Array Value) = M at *
 have hB : O.pbase (O.fadd (O.fadd 0 secret) bl) = O.padd (O.pbase secret) (O.pbase bl) := by rw [← G.ba, G.fv 0 secret (by decide) h_secret, Int.zero_add, G.bm secret h_secret]
 have hps : O.pright (O.padd (O.pbase secret) (O.pbase bl)) = true := G.pa _ _
 have hsu : inU (O.padd (O.pbase secret) (O.pbase bl)) 18446744073709551616 = true := F.padd _ _
 generalize hs : O.padd (O.pbase secret) (O.pbase bl) = s at *
 have hs0 : iBne s 0 = true := by
  rw [iBne_t]
  intro e
  rw [e, P0] at hps
  cases hps
 have hlr : lrO O (O.pbase k) s = true := by
  unfold lrO
  rw [G.pb, hs0, hps]; rfl
 have hch : ∀ n, Z.chk (O.pbase k) M 1 (Z.aR n 1) (Z.aS k n M 1) = true := fun n => H.hold k n M 1 h_k hk H.p1
 have o1 : ∀ n, openO O Z (O.pbase k) s (O.fadd (O.fadd 0 secret) bl) (Z.aR n 1) (Z.aS k n M 1) M = 0 := fun n => by
  unfold openO
  rw [hlr, hs0, hB, iBne_self, hch]; rfl
 have hX : iBne X.2 23 = true := by rw [iBne_t]; exact hN
 have hHP : iLe p 9223372036854775807 = true := HP
 have hAm : O.isH M = true := by rw [← hM]; exact h_mm
 simp only [hk, h_k, h_secret, h_bl, hAm, hsu, o1, hX, hHP, F.fadd, F.pbase, H.sR, H.sS, Bool.and_self, Bool.and_true, Bool.true_and, cond_true, cond_false, If_t, If_f]
 rfl

theorem wpc_hopTaken (O : OO) (Z : OZ) (Y : OY) (Q : H33.O33) (n c a e q bl secret xf xi xa xq xe b p d l m h j r nap key : Int) (mm : Nat → Int) (F : FO O) (G : FP O) (H : FZ O Z) (P0 : O.pright 0 = false) (HP : decide (p ≤ 9223372036854775807) = true) (HN : ∀ n c a e q bl xa xe b p d l m h j r nap : Int, inU q 18446744073709551616 = true → inU bl 18446744073709551616 = true → (Q.next n c a e q bl xa xe (O.padd q (O.pbase bl)) b p d l m h j r nap).2 ≠ 23) (h_q : inU q 18446744073709551616 = true) (h_bl : inU bl 18446744073709551616 = true) (h_secret : inU secret 18446744073709551616 = true) (h_xq : inU xq 18446744073709551616 = true) (h_key : inU key 18446744073709551616 = true) (h_mm : O.isH (AV mm) = true) : wpcI Try.prog (spTk O Z Y Q) Try.f13.ntmps [] (bodyOf Try.f13) 0 0 (argEnv [.agg ⟨[.int .i64 n, .int .i64 c, .int .i64 a, .int .i64 e, .int .u64 q, .int .u64 bl]⟩, .int .u64 secret, .agg ⟨[.int .i64 xf, .int .i64 xi, .int .i64 xa, .int .u64 xq, .int .i64 xe]⟩, .agg ⟨[.int .i64 b, .int .i64 p, .int .i64 d, .int .i64 l, .int .i64 m]⟩, .int .i64 h, .agg ⟨[.int .i64 j, .int .i64 r, .int .i64 nap]⟩, .int .u64 key, .agg (AV mm)] 0) [] (retK Try.prog Try.f13.results.toList (.bool true)) :=
 Eq.mpr (by kernel_rfl) (vc_hopTaken O Z Y Q n c a e q bl secret xf xi xa xq xe b p d l m h j r nap key mm F G H P0 HP HN h_q h_bl h_secret h_xq h_key h_mm)
theorem walk_hopTaken (n : Int) (hb_n : -9223372036854775808 ≤ n ∧ n ≤ 9223372036854775807) (c : Int) (hb_c : -9223372036854775808 ≤ c ∧ c ≤ 9223372036854775807) (a : Int) (hb_a : -9223372036854775808 ≤ a ∧ a ≤ 9223372036854775807) (e : Int) (hb_e : -9223372036854775808 ≤ e ∧ e ≤ 9223372036854775807) (q : Nat) (hb_q : q < 18446744073709551616) (bl : Nat) (hb_bl : bl < 18446744073709551616) (secret : Nat) (hb_secret : secret < 18446744073709551616) (xf : Int) (hb_xf : -9223372036854775808 ≤ xf ∧ xf ≤ 9223372036854775807) (xi : Int) (hb_xi : -9223372036854775808 ≤ xi ∧ xi ≤ 9223372036854775807) (xa : Int) (hb_xa : -9223372036854775808 ≤ xa ∧ xa ≤ 9223372036854775807) (xq : Nat) (hb_xq : xq < 18446744073709551616) (xe : Int) (hb_xe : -9223372036854775808 ≤ xe ∧ xe ≤ 9223372036854775807) (b : Int) (hb_b : -9223372036854775808 ≤ b ∧ b ≤ 9223372036854775807) (p : Int) (hb_p : -9223372036854775808 ≤ p ∧ p ≤ 9223372036854775807) (d : Int) (hb_d : -9223372036854775808 ≤ d ∧ d ≤ 9223372036854775807) (l : Int) (hb_l : -9223372036854775808 ≤ l ∧ l ≤ 9223372036854775807) (m : Int) (hb_m : -9223372036854775808 ≤ m ∧ m ≤ 9223372036854775807) (h : Int) (hb_h : -9223372036854775808 ≤ h ∧ h ≤ 9223372036854775807) (j : Int) (hb_j : -9223372036854775808 ≤ j ∧ j ≤ 9223372036854775807) (r : Int) (hb_r : -9223372036854775808 ≤ r ∧ r ≤ 9223372036854775807) (nap : Int) (hb_nap : -9223372036854775808 ≤ nap ∧ nap ≤ 9223372036854775807) (key : Nat) (hb_key : key < 18446744073709551616) (l_mm : List Nat) (hl_mm : l_mm.length = 32) (hb_mm : ∀ i, l_mm.getD i 0 < 256) (w : World) : Calls Try.prog 13 #[.agg ⟨[.int .i64 n, .int .i64 c, .int .i64 a, .int .i64 e, .int .u64 (q : Int), .int .u64 (bl : Int)]⟩, .int .u64 (secret : Int), .agg ⟨[.int .i64 xf, .int .i64 xi, .int .i64 xa, .int .u64 (xq : Int), .int .i64 xe]⟩, .agg ⟨[.int .i64 b, .int .i64 p, .int .i64 d, .int .i64 l, .int .i64 m]⟩, .int .i64 h, .agg ⟨[.int .i64 j, .int .i64 r, .int .i64 nap]⟩, .int .u64 (key : Int), B8 l_mm] w fun e w' => e = .returned (.bool true) ∧ Kp w w' := by
 obtain ⟨mm, e_mm, i_mm⟩ := bcs_AV l_mm hl_mm hb_mm
 rw [show (B8 l_mm : Value) = .agg (AV mm) from congrArg Value.agg e_mm]
 exact (calls_realI (I := I0) (spTk_ok I0 oo rfl (zO oo) rfl (yO oo) rfl H33.o33 rfl) (by kernel_rfl) [] (l := [.agg ⟨[.int .i64 (n : Int), .int .i64 (c : Int), .int .i64 (a : Int), .int .i64 (e : Int), .int .u64 (q : Int), .int .u64 (bl : Int)]⟩, .int .u64 (secret : Int), .agg ⟨[.int .i64 (xf : Int), .int .i64 (xi : Int), .int .i64 (xa : Int), .int .u64 (xq : Int), .int .i64 (xe : Int)]⟩, .agg ⟨[.int .i64 b, .int .i64 p, .int .i64 d, .int .i64 l, .int .i64 m]⟩, .int .i64 h, .agg ⟨[.int .i64 j, .int .i64 r, .int .i64 nap]⟩, .int .u64 (key : Int), .agg (AV mm)]) Try.func13 (by kernel_rfl) rfl Try.ntmps13 (by simp) (wpc_hopTaken oo (zO oo) (yO oo) H33.o33 (n : Int) (c : Int) (a : Int) (e : Int) (q : Int) (bl : Int) (secret : Int) (xf : Int) (xi : Int) (xa : Int) (xq : Int) (xe : Int) (b : Int) (p : Int) (d : Int) (l : Int) (m : Int) (h : Int) (j : Int) (r : Int) (nap : Int) (key : Int) mm (fo_oo oo rfl) fp_oo fz_oo p0_oo (decide_eq_true hb_p.2) nx_oo (inU_of hb_q) (inU_of hb_bl) (inU_of hb_secret) (inU_of hb_xq) (inU_of hb_key) (isH_oo i_mm)) w).mono fun _ _ ⟨he, hf⟩ => ⟨he, fr_below hf⟩
end Go.Proofs.Ytcdmmfelagbpdaa
