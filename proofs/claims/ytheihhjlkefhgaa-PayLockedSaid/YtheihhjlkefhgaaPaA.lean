/- PayLocked: the walk, by the symbolic machine (printed by genpa9.py; VC by VcTool). -/
import Derived.Test.YtheihhjlkefhgaaPa9
namespace Go.Proofs.Ytheihhjlkefhgaa
open Go.RowKit Go.Lib Ckp Cfd Cpd Sx
set_option linter.unusedVariables false
set_option linter.unusedSimpArgs false
set_option maxRecDepth 1000000


/-- What the laws ask of the functions. -/
structure FZ (O : OO) (Z : OZ) : Prop where
  fr : ∀ k, inU k 18446744073709551616 = true → O.fright k = !(iLe 2305843009213688669 k)
  key : ∀ k, inU k 18446744073709551616 = true → Z.key k = (!(iBeq k 0) && !(iLe 2305843009213688669 k))
  sR : ∀ n t, inU (Z.aR n t) 18446744073709551616 = true
  sS : ∀ k n m t, inU (Z.aS k n m t) 18446744073709551616 = true
  sF : ∀ k n m t, O.fright (Z.aS k n m t) = true
  aF : ∀ a b, O.fright (O.fadd a b) = true
  bF : ∀ a b, O.fright (O.fsub a b) = true
  hold : ∀ k n m t, inU k 18446744073709551616 = true → Z.key k = true → O.pright t = true → Z.chk (O.pbase k) m t (Z.aR n t) (Z.aS k n m t) = true
  shift : ∀ p m t R S, O.fright S = true → Z.chk p m (O.pbase t) R S = Z.chk p m 1 R (O.fadd S t)
  uniq : ∀ p m R S x, inU S 18446744073709551616 = true → inU x 18446744073709551616 = true → Z.chk p m 1 R S = true → O.fright x = true → Z.chk p m 1 R x = iBeq x S
  chkF : ∀ p m t R S, O.fright S = false → Z.chk p m t R S = false
  chk0 : ∀ p m t S, Z.chk p m t 0 S = false
  chkS : ∀ p m t R S, Z.chk p m t R S = true → O.fright S = true
  addsub : ∀ S t, inU S 18446744073709551616 = true → O.fright S = true → O.fadd (O.fsub S t) t = S
  subadd : ∀ S t, inU t 18446744073709551616 = true → O.fright t = true → O.fsub (O.fadd S t) S = t
  inj : ∀ S a b, inU a 18446744073709551616 = true → inU b 18446744073709551616 = true → O.fright a = true → O.fright b = true → iBeq (O.fadd S a) (O.fadd S b) = iBeq a b
  add0 : ∀ S t, inU S 18446744073709551616 = true → O.fright S = true → inU t 18446744073709551616 = true → O.fright t = true → iBeq S (O.fadd S t) = iBeq t 0
  pb : ∀ t, O.pright (O.pbase t) = true
  p1 : O.pright 1 = true
theorem inU_0 : inU 0 18446744073709551616 = true := by decide
theorem ne_fr {O : OO} {a b : Int} (ha : O.fright a = false) (hb : O.fright b = true) : iBeq a b = false := by
  cases h : iBeq a b with
  | false => rfl
  | true => rw [iBeq_t] at h; rw [h, hb] at ha; cases ha
theorem beq_b (a : Bool) : (a == a) = true := by cases a <;> rfl
theorem iBeq_self (a : Int) : iBeq a a = true := by simp [iBeq]
theorem iBne_self (a : Int) : iBne a a = false := by simp [iBne]
theorem eqv2 (a b c d : Int) : eqv (Array.mk [Value.int .u64 a, Value.int .u64 b]) (Array.mk [Value.int .u64 c, Value.int .u64 d]) = (iBeq a c && iBeq b d) := by
  have e : eqv (Array.mk [Value.int .u64 a, Value.int .u64 b]) (Array.mk [Value.int .u64 c, Value.int .u64 d]) = (decide (a = c) && (decide (b = d) && true)) := by rfl
  rw [e, Bool.and_true, Bool.eq_iff_iff]; simp [iBeq]

section
theorem o_fmul (a b : Int) : oo.fmul a b = ((fmul a.toNat b.toNat : Nat) : Int) := by kernel_rfl
theorem o_fright (a : Int) : oo.fright a = fright a.toNat := by kernel_rfl
theorem o_pscale (a b : Int) : oo.pscale a b = ((pscale a.toNat b.toNat : Nat) : Int) := by kernel_rfl
theorem o_pneg (a : Int) : oo.pneg a = ((pneg a.toNat : Nat) : Int) := by kernel_rfl
theorem o_pall (l : List Int) : oo.pall l = ((pall (l.map Int.toNat) : Nat) : Int) := by
  have e : oo.pall l = pallI l := by kernel_rfl
  rw [e, pallI_nat]
theorem z_chk (p : Int) (a : Array Value) (t R S : Int) : (zO oo).chk p a t R S = chkO oo p a t R S := by kernel_rfl
theorem z_aR (n t : Int) : (zO oo).aR n t = oo.padd (oo.pbase n) t := by kernel_rfl
theorem z_aS (k n : Int) (a : Array Value) (t : Int) : (zO oo).aS k n a t = oo.fadd n (oo.fmul (chalO oo (oo.padd (oo.pbase n) t) (oo.pbase k) a) k) := by kernel_rfl
theorem z_key (k : Int) : (zO oo).key k = (oo.fright k && iBne k 0) := by kernel_rfl
theorem fr_iff (x : Int) : oo.fright x = true ↔ x.toNat < 2305843009213688669 := by rw [o_fright]; unfold fright; simp
theorem chk_iff (p : Int) (a : Array Value) (t R S : Int) : (zO oo).chk p a t R S = true ↔ p ≠ 1 ∧ pright p.toNat = true ∧ pright t.toNat = true ∧ pright R.toNat = true ∧ S.toNat < 2305843009213688669 ∧ pbase S.toNat = padd (padd R.toNat (pscale p.toNat (chalO oo R p a).toNat)) (pneg t.toNat) := by
  rw [z_chk]
  unfold chkO
  generalize chalO oo R p a = e
  simp only [o_fright, o_pright, o_pbase, o_pall, o_pscale, o_pneg, List.map_cons, List.map_nil, Int.toNat_natCast, pall3]
  have h1 : (iBeq ((pbase S.toNat : Nat) : Int) ((padd (padd R.toNat (pscale p.toNat e.toNat)) (pneg t.toNat) : Nat) : Int) = true) ↔ pbase S.toNat = padd (padd R.toNat (pscale p.toNat e.toNat)) (pneg t.toNat) := by rw [iBeq_t, Int.natCast_inj]
  have h2 : (iBeq p 1 = false) ↔ p ≠ 1 := by rw [iBeq_f]
  have h3 : (fright S.toNat = true) ↔ S.toNat < 2305843009213688669 := by unfold fright; simp
  rw [← h1, ← h2, ← h3]
  cases iBeq p 1 <;> cases pright p.toNat <;> cases pright t.toNat <;> cases pright R.toNat <;> cases fright S.toNat <;> simp
theorem base_ne {k : Nat} (h0 : k ≠ 0) (h1 : k < 2305843009213688669) : pbase k ≠ 1 := fun h => h0 (base_one h h1)
theorem neg1 {r : Nat} (h : pright r = true) : padd r (pneg 1) = r := by
  have := (group_eq h right_one h).1 (by rw [add_one, taken_of h])
  exact this.symm
theorem fz_oo : FZ oo (zO oo) := by
  refine ⟨fun k hk => ?_, fun k hk => ?_, fun n t => ?_, fun k n m t => ?_, fun k n m t => ?_, fun a b => ?_, fun a b => ?_, fun k n m t hu hk ht => ?_, fun p m t R S hS => ?_, fun p m R S x hS hx h hfx => ?_, fun p m t R S hS => ?_, fun p m t S => ?_, fun p m t R S h => ?_, fun S t hS hf => ?_, fun S t ht hf => ?_, fun S a b ha hb fa fb => ?_, fun S t hS hf ht hft => ?_, fun t => ?_, ?_⟩
  · rw [inU_t] at hk
    rw [Bool.eq_iff_iff, fr_iff, Bool.not_eq_true', iLe_f]; omega
  · rw [inU_t] at hk
    rw [z_key, Bool.eq_iff_iff]
    simp only [Bool.and_eq_true, fr_iff, Bool.not_eq_true', iLe_f, iBne_t, iBeq_f]; omega
  · rw [z_aR, o_padd]; exact inU_cast (by have := padd_lt (oo.pbase n).toNat t.toNat; omega)
  · rw [z_aS, o_fadd]; exact inU_cast (by have := fadd_lt n.toNat (oo.fmul (chalO oo (oo.padd (oo.pbase n) t) (oo.pbase k) m) k).toNat; omega)
  · rw [z_aS, o_fadd, fr_iff, Int.toNat_natCast]; exact fadd_lt _ _
  · rw [o_fadd, fr_iff, Int.toNat_natCast]; exact fadd_lt _ _
  · rw [o_fsub, fr_iff, Int.toNat_natCast]; exact fsub_lt _ _
  · rw [z_key, Bool.and_eq_true, fr_iff, iBne_t] at hk
    rw [o_pright] at ht
    rw [chk_iff, z_aR, z_aS]
    generalize chalO oo (oo.padd (oo.pbase n) t) (oo.pbase k) m = e
    simp only [o_padd, o_pbase, o_fadd, o_fmul, Int.toNat_natCast]
    rw [inU_t] at hu
    refine ⟨fun h => base_ne (k := k.toNat) (by omega) hk.1 (by omega), right_base _, ht, right_add _ _, fadd_lt _ _, ?_⟩
    rw [base_add, r_comm_mul, ← base_mul]
    generalize pscale (pbase k.toNat) e.toNat = X
    have e1 : padd (padd (pbase n.toNat) t.toNat) X = padd (padd (pbase n.toNat) X) t.toNat := by rw [add_assoc, add_assoc, add_comm X t.toNat]
    rw [e1]
    have := add_sub (padd (pbase n.toNat) X) t.toNat
    rw [taken_of (right_add _ _)] at this
    exact this.symm
  · rw [Bool.eq_iff_iff, chk_iff, chk_iff]
    rw [fr_iff] at hS
    generalize chalO oo R p m = e
    simp only [o_pbase, o_fadd, Int.toNat_natCast, show (1 : Int).toNat = 1 from rfl, base_add]
    have g1 := group_eq (right_base S.toNat) (right_base t.toNat) (right_add R.toNat (pscale p.toNat e.toNat))
    have g2 := neg1 (right_add R.toNat (pscale p.toNat e.toNat))
    rw [g2, ← g1]
    have := fadd_lt S.toNat t.toNat
    have := right_base t.toNat
    have := right_one
    constructor
    · rintro ⟨a, b, c, d, e, f⟩; exact ⟨a, b, right_one, d, fadd_lt _ _, f⟩
    · rintro ⟨a, b, c, d, e, f⟩; exact ⟨a, b, right_base _, d, hS, f⟩
  · rw [chk_iff] at h
    rw [fr_iff] at hfx
    rw [inU_t] at hS hx
    obtain ⟨a, b, c, d, e, f⟩ := h
    rw [Bool.eq_iff_iff, chk_iff, iBeq_t, ← f]
    constructor
    · rintro ⟨_, _, _, _, _, f'⟩
      have := base_inj hfx e f'
      omega
    · rintro rfl; exact ⟨a, b, c, d, e, rfl⟩
  · cases hc : (zO oo).chk p m t R S with
    | false => rfl
    | true => rw [chk_iff] at hc; have := (fr_iff S).2 hc.2.2.2.2.1; rw [hS] at this; cases this
  · cases hc : (zO oo).chk p m t 0 S with
    | false => rfl
    | true => rw [chk_iff] at hc; have := ((right_iff 0).1 hc.2.2.2.1).1; omega
  · rw [chk_iff] at h; exact (fr_iff S).2 h.2.2.2.2.1
  · rw [inU_t] at hS
    rw [fr_iff] at hf
    rw [o_fadd, o_fsub, Int.toNat_natCast]; unfold fadd fsub fadd fneg; omega
  · rw [inU_t] at ht
    rw [fr_iff] at hf
    rw [o_fsub, o_fadd, Int.toNat_natCast]; unfold fsub fadd fneg; omega
  · rw [inU_t] at ha hb
    rw [fr_iff] at fa fb
    rw [o_fadd, o_fadd, Bool.eq_iff_iff, iBeq_t, iBeq_t]; unfold fadd; omega
  · rw [inU_t] at hS ht
    rw [fr_iff] at hf hft
    rw [o_fadd, Bool.eq_iff_iff, iBeq_t, iBeq_t]; unfold fadd; omega
  · rw [o_pright, o_pbase, Int.toNat_natCast]; exact right_base _
  · rw [o_pright]; exact right_one
end
theorem p0_oo : oo.pright 0 = false := by
  rw [o_pright]
  cases h : pright (0 : Int).toNat with
  | false => rfl
  | true => exact absurd ((right_iff 0).1 h).1 (Nat.lt_irrefl 0)
theorem back_ne {O : OO} (G : FP O) {a b : Int} (ha : inU a 18446744073709551616 = true) (hb : inU b 18446744073709551616 = true) (hp : inU (O.pbase a) 18446744073709551616 = true) : iBne (O.pbase a) (O.padd (O.pbase a) (O.pbase b)) = !(iBeq (b % 2305843009213688669) 0) := by
  rw [inU_t] at ha hb
  by_cases h : b % 2305843009213688669 = 0
  · have e : O.padd (O.pbase a) (O.pbase b) = O.pbase a := by
      rw [G.ba, G.fv a b (by rw [inU_t]; exact ha) (by rw [inU_t]; exact hb), show (a + b) % 2305843009213688669 = a % 2305843009213688669 by omega, G.bm a (by rw [inU_t]; exact ha)]
    rw [e, iBne_self, h]; rfl
  · have e : O.padd (O.pbase a) (O.pbase b) ≠ O.pbase a := fun e => h (G.pn _ _ hp (by rw [inU_t]; exact hb) (G.pb a) e)
    have e1 : iBne (O.pbase a) (O.padd (O.pbase a) (O.pbase b)) = true := by rw [iBne_t]; exact fun h => e h.symm
    have e2 : iBeq (b % 2305843009213688669) 0 = false := by rw [iBeq_f]; exact h
    rw [e1, e2]; rfl
set_option maxHeartbeats 4000000 in
theorem vc_paLocked (O : OO) (Z : OZ) (Y : OY) (secret blind key : Int) (m : Nat → Int) (F : FO O) (G : FP O) (H : FZ O Z) (P0 : O.pright 0 = false) (h_secret : inU secret 18446744073709551616 = true) (h_blind : inU blind 18446744073709551616 = true) (h_key : inU key 18446744073709551616 = true) (h_m : O.isH (AV m) = true) :
  If (inU secret 18446744073709551616 && inUs 18446744073709551616 [blind] && [blind].length.ble 1000)
    (If (frB O (O.pbase secret) (iOf [blind].length)) (Value.bool false = Value.bool true)
      (If (inU (IntKind.u64.wrap (iAdd 1 (key.tmod 2305843009213688668))) 18446744073709551616)
        (If (inU (IntKind.u64.wrap (iAdd 1 (key.tmod 2305843009213688668))) 18446744073709551616 && O.isH (Array.mk (List.map (Value.int IntKind.u8) (tabI m 32))))
          (If (inU secret 18446744073709551616 && inU blind 18446744073709551616)
            (If
              (inU (O.pbase (IntKind.u64.wrap (iAdd 1 (key.tmod 2305843009213688668)))) 18446744073709551616 && inU ((fromO O (O.pbase secret) [blind]).getD 0 0) 18446744073709551616 &&
                      inU
                        (bif Z.key (IntKind.u64.wrap (iAdd 1 (key.tmod 2305843009213688668))) then
                          Z.aR (Z.non (IntKind.u64.wrap (iAdd 1 (key.tmod 2305843009213688668))) (Array.mk (List.map (Value.int IntKind.u8) (tabI m 32)))) 1
                        else 0)
                        18446744073709551616 &&
                    inU
                      (bif Z.key (IntKind.u64.wrap (iAdd 1 (key.tmod 2305843009213688668))) then
                        Z.aS (IntKind.u64.wrap (iAdd 1 (key.tmod 2305843009213688668)))
                          (Z.non (IntKind.u64.wrap (iAdd 1 (key.tmod 2305843009213688668))) (Array.mk (List.map (Value.int IntKind.u8) (tabI m 32))))
                          (Array.mk (List.map (Value.int IntKind.u8) (tabI m 32))) 1
                      else 0)
                      18446744073709551616 &&
                  inU secret 18446744073709551616 &&
                O.isH (Array.mk (List.map (Value.int IntKind.u8) (tabI m 32))))
              (If (iBeq (blind.tmod 2305843009213688669) 0)
                (If
                  (inU (O.pbase (IntKind.u64.wrap (iAdd 1 (key.tmod 2305843009213688668)))) 18446744073709551616 && inU ((fromO O (O.pbase secret) [blind]).getD 0 0) 18446744073709551616 &&
                          inU
                            (bif Z.key (IntKind.u64.wrap (iAdd 1 (key.tmod 2305843009213688668))) then
                              Z.aR (Z.non (IntKind.u64.wrap (iAdd 1 (key.tmod 2305843009213688668))) (Array.mk (List.map (Value.int IntKind.u8) (tabI m 32)))) 1
                            else 0)
                            18446744073709551616 &&
                        inU
                          (bif Z.key (IntKind.u64.wrap (iAdd 1 (key.tmod 2305843009213688668))) then
                            Z.aS (IntKind.u64.wrap (iAdd 1 (key.tmod 2305843009213688668)))
                              (Z.non (IntKind.u64.wrap (iAdd 1 (key.tmod 2305843009213688668))) (Array.mk (List.map (Value.int IntKind.u8) (tabI m 32))))
                              (Array.mk (List.map (Value.int IntKind.u8) (tabI m 32))) 1
                          else 0)
                          18446744073709551616 &&
                      inU (O.fadd (O.fadd 0 secret) blind) 18446744073709551616 &&
                    O.isH (Array.mk (List.map (Value.int IntKind.u8) (tabI m 32))))
                  (If
                    (iBeq
                      (openO O Z (O.pbase (IntKind.u64.wrap (iAdd 1 (key.tmod 2305843009213688668)))) ((fromO O (O.pbase secret) [blind]).getD 0 0) (O.fadd (O.fadd 0 secret) blind)
                        (bif Z.key (IntKind.u64.wrap (iAdd 1 (key.tmod 2305843009213688668))) then
                          Z.aR (Z.non (IntKind.u64.wrap (iAdd 1 (key.tmod 2305843009213688668))) (Array.mk (List.map (Value.int IntKind.u8) (tabI m 32)))) 1
                        else 0)
                        (bif Z.key (IntKind.u64.wrap (iAdd 1 (key.tmod 2305843009213688668))) then
                          Z.aS (IntKind.u64.wrap (iAdd 1 (key.tmod 2305843009213688668)))
                            (Z.non (IntKind.u64.wrap (iAdd 1 (key.tmod 2305843009213688668))) (Array.mk (List.map (Value.int IntKind.u8) (tabI m 32))))
                            (Array.mk (List.map (Value.int IntKind.u8) (tabI m 32))) 1
                        else 0)
                        (Array.mk (List.map (Value.int IntKind.u8) (tabI m 32))))
                      0)
                    (Value.bool
                        (iBeq
                          (openO O Z (O.pbase (IntKind.u64.wrap (iAdd 1 (key.tmod 2305843009213688668)))) ((fromO O (O.pbase secret) [blind]).getD 0 0) secret
                            (bif Z.key (IntKind.u64.wrap (iAdd 1 (key.tmod 2305843009213688668))) then
                              Z.aR (Z.non (IntKind.u64.wrap (iAdd 1 (key.tmod 2305843009213688668))) (Array.mk (List.map (Value.int IntKind.u8) (tabI m 32)))) 1
                            else 0)
                            (bif Z.key (IntKind.u64.wrap (iAdd 1 (key.tmod 2305843009213688668))) then
                              Z.aS (IntKind.u64.wrap (iAdd 1 (key.tmod 2305843009213688668)))
                                (Z.non (IntKind.u64.wrap (iAdd 1 (key.tmod 2305843009213688668))) (Array.mk (List.map (Value.int IntKind.u8) (tabI m 32))))
                                (Array.mk (List.map (Value.int IntKind.u8) (tabI m 32))) 1
                            else 0)
                            (Array.mk (List.map (Value.int IntKind.u8) (tabI m 32))))
                          0) =
                      Value.bool true)
                    (Value.bool false = Value.bool true))
                  False)
                (If
                  (inU (O.pbase (IntKind.u64.wrap (iAdd 1 (key.tmod 2305843009213688668)))) 18446744073709551616 && inU ((fromO O (O.pbase secret) [blind]).getD 0 0) 18446744073709551616 &&
                          inU
                            (bif Z.key (IntKind.u64.wrap (iAdd 1 (key.tmod 2305843009213688668))) then
                              Z.aR (Z.non (IntKind.u64.wrap (iAdd 1 (key.tmod 2305843009213688668))) (Array.mk (List.map (Value.int IntKind.u8) (tabI m 32)))) 1
                            else 0)
                            18446744073709551616 &&
                        inU
                          (bif Z.key (IntKind.u64.wrap (iAdd 1 (key.tmod 2305843009213688668))) then
                            Z.aS (IntKind.u64.wrap (iAdd 1 (key.tmod 2305843009213688668)))
                              (Z.non (IntKind.u64.wrap (iAdd 1 (key.tmod 2305843009213688668))) (Array.mk (List.map (Value.int IntKind.u8) (tabI m 32))))
                              (Array.mk (List.map (Value.int IntKind.u8) (tabI m 32))) 1
                          else 0)
                          18446744073709551616 &&
                      inU (O.fadd (O.fadd 0 secret) blind) 18446744073709551616 &&
                    O.isH (Array.mk (List.map (Value.int IntKind.u8) (tabI m 32))))
                  (If
                    (iBeq
                      (openO O Z (O.pbase (IntKind.u64.wrap (iAdd 1 (key.tmod 2305843009213688668)))) ((fromO O (O.pbase secret) [blind]).getD 0 0) (O.fadd (O.fadd 0 secret) blind)
                        (bif Z.key (IntKind.u64.wrap (iAdd 1 (key.tmod 2305843009213688668))) then
                          Z.aR (Z.non (IntKind.u64.wrap (iAdd 1 (key.tmod 2305843009213688668))) (Array.mk (List.map (Value.int IntKind.u8) (tabI m 32)))) 1
                        else 0)
                        (bif Z.key (IntKind.u64.wrap (iAdd 1 (key.tmod 2305843009213688668))) then
                          Z.aS (IntKind.u64.wrap (iAdd 1 (key.tmod 2305843009213688668)))
                            (Z.non (IntKind.u64.wrap (iAdd 1 (key.tmod 2305843009213688668))) (Array.mk (List.map (Value.int IntKind.u8) (tabI m 32))))
                            (Array.mk (List.map (Value.int IntKind.u8) (tabI m 32))) 1
                        else 0)
                        (Array.mk (List.map (Value.int IntKind.u8) (tabI m 32))))
                      0)
                    (Value.bool
                        (iBeq
                          (openO O Z (O.pbase (IntKind.u64.wrap (iAdd 1 (key.tmod 2305843009213688668)))) ((fromO O (O.pbase secret) [blind]).getD 0 0) secret
                            (bif Z.key (IntKind.u64.wrap (iAdd 1 (key.tmod 2305843009213688668))) then
                              Z.aR (Z.non (IntKind.u64.wrap (iAdd 1 (key.tmod 2305843009213688668))) (Array.mk (List.map (Value.int IntKind.u8) (tabI m 32)))) 1
                            else 0)
                            (bif Z.key (IntKind.u64.wrap (iAdd 1 (key.tmod 2305843009213688668))) then
                              Z.aS (IntKind.u64.wrap (iAdd 1 (key.tmod 2305843009213688668)))
                                (Z.non (IntKind.u64.wrap (iAdd 1 (key.tmod 2305843009213688668))) (Array.mk (List.map (Value.int IntKind.u8) (tabI m 32))))
                                (Array.mk (List.map (Value.int IntKind.u8) (tabI m 32))) 1
                            else 0)
                            (Array.mk (List.map (Value.int IntKind.u8) (tabI m 32))))
                          23) =
                      Value.bool true)
                    (Value.bool false = Value.bool true))
                  False))
              False)
            False)
          False)
        False))
    False := by
  have hAm : O.isH (Array.mk (List.map (Value.int IntKind.u8) (tabI m 32))) = true := h_m
  have hk0 := h_key
  have hb0 := h_blind
  rw [inU_t] at hk0 hb0
  have e1 : key.tmod 2305843009213688668 = key % 2305843009213688668 := Int.tmod_eq_emod_of_nonneg hk0.1
  have e2 : IntKind.u64.wrap (1 + key % 2305843009213688668) = 1 + key % 2305843009213688668 := by rw [IntKind.wrap_u64]; omega
  have e3 : blind.tmod 2305843009213688669 = blind % 2305843009213688669 := Int.tmod_eq_emod_of_nonneg hb0.1
  simp only [Sx.app, Sx.nAdd, Sx.nSub, Sx.nMul, Sx.nPow, Sx.nDiv, Sx.nMod, Sx.iAdd, Sx.iSub, Sx.iMul, Sx.iNeg, Sx.iPow, Sx.iOf, e1, e2, e3]
  obtain ⟨k, ek⟩ : ∃ k, k = 1 + key % 2305843009213688668 := ⟨_, rfl⟩
  simp only [← ek]
  have h_k : inU k 18446744073709551616 = true := by rw [inU_t]; omega
  have g0 : (fromO O (O.pbase secret) [blind]).getD 0 0 = O.padd (O.pbase secret) (O.pbase blind) := by kernel_rfl
  have hk : Z.key k = true := by
    rw [H.key k h_k, show iBeq k 0 = false by simp only [Bool.and_eq_true, Bool.or_eq_true, Sx.iLt_t, Sx.iLt_f, Sx.iLe_t, Sx.iLe_f, Sx.iEq_t, Sx.iEq_f, Sx.iBeq_t, Sx.iBeq_f, Sx.iBne_t, Sx.iBne_f, Nat.ble_eq, Nat.beq_eq, Sx.Cont.n]; omega, show iLe 2305843009213688669 k = false by simp only [Bool.and_eq_true, Bool.or_eq_true, Sx.iLt_t, Sx.iLt_f, Sx.iLe_t, Sx.iLe_f, Sx.iEq_t, Sx.iEq_f, Sx.iBeq_t, Sx.iBeq_f, Sx.iBne_t, Sx.iBne_f, Nat.ble_eq, Nat.beq_eq, Sx.Cont.n]; omega]
    rfl
  have hf : frB O (O.pbase secret) ((([blind] : List Int).length : Nat) : Int) = false := frB_of (G.pb secret) (by simp only [List.length_cons, List.length_nil]; omega)
  have hbs : inUs 18446744073709551616 [blind] = true := by simp only [inUs, List.all_cons, List.all_nil, h_blind]; rfl
  generalize hM : (Array.mk (List.map (Value.int IntKind.u8) (tabI m 32)) : Array Value) = M at *
  have hB : O.pbase (O.fadd (O.fadd 0 secret) blind) = O.padd (O.pbase secret) (O.pbase blind) := by rw [← G.ba, G.fv 0 secret (by decide) h_secret, Int.zero_add, G.bm secret h_secret]
  have hne := back_ne G h_secret h_blind (F.pbase secret)
  have hps : O.pright (O.padd (O.pbase secret) (O.pbase blind)) = true := G.pa _ _
  have hsu : inU (O.padd (O.pbase secret) (O.pbase blind)) 18446744073709551616 = true := F.padd _ _
  generalize hs : O.padd (O.pbase secret) (O.pbase blind) = s at *
  have hs0 : iBne s 0 = true := by
    rw [iBne_t]
    intro e
    rw [e, P0] at hps
    cases hps
  have hlr : lrO O (O.pbase k) s = true := by
    unfold lrO
    rw [G.pb, hs0, hps]; rfl
  have hch : ∀ n, Z.chk (O.pbase k) M 1 (Z.aR n 1) (Z.aS k n M 1) = true := fun n => H.hold k n M 1 h_k hk H.p1
  have o1 : ∀ n, openO O Z (O.pbase k) s (O.fadd (O.fadd 0 secret) blind) (Z.aR n 1) (Z.aS k n M 1) M = 0 := fun n => by
    unfold openO
    rw [hlr, hs0, hB, iBne_self, hch]; rfl
  have o2 : ∀ n, openO O Z (O.pbase k) s secret (Z.aR n 1) (Z.aS k n M 1) M = bif !(iBeq (blind % 2305843009213688669) 0) then 23 else 0 := fun n => by
    unfold openO
    rw [hlr, hs0, hne, hch]
    cases iBeq (blind % 2305843009213688669) 0 <;> rfl
  simp only [g0, hk, hf, hbs, h_k, h_secret, h_blind, hAm, hsu, o1, o2, F.fadd, F.pbase, H.sR, H.sS, Bool.and_self, Bool.and_true, Bool.true_and, cond_true, cond_false, If_t, If_f, show ([blind] : List Int).length.ble 1000 = true from rfl]
  cases iBeq (blind % 2305843009213688669) 0 with
  | true => exact rfl
  | false => exact rfl
theorem wpc_paLocked (O : OO) (Z : OZ) (Y : OY) (secret blind key : Int) (m : Nat → Int) (F : FO O) (G : FP O) (H : FZ O Z) (P0 : O.pright 0 = false) (h_secret : inU secret 18446744073709551616 = true) (h_blind : inU blind 18446744073709551616 = true) (h_key : inU key 18446744073709551616 = true) (h_m : O.isH (AV m) = true) : wpcI Try.prog (spL5 O Z Y) Try.f12.ntmps [] (bodyOf Try.f12) 0 0 (argEnv [.int .u64 secret, .int .u64 blind, .int .u64 key, .agg (AV m)] 0) [] (retK Try.prog Try.f12.results.toList (.bool true)) :=
  Eq.mpr (by kernel_rfl) (vc_paLocked O Z Y secret blind key m F G H P0 h_secret h_blind h_key h_m)
theorem walk_paLocked (secret : Nat) (hb_secret : secret < 18446744073709551616) (blind : Nat) (hb_blind : blind < 18446744073709551616) (key : Nat) (hb_key : key < 18446744073709551616) (l_m : List Nat) (hl_m : l_m.length = 32) (hb_m : ∀ i, l_m.getD i 0 < 256) (w : World) : Calls Try.prog 12 #[.int .u64 (secret : Int), .int .u64 (blind : Int), .int .u64 (key : Int), B8 l_m] w fun e w' => e = .returned (.bool true) ∧ Kp w w' := by
  obtain ⟨m, e_m, i_m⟩ := bcs_AV l_m hl_m hb_m
  rw [show (B8 l_m : Value) = .agg (AV m) from congrArg Value.agg e_m]
  exact (calls_realI (I := I0) (spL5_ok I0 oo rfl (zO oo) rfl (yO oo) rfl) (by kernel_rfl) [] (l := [.int .u64 (secret : Int), .int .u64 (blind : Int), .int .u64 (key : Int), .agg (AV m)]) Try.func12 (by kernel_rfl) rfl Try.ntmps12 (by simp) (wpc_paLocked oo (zO oo) (yO oo) (secret : Int) (blind : Int) (key : Int) m (fo_oo oo rfl) fp_oo fz_oo p0_oo (inU_of hb_secret) (inU_of hb_blind) (inU_of hb_key) (isH_oo i_m)) w).mono fun _ _ ⟨he, hf⟩ => ⟨he, fr_below hf⟩
end Go.Proofs.Ytheihhjlkefhgaa
