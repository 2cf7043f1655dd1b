/- PaySigned: the walk, by the symbolic machine (printed by genpa4.py; VC by VcTool). -/
import Derived.Test.YtheihhjlkefhgaaPa3
namespace Go.Proofs.Ytheihhjlkefhgaa
open Go.RowKit Go.Lib Ckp Cfd Cpd Sx
set_option linter.unusedVariables false
set_option linter.unusedSimpArgs false
set_option maxRecDepth 1000000


/-- What the laws ask of the functions. -/
structure FZ (O : OO) (Z : OZ) : Prop where
  fr : ∀ k, inU k 18446744073709551616 = true → O.fright k = !(iLe 2305843009213688669 k)
  key : ∀ k, inU k 18446744073709551616 = true → Z.key k = (!(iBeq k 0) && !(iLe 2305843009213688669 k))
  sR : ∀ n t, inU (Z.aR n t) 18446744073709551616 = true
  sS : ∀ k n m t, inU (Z.aS k n m t) 18446744073709551616 = true
  sF : ∀ k n m t, O.fright (Z.aS k n m t) = true
  aF : ∀ a b, O.fright (O.fadd a b) = true
  bF : ∀ a b, O.fright (O.fsub a b) = true
  hold : ∀ k n m t, inU k 18446744073709551616 = true → Z.key k = true → O.pright t = true → Z.chk (O.pbase k) m t (Z.aR n t) (Z.aS k n m t) = true
  shift : ∀ p m t R S, O.fright S = true → Z.chk p m (O.pbase t) R S = Z.chk p m 1 R (O.fadd S t)
  uniq : ∀ p m R S x, inU S 18446744073709551616 = true → inU x 18446744073709551616 = true → Z.chk p m 1 R S = true → O.fright x = true → Z.chk p m 1 R x = iBeq x S
  chkF : ∀ p m t R S, O.fright S = false → Z.chk p m t R S = false
  chk0 : ∀ p m t S, Z.chk p m t 0 S = false
  chkS : ∀ p m t R S, Z.chk p m t R S = true → O.fright S = true
  addsub : ∀ S t, inU S 18446744073709551616 = true → O.fright S = true → O.fadd (O.fsub S t) t = S
  subadd : ∀ S t, inU t 18446744073709551616 = true → O.fright t = true → O.fsub (O.fadd S t) S = t
  inj : ∀ S a b, inU a 18446744073709551616 = true → inU b 18446744073709551616 = true → O.fright a = true → O.fright b = true → iBeq (O.fadd S a) (O.fadd S b) = iBeq a b
  add0 : ∀ S t, inU S 18446744073709551616 = true → O.fright S = true → inU t 18446744073709551616 = true → O.fright t = true → iBeq S (O.fadd S t) = iBeq t 0
  pb : ∀ t, O.pright (O.pbase t) = true
  p1 : O.pright 1 = true
theorem inU_0 : inU 0 18446744073709551616 = true := by decide
theorem ne_fr {O : OO} {a b : Int} (ha : O.fright a = false) (hb : O.fright b = true) : iBeq a b = false := by
  cases h : iBeq a b with
  | false => rfl
  | true => rw [iBeq_t] at h; rw [h, hb] at ha; cases ha
theorem beq_b (a : Bool) : (a == a) = true := by cases a <;> rfl
theorem iBeq_self (a : Int) : iBeq a a = true := by simp [iBeq]
theorem iBne_self (a : Int) : iBne a a = false := by simp [iBne]
theorem eqv2 (a b c d : Int) : eqv (Array.mk [Value.int .u64 a, Value.int .u64 b]) (Array.mk [Value.int .u64 c, Value.int .u64 d]) = (iBeq a c && iBeq b d) := by
  have e : eqv (Array.mk [Value.int .u64 a, Value.int .u64 b]) (Array.mk [Value.int .u64 c, Value.int .u64 d]) = (decide (a = c) && (decide (b = d) && true)) := by rfl
  rw [e, Bool.and_true, Bool.eq_iff_iff]; simp [iBeq]

section
theorem o_fmul (a b : Int) : oo.fmul a b = ((fmul a.toNat b.toNat : Nat) : Int) := by kernel_rfl
theorem o_fright (a : Int) : oo.fright a = fright a.toNat := by kernel_rfl
theorem o_pscale (a b : Int) : oo.pscale a b = ((pscale a.toNat b.toNat : Nat) : Int) := by kernel_rfl
theorem o_pneg (a : Int) : oo.pneg a = ((pneg a.toNat : Nat) : Int) := by kernel_rfl
theorem o_pall (l : List Int) : oo.pall l = ((pall (l.map Int.toNat) : Nat) : Int) := by
  have e : oo.pall l = pallI l := by kernel_rfl
  rw [e, pallI_nat]
theorem z_chk (p : Int) (a : Array Value) (t R S : Int) : (zO oo).chk p a t R S = chkO oo p a t R S := by kernel_rfl
theorem z_aR (n t : Int) : (zO oo).aR n t = oo.padd (oo.pbase n) t := by kernel_rfl
theorem z_aS (k n : Int) (a : Array Value) (t : Int) : (zO oo).aS k n a t = oo.fadd n (oo.fmul (chalO oo (oo.padd (oo.pbase n) t) (oo.pbase k) a) k) := by kernel_rfl
theorem z_key (k : Int) : (zO oo).key k = (oo.fright k && iBne k 0) := by kernel_rfl
theorem fr_iff (x : Int) : oo.fright x = true ↔ x.toNat < 2305843009213688669 := by rw [o_fright]; unfold fright; simp
theorem chk_iff (p : Int) (a : Array Value) (t R S : Int) : (zO oo).chk p a t R S = true ↔ p ≠ 1 ∧ pright p.toNat = true ∧ pright t.toNat = true ∧ pright R.toNat = true ∧ S.toNat < 2305843009213688669 ∧ pbase S.toNat = padd (padd R.toNat (pscale p.toNat (chalO oo R p a).toNat)) (pneg t.toNat) := by
  rw [z_chk]
  unfold chkO
  generalize chalO oo R p a = e
  simp only [o_fright, o_pright, o_pbase, o_pall, o_pscale, o_pneg, List.map_cons, List.map_nil, Int.toNat_natCast, pall3]
  have h1 : (iBeq ((pbase S.toNat : Nat) : Int) ((padd (padd R.toNat (pscale p.toNat e.toNat)) (pneg t.toNat) : Nat) : Int) = true) ↔ pbase S.toNat = padd (padd R.toNat (pscale p.toNat e.toNat)) (pneg t.toNat) := by rw [iBeq_t, Int.natCast_inj]
  have h2 : (iBeq p 1 = false) ↔ p ≠ 1 := by rw [iBeq_f]
  have h3 : (fright S.toNat = true) ↔ S.toNat < 2305843009213688669 := by unfold fright; simp
  rw [← h1, ← h2, ← h3]
  cases iBeq p 1 <;> cases pright p.toNat <;> cases pright t.toNat <;> cases pright R.toNat <;> cases fright S.toNat <;> simp
theorem base_ne {k : Nat} (h0 : k ≠ 0) (h1 : k < 2305843009213688669) : pbase k ≠ 1 := fun h => h0 (base_one h h1)
theorem neg1 {r : Nat} (h : pright r = true) : padd r (pneg 1) = r := by
  have := (group_eq h right_one h).1 (by rw [add_one, taken_of h])
  exact this.symm
theorem fz_oo : FZ oo (zO oo) := by
  refine ⟨fun k hk => ?_, fun k hk => ?_, fun n t => ?_, fun k n m t => ?_, fun k n m t => ?_, fun a b => ?_, fun a b => ?_, fun k n m t hu hk ht => ?_, fun p m t R S hS => ?_, fun p m R S x hS hx h hfx => ?_, fun p m t R S hS => ?_, fun p m t S => ?_, fun p m t R S h => ?_, fun S t hS hf => ?_, fun S t ht hf => ?_, fun S a b ha hb fa fb => ?_, fun S t hS hf ht hft => ?_, fun t => ?_, ?_⟩
  · rw [inU_t] at hk
    rw [Bool.eq_iff_iff, fr_iff, Bool.not_eq_true', iLe_f]; omega
  · rw [inU_t] at hk
    rw [z_key, Bool.eq_iff_iff]
    simp only [Bool.and_eq_true, fr_iff, Bool.not_eq_true', iLe_f, iBne_t, iBeq_f]; omega
  · rw [z_aR, o_padd]; exact inU_cast (by have := padd_lt (oo.pbase n).toNat t.toNat; omega)
  · rw [z_aS, o_fadd]; exact inU_cast (by have := fadd_lt n.toNat (oo.fmul (chalO oo (oo.padd (oo.pbase n) t) (oo.pbase k) m) k).toNat; omega)
  · rw [z_aS, o_fadd, fr_iff, Int.toNat_natCast]; exact fadd_lt _ _
  · rw [o_fadd, fr_iff, Int.toNat_natCast]; exact fadd_lt _ _
  · rw [o_fsub, fr_iff, Int.toNat_natCast]; exact fsub_lt _ _
  · rw [z_key, Bool.and_eq_true, fr_iff, iBne_t] at hk
    rw [o_pright] at ht
    rw [chk_iff, z_aR, z_aS]
    generalize chalO oo (oo.padd (oo.pbase n) t) (oo.pbase k) m = e
    simp only [o_padd, o_pbase, o_fadd, o_fmul, Int.toNat_natCast]
    rw [inU_t] at hu
    refine ⟨fun h => base_ne (k := k.toNat) (by omega) hk.1 (by omega), right_base _, ht, right_add _ _, fadd_lt _ _, ?_⟩
    rw [base_add, r_comm_mul, ← base_mul]
    generalize pscale (pbase k.toNat) e.toNat = X
    have e1 : padd (padd (pbase n.toNat) t.toNat) X = padd (padd (pbase n.toNat) X) t.toNat := by rw [add_assoc, add_assoc, add_comm X t.toNat]
    rw [e1]
    have := add_sub (padd (pbase n.toNat) X) t.toNat
    rw [taken_of (right_add _ _)] at this
    exact this.symm
  · rw [Bool.eq_iff_iff, chk_iff, chk_iff]
    rw [fr_iff] at hS
    generalize chalO oo R p m = e
    simp only [o_pbase, o_fadd, Int.toNat_natCast, show (1 : Int).toNat = 1 from rfl, base_add]
    have g1 := group_eq (right_base S.toNat) (right_base t.toNat) (right_add R.toNat (pscale p.toNat e.toNat))
    have g2 := neg1 (right_add R.toNat (pscale p.toNat e.toNat))
    rw [g2, ← g1]
    have := fadd_lt S.toNat t.toNat
    have := right_base t.toNat
    have := right_one
    constructor
    · rintro ⟨a, b, c, d, e, f⟩; exact ⟨a, b, right_one, d, fadd_lt _ _, f⟩
    · rintro ⟨a, b, c, d, e, f⟩; exact ⟨a, b, right_base _, d, hS, f⟩
  · rw [chk_iff] at h
    rw [fr_iff] at hfx
    rw [inU_t] at hS hx
    obtain ⟨a, b, c, d, e, f⟩ := h
    rw [Bool.eq_iff_iff, chk_iff, iBeq_t, ← f]
    constructor
    · rintro ⟨_, _, _, _, _, f'⟩
      have := base_inj hfx e f'
      omega
    · rintro rfl; exact ⟨a, b, c, d, e, rfl⟩
  · cases hc : (zO oo).chk p m t R S with
    | false => rfl
    | true => rw [chk_iff] at hc; have := (fr_iff S).2 hc.2.2.2.2.1; rw [hS] at this; cases this
  · cases hc : (zO oo).chk p m t 0 S with
    | false => rfl
    | true => rw [chk_iff] at hc; have := ((right_iff 0).1 hc.2.2.2.1).1; omega
  · rw [chk_iff] at h; exact (fr_iff S).2 h.2.2.2.2.1
  · rw [inU_t] at hS
    rw [fr_iff] at hf
    rw [o_fadd, o_fsub, Int.toNat_natCast]; unfold fadd fsub fadd fneg; omega
  · rw [inU_t] at ht
    rw [fr_iff] at hf
    rw [o_fsub, o_fadd, Int.toNat_natCast]; unfold fsub fadd fneg; omega
  · rw [inU_t] at ha hb
    rw [fr_iff] at fa fb
    rw [o_fadd, o_fadd, Bool.eq_iff_iff, iBeq_t, iBeq_t]; unfold fadd; omega
  · rw [inU_t] at hS ht
    rw [fr_iff] at hf hft
    rw [o_fadd, Bool.eq_iff_iff, iBeq_t, iBeq_t]; unfold fadd; omega
  · rw [o_pright, o_pbase, Int.toNat_natCast]; exact right_base _
  · rw [o_pright]; exact right_one
end
set_option maxHeartbeats 4000000 in
theorem vc_paSigned (O : OO) (Z : OZ) (Y : OY) (a b key : Int) (m : Nat → Int) (F : FO O) (G : FP O) (H : FZ O Z) (h_a : inU a 18446744073709551616 = true) (h_b : inU b 18446744073709551616 = true) (h_key : inU key 18446744073709551616 = true) (h_m : O.isH (AV m) = true) :
  If (inU (a.tmod 2305843009213688669) 18446744073709551616 && inUs 18446744073709551616 [b] && [b].length.ble 1000)
    (If (frB O (O.pbase (a.tmod 2305843009213688669)) (iOf [b].length)) (Value.bool false = Value.bool true)
      (If
        (inU (IntKind.u64.wrap (iAdd 1 (key.tmod 2305843009213688668))) 18446744073709551616 && inU ((fromO O (O.pbase (a.tmod 2305843009213688669)) [b]).getD 1 0) 18446744073709551616 &&
          O.isH (Array.mk (List.map (Value.int IntKind.u8) (tabI m 32))))
        (If
          (inU
                (bif Z.key (IntKind.u64.wrap (iAdd 1 (key.tmod 2305843009213688668))) && O.pright ((fromO O (O.pbase (a.tmod 2305843009213688669)) [b]).getD 1 0) then
                  Z.aR
                    (Z.prn (IntKind.u64.wrap (iAdd 1 (key.tmod 2305843009213688668))) (Array.mk (List.map (Value.int IntKind.u8) (tabI m 32)))
                      ((fromO O (O.pbase (a.tmod 2305843009213688669)) [b]).getD 1 0))
                    ((fromO O (O.pbase (a.tmod 2305843009213688669)) [b]).getD 1 0)
                else 0)
                18446744073709551616 &&
              inU
                (bif Z.key (IntKind.u64.wrap (iAdd 1 (key.tmod 2305843009213688668))) && O.pright ((fromO O (O.pbase (a.tmod 2305843009213688669)) [b]).getD 1 0) then
                  Z.aS (IntKind.u64.wrap (iAdd 1 (key.tmod 2305843009213688668)))
                    (Z.prn (IntKind.u64.wrap (iAdd 1 (key.tmod 2305843009213688668))) (Array.mk (List.map (Value.int IntKind.u8) (tabI m 32)))
                      ((fromO O (O.pbase (a.tmod 2305843009213688669)) [b]).getD 1 0))
                    (Array.mk (List.map (Value.int IntKind.u8) (tabI m 32))) ((fromO O (O.pbase (a.tmod 2305843009213688669)) [b]).getD 1 0)
                else 0)
                18446744073709551616 &&
            inU (a.tmod 2305843009213688669) 18446744073709551616)
          (If
            (inU
                    (bif Z.key (IntKind.u64.wrap (iAdd 1 (key.tmod 2305843009213688668))) && O.pright ((fromO O (O.pbase (a.tmod 2305843009213688669)) [b]).getD 1 0) then
                      Z.aR
                        (Z.prn (IntKind.u64.wrap (iAdd 1 (key.tmod 2305843009213688668))) (Array.mk (List.map (Value.int IntKind.u8) (tabI m 32)))
                          ((fromO O (O.pbase (a.tmod 2305843009213688669)) [b]).getD 1 0))
                        ((fromO O (O.pbase (a.tmod 2305843009213688669)) [b]).getD 1 0)
                    else 0)
                    18446744073709551616 &&
                  inU
                    (bif Z.key (IntKind.u64.wrap (iAdd 1 (key.tmod 2305843009213688668))) && O.pright ((fromO O (O.pbase (a.tmod 2305843009213688669)) [b]).getD 1 0) then
                      Z.aS (IntKind.u64.wrap (iAdd 1 (key.tmod 2305843009213688668)))
                        (Z.prn (IntKind.u64.wrap (iAdd 1 (key.tmod 2305843009213688668))) (Array.mk (List.map (Value.int IntKind.u8) (tabI m 32)))
                          ((fromO O (O.pbase (a.tmod 2305843009213688669)) [b]).getD 1 0))
                        (Array.mk (List.map (Value.int IntKind.u8) (tabI m 32))) ((fromO O (O.pbase (a.tmod 2305843009213688669)) [b]).getD 1 0)
                    else 0)
                    18446744073709551616 &&
                inU
                  (bif
                      O.fright
                          (bif Z.key (IntKind.u64.wrap (iAdd 1 (key.tmod 2305843009213688668))) && O.pright ((fromO O (O.pbase (a.tmod 2305843009213688669)) [b]).getD 1 0) then
                            Z.aS (IntKind.u64.wrap (iAdd 1 (key.tmod 2305843009213688668)))
                              (Z.prn (IntKind.u64.wrap (iAdd 1 (key.tmod 2305843009213688668))) (Array.mk (List.map (Value.int IntKind.u8) (tabI m 32)))
                                ((fromO O (O.pbase (a.tmod 2305843009213688669)) [b]).getD 1 0))
                              (Array.mk (List.map (Value.int IntKind.u8) (tabI m 32))) ((fromO O (O.pbase (a.tmod 2305843009213688669)) [b]).getD 1 0)
                          else 0) &&
                        O.fright (a.tmod 2305843009213688669) then
                    bif Z.key (IntKind.u64.wrap (iAdd 1 (key.tmod 2305843009213688668))) && O.pright ((fromO O (O.pbase (a.tmod 2305843009213688669)) [b]).getD 1 0) then
                      Z.aR
                        (Z.prn (IntKind.u64.wrap (iAdd 1 (key.tmod 2305843009213688668))) (Array.mk (List.map (Value.int IntKind.u8) (tabI m 32)))
                          ((fromO O (O.pbase (a.tmod 2305843009213688669)) [b]).getD 1 0))
                        ((fromO O (O.pbase (a.tmod 2305843009213688669)) [b]).getD 1 0)
                    else 0
                  else 0)
                  18446744073709551616 &&
              inU
                (bif
                    O.fright
                        (bif Z.key (IntKind.u64.wrap (iAdd 1 (key.tmod 2305843009213688668))) && O.pright ((fromO O (O.pbase (a.tmod 2305843009213688669)) [b]).getD 1 0) then
                          Z.aS (IntKind.u64.wrap (iAdd 1 (key.tmod 2305843009213688668)))
                            (Z.prn (IntKind.u64.wrap (iAdd 1 (key.tmod 2305843009213688668))) (Array.mk (List.map (Value.int IntKind.u8) (tabI m 32)))
                              ((fromO O (O.pbase (a.tmod 2305843009213688669)) [b]).getD 1 0))
                            (Array.mk (List.map (Value.int IntKind.u8) (tabI m 32))) ((fromO O (O.pbase (a.tmod 2305843009213688669)) [b]).getD 1 0)
                        else 0) &&
                      O.fright (a.tmod 2305843009213688669) then
                  O.fadd
                    (bif Z.key (IntKind.u64.wrap (iAdd 1 (key.tmod 2305843009213688668))) && O.pright ((fromO O (O.pbase (a.tmod 2305843009213688669)) [b]).getD 1 0) then
                      Z.aS (IntKind.u64.wrap (iAdd 1 (key.tmod 2305843009213688668)))
                        (Z.prn (IntKind.u64.wrap (iAdd 1 (key.tmod 2305843009213688668))) (Array.mk (List.map (Value.int IntKind.u8) (tabI m 32)))
                          ((fromO O (O.pbase (a.tmod 2305843009213688669)) [b]).getD 1 0))
                        (Array.mk (List.map (Value.int IntKind.u8) (tabI m 32))) ((fromO O (O.pbase (a.tmod 2305843009213688669)) [b]).getD 1 0)
                    else 0)
                    (a.tmod 2305843009213688669)
                else 0)
                18446744073709551616)
            (If (inU (IntKind.u64.wrap (iAdd 1 (key.tmod 2305843009213688668))) 18446744073709551616)
              (If
                (inU (O.pbase (IntKind.u64.wrap (iAdd 1 (key.tmod 2305843009213688668)))) 18446744073709551616 &&
                        inU ((fromO O (O.pbase (a.tmod 2305843009213688669)) [b]).getD 1 0) 18446744073709551616 &&
                      inU
                        (bif Z.key (IntKind.u64.wrap (iAdd 1 (key.tmod 2305843009213688668))) && O.pright ((fromO O (O.pbase (a.tmod 2305843009213688669)) [b]).getD 1 0) then
                          Z.aR
                            (Z.prn (IntKind.u64.wrap (iAdd 1 (key.tmod 2305843009213688668))) (Array.mk (List.map (Value.int IntKind.u8) (tabI m 32)))
                              ((fromO O (O.pbase (a.tmod 2305843009213688669)) [b]).getD 1 0))
                            ((fromO O (O.pbase (a.tmod 2305843009213688669)) [b]).getD 1 0)
                        else 0)
                        18446744073709551616 &&
                    inU
                      (bif Z.key (IntKind.u64.wrap (iAdd 1 (key.tmod 2305843009213688668))) && O.pright ((fromO O (O.pbase (a.tmod 2305843009213688669)) [b]).getD 1 0) then
                        Z.aS (IntKind.u64.wrap (iAdd 1 (key.tmod 2305843009213688668)))
                          (Z.prn (IntKind.u64.wrap (iAdd 1 (key.tmod 2305843009213688668))) (Array.mk (List.map (Value.int IntKind.u8) (tabI m 32)))
                            ((fromO O (O.pbase (a.tmod 2305843009213688669)) [b]).getD 1 0))
                          (Array.mk (List.map (Value.int IntKind.u8) (tabI m 32))) ((fromO O (O.pbase (a.tmod 2305843009213688669)) [b]).getD 1 0)
                      else 0)
                      18446744073709551616 &&
                  O.isH (Array.mk (List.map (Value.int IntKind.u8) (tabI m 32))))
                (If
                  (Z.chk (O.pbase (IntKind.u64.wrap (iAdd 1 (key.tmod 2305843009213688668)))) (Array.mk (List.map (Value.int IntKind.u8) (tabI m 32)))
                    ((fromO O (O.pbase (a.tmod 2305843009213688669)) [b]).getD 1 0)
                    (bif Z.key (IntKind.u64.wrap (iAdd 1 (key.tmod 2305843009213688668))) && O.pright ((fromO O (O.pbase (a.tmod 2305843009213688669)) [b]).getD 1 0) then
                      Z.aR
                        (Z.prn (IntKind.u64.wrap (iAdd 1 (key.tmod 2305843009213688668))) (Array.mk (List.map (Value.int IntKind.u8) (tabI m 32)))
                          ((fromO O (O.pbase (a.tmod 2305843009213688669)) [b]).getD 1 0))
                        ((fromO O (O.pbase (a.tmod 2305843009213688669)) [b]).getD 1 0)
                    else 0)
                    (bif Z.key (IntKind.u64.wrap (iAdd 1 (key.tmod 2305843009213688668))) && O.pright ((fromO O (O.pbase (a.tmod 2305843009213688669)) [b]).getD 1 0) then
                      Z.aS (IntKind.u64.wrap (iAdd 1 (key.tmod 2305843009213688668)))
                        (Z.prn (IntKind.u64.wrap (iAdd 1 (key.tmod 2305843009213688668))) (Array.mk (List.map (Value.int IntKind.u8) (tabI m 32)))
                          ((fromO O (O.pbase (a.tmod 2305843009213688669)) [b]).getD 1 0))
                        (Array.mk (List.map (Value.int IntKind.u8) (tabI m 32))) ((fromO O (O.pbase (a.tmod 2305843009213688669)) [b]).getD 1 0)
                    else 0))
                  (If (inU (IntKind.u64.wrap (iAdd 1 (key.tmod 2305843009213688668))) 18446744073709551616)
                    (If
                      (inU (O.pbase (IntKind.u64.wrap (iAdd 1 (key.tmod 2305843009213688668)))) 18446744073709551616 &&
                            inU
                              (bif
                                  O.fright
                                      (bif Z.key (IntKind.u64.wrap (iAdd 1 (key.tmod 2305843009213688668))) && O.pright ((fromO O (O.pbase (a.tmod 2305843009213688669)) [b]).getD 1 0) then
                                        Z.aS (IntKind.u64.wrap (iAdd 1 (key.tmod 2305843009213688668)))
                                          (Z.prn (IntKind.u64.wrap (iAdd 1 (key.tmod 2305843009213688668))) (Array.mk (List.map (Value.int IntKind.u8) (tabI m 32)))
                                            ((fromO O (O.pbase (a.tmod 2305843009213688669)) [b]).getD 1 0))
                                          (Array.mk (List.map (Value.int IntKind.u8) (tabI m 32))) ((fromO O (O.pbase (a.tmod 2305843009213688669)) [b]).getD 1 0)
                                      else 0) &&
                                    O.fright (a.tmod 2305843009213688669) then
                                bif Z.key (IntKind.u64.wrap (iAdd 1 (key.tmod 2305843009213688668))) && O.pright ((fromO O (O.pbase (a.tmod 2305843009213688669)) [b]).getD 1 0) then
                                  Z.aR
                                    (Z.prn (IntKind.u64.wrap (iAdd 1 (key.tmod 2305843009213688668))) (Array.mk (List.map (Value.int IntKind.u8) (tabI m 32)))
                                      ((fromO O (O.pbase (a.tmod 2305843009213688669)) [b]).getD 1 0))
                                    ((fromO O (O.pbase (a.tmod 2305843009213688669)) [b]).getD 1 0)
                                else 0
                              else 0)
                              18446744073709551616 &&
                          inU
                            (bif
                                O.fright
                                    (bif Z.key (IntKind.u64.wrap (iAdd 1 (key.tmod 2305843009213688668))) && O.pright ((fromO O (O.pbase (a.tmod 2305843009213688669)) [b]).getD 1 0) then
                                      Z.aS (IntKind.u64.wrap (iAdd 1 (key.tmod 2305843009213688668)))
                                        (Z.prn (IntKind.u64.wrap (iAdd 1 (key.tmod 2305843009213688668))) (Array.mk (List.map (Value.int IntKind.u8) (tabI m 32)))
                                          ((fromO O (O.pbase (a.tmod 2305843009213688669)) [b]).getD 1 0))
                                        (Array.mk (List.map (Value.int IntKind.u8) (tabI m 32))) ((fromO O (O.pbase (a.tmod 2305843009213688669)) [b]).getD 1 0)
                                    else 0) &&
                                  O.fright (a.tmod 2305843009213688669) then
                              O.fadd
                                (bif Z.key (IntKind.u64.wrap (iAdd 1 (key.tmod 2305843009213688668))) && O.pright ((fromO O (O.pbase (a.tmod 2305843009213688669)) [b]).getD 1 0) then
                                  Z.aS (IntKind.u64.wrap (iAdd 1 (key.tmod 2305843009213688668)))
                                    (Z.prn (IntKind.u64.wrap (iAdd 1 (key.tmod 2305843009213688668))) (Array.mk (List.map (Value.int IntKind.u8) (tabI m 32)))
                                      ((fromO O (O.pbase (a.tmod 2305843009213688669)) [b]).getD 1 0))
                                    (Array.mk (List.map (Value.int IntKind.u8) (tabI m 32))) ((fromO O (O.pbase (a.tmod 2305843009213688669)) [b]).getD 1 0)
                                else 0)
                                (a.tmod 2305843009213688669)
                            else 0)
                            18446744073709551616 &&
                        O.isH (Array.mk (List.map (Value.int IntKind.u8) (tabI m 32))))
                      (If
                        (Z.chk (O.pbase (IntKind.u64.wrap (iAdd 1 (key.tmod 2305843009213688668)))) (Array.mk (List.map (Value.int IntKind.u8) (tabI m 32))) 1
                          (bif
                              O.fright
                                  (bif Z.key (IntKind.u64.wrap (iAdd 1 (key.tmod 2305843009213688668))) && O.pright ((fromO O (O.pbase (a.tmod 2305843009213688669)) [b]).getD 1 0) then
                                    Z.aS (IntKind.u64.wrap (iAdd 1 (key.tmod 2305843009213688668)))
                                      (Z.prn (IntKind.u64.wrap (iAdd 1 (key.tmod 2305843009213688668))) (Array.mk (List.map (Value.int IntKind.u8) (tabI m 32)))
                                        ((fromO O (O.pbase (a.tmod 2305843009213688669)) [b]).getD 1 0))
                                      (Array.mk (List.map (Value.int IntKind.u8) (tabI m 32))) ((fromO O (O.pbase (a.tmod 2305843009213688669)) [b]).getD 1 0)
                                  else 0) &&
                                O.fright (a.tmod 2305843009213688669) then
                            bif Z.key (IntKind.u64.wrap (iAdd 1 (key.tmod 2305843009213688668))) && O.pright ((fromO O (O.pbase (a.tmod 2305843009213688669)) [b]).getD 1 0) then
                              Z.aR
                                (Z.prn (IntKind.u64.wrap (iAdd 1 (key.tmod 2305843009213688668))) (Array.mk (List.map (Value.int IntKind.u8) (tabI m 32)))
                                  ((fromO O (O.pbase (a.tmod 2305843009213688669)) [b]).getD 1 0))
                                ((fromO O (O.pbase (a.tmod 2305843009213688669)) [b]).getD 1 0)
                            else 0
                          else 0)
                          (bif
                              O.fright
                                  (bif Z.key (IntKind.u64.wrap (iAdd 1 (key.tmod 2305843009213688668))) && O.pright ((fromO O (O.pbase (a.tmod 2305843009213688669)) [b]).getD 1 0) then
                                    Z.aS (IntKind.u64.wrap (iAdd 1 (key.tmod 2305843009213688668)))
                                      (Z.prn (IntKind.u64.wrap (iAdd 1 (key.tmod 2305843009213688668))) (Array.mk (List.map (Value.int IntKind.u8) (tabI m 32)))
                                        ((fromO O (O.pbase (a.tmod 2305843009213688669)) [b]).getD 1 0))
                                      (Array.mk (List.map (Value.int IntKind.u8) (tabI m 32))) ((fromO O (O.pbase (a.tmod 2305843009213688669)) [b]).getD 1 0)
                                  else 0) &&
                                O.fright (a.tmod 2305843009213688669) then
                            O.fadd
                              (bif Z.key (IntKind.u64.wrap (iAdd 1 (key.tmod 2305843009213688668))) && O.pright ((fromO O (O.pbase (a.tmod 2305843009213688669)) [b]).getD 1 0) then
                                Z.aS (IntKind.u64.wrap (iAdd 1 (key.tmod 2305843009213688668)))
                                  (Z.prn (IntKind.u64.wrap (iAdd 1 (key.tmod 2305843009213688668))) (Array.mk (List.map (Value.int IntKind.u8) (tabI m 32)))
                                    ((fromO O (O.pbase (a.tmod 2305843009213688669)) [b]).getD 1 0))
                                  (Array.mk (List.map (Value.int IntKind.u8) (tabI m 32))) ((fromO O (O.pbase (a.tmod 2305843009213688669)) [b]).getD 1 0)
                              else 0)
                              (a.tmod 2305843009213688669)
                          else 0))
                        (If
                          (iBeq
                            (bif
                                O.fright
                                    (bif Z.key (IntKind.u64.wrap (iAdd 1 (key.tmod 2305843009213688668))) && O.pright ((fromO O (O.pbase (a.tmod 2305843009213688669)) [b]).getD 1 0) then
                                      Z.aS (IntKind.u64.wrap (iAdd 1 (key.tmod 2305843009213688668)))
                                        (Z.prn (IntKind.u64.wrap (iAdd 1 (key.tmod 2305843009213688668))) (Array.mk (List.map (Value.int IntKind.u8) (tabI m 32)))
                                          ((fromO O (O.pbase (a.tmod 2305843009213688669)) [b]).getD 1 0))
                                        (Array.mk (List.map (Value.int IntKind.u8) (tabI m 32))) ((fromO O (O.pbase (a.tmod 2305843009213688669)) [b]).getD 1 0)
                                    else 0) &&
                                  O.fright
                                    (bif
                                        O.fright
                                            (bif Z.key (IntKind.u64.wrap (iAdd 1 (key.tmod 2305843009213688668))) && O.pright ((fromO O (O.pbase (a.tmod 2305843009213688669)) [b]).getD 1 0) then
                                              Z.aS (IntKind.u64.wrap (iAdd 1 (key.tmod 2305843009213688668)))
                                                (Z.prn (IntKind.u64.wrap (iAdd 1 (key.tmod 2305843009213688668))) (Array.mk (List.map (Value.int IntKind.u8) (tabI m 32)))
                                                  ((fromO O (O.pbase (a.tmod 2305843009213688669)) [b]).getD 1 0))
                                                (Array.mk (List.map (Value.int IntKind.u8) (tabI m 32))) ((fromO O (O.pbase (a.tmod 2305843009213688669)) [b]).getD 1 0)
                                            else 0) &&
                                          O.fright (a.tmod 2305843009213688669) then
                                      O.fadd
                                        (bif Z.key (IntKind.u64.wrap (iAdd 1 (key.tmod 2305843009213688668))) && O.pright ((fromO O (O.pbase (a.tmod 2305843009213688669)) [b]).getD 1 0) then
                                          Z.aS (IntKind.u64.wrap (iAdd 1 (key.tmod 2305843009213688668)))
                                            (Z.prn (IntKind.u64.wrap (iAdd 1 (key.tmod 2305843009213688668))) (Array.mk (List.map (Value.int IntKind.u8) (tabI m 32)))
                                              ((fromO O (O.pbase (a.tmod 2305843009213688669)) [b]).getD 1 0))
                                            (Array.mk (List.map (Value.int IntKind.u8) (tabI m 32))) ((fromO O (O.pbase (a.tmod 2305843009213688669)) [b]).getD 1 0)
                                        else 0)
                                        (a.tmod 2305843009213688669)
                                    else 0) then
                              O.fsub
                                (bif
                                    O.fright
                                        (bif Z.key (IntKind.u64.wrap (iAdd 1 (key.tmod 2305843009213688668))) && O.pright ((fromO O (O.pbase (a.tmod 2305843009213688669)) [b]).getD 1 0) then
                                          Z.aS (IntKind.u64.wrap (iAdd 1 (key.tmod 2305843009213688668)))
                                            (Z.prn (IntKind.u64.wrap (iAdd 1 (key.tmod 2305843009213688668))) (Array.mk (List.map (Value.int IntKind.u8) (tabI m 32)))
                                              ((fromO O (O.pbase (a.tmod 2305843009213688669)) [b]).getD 1 0))
                                            (Array.mk (List.map (Value.int IntKind.u8) (tabI m 32))) ((fromO O (O.pbase (a.tmod 2305843009213688669)) [b]).getD 1 0)
                                        else 0) &&
                                      O.fright (a.tmod 2305843009213688669) then
                                  O.fadd
                                    (bif Z.key (IntKind.u64.wrap (iAdd 1 (key.tmod 2305843009213688668))) && O.pright ((fromO O (O.pbase (a.tmod 2305843009213688669)) [b]).getD 1 0) then
                                      Z.aS (IntKind.u64.wrap (iAdd 1 (key.tmod 2305843009213688668)))
                                        (Z.prn (IntKind.u64.wrap (iAdd 1 (key.tmod 2305843009213688668))) (Array.mk (List.map (Value.int IntKind.u8) (tabI m 32)))
                                          ((fromO O (O.pbase (a.tmod 2305843009213688669)) [b]).getD 1 0))
                                        (Array.mk (List.map (Value.int IntKind.u8) (tabI m 32))) ((fromO O (O.pbase (a.tmod 2305843009213688669)) [b]).getD 1 0)
                                    else 0)
                                    (a.tmod 2305843009213688669)
                                else 0)
                                (bif Z.key (IntKind.u64.wrap (iAdd 1 (key.tmod 2305843009213688668))) && O.pright ((fromO O (O.pbase (a.tmod 2305843009213688669)) [b]).getD 1 0) then
                                  Z.aS (IntKind.u64.wrap (iAdd 1 (key.tmod 2305843009213688668)))
                                    (Z.prn (IntKind.u64.wrap (iAdd 1 (key.tmod 2305843009213688668))) (Array.mk (List.map (Value.int IntKind.u8) (tabI m 32)))
                                      ((fromO O (O.pbase (a.tmod 2305843009213688669)) [b]).getD 1 0))
                                    (Array.mk (List.map (Value.int IntKind.u8) (tabI m 32))) ((fromO O (O.pbase (a.tmod 2305843009213688669)) [b]).getD 1 0)
                                else 0)
                            else 0)
                            (a.tmod 2305843009213688669))
                          (If
                            (inU
                                (bif
                                    O.fright
                                        (bif Z.key (IntKind.u64.wrap (iAdd 1 (key.tmod 2305843009213688668))) && O.pright ((fromO O (O.pbase (a.tmod 2305843009213688669)) [b]).getD 1 0) then
                                          Z.aS (IntKind.u64.wrap (iAdd 1 (key.tmod 2305843009213688668)))
                                            (Z.prn (IntKind.u64.wrap (iAdd 1 (key.tmod 2305843009213688668))) (Array.mk (List.map (Value.int IntKind.u8) (tabI m 32)))
                                              ((fromO O (O.pbase (a.tmod 2305843009213688669)) [b]).getD 1 0))
                                            (Array.mk (List.map (Value.int IntKind.u8) (tabI m 32))) ((fromO O (O.pbase (a.tmod 2305843009213688669)) [b]).getD 1 0)
                                        else 0) &&
                                      O.fright
                                        (bif
                                            O.fright
                                                (bif Z.key (IntKind.u64.wrap (iAdd 1 (key.tmod 2305843009213688668))) && O.pright ((fromO O (O.pbase (a.tmod 2305843009213688669)) [b]).getD 1 0) then
                                                  Z.aS (IntKind.u64.wrap (iAdd 1 (key.tmod 2305843009213688668)))
                                                    (Z.prn (IntKind.u64.wrap (iAdd 1 (key.tmod 2305843009213688668))) (Array.mk (List.map (Value.int IntKind.u8) (tabI m 32)))
                                                      ((fromO O (O.pbase (a.tmod 2305843009213688669)) [b]).getD 1 0))
                                                    (Array.mk (List.map (Value.int IntKind.u8) (tabI m 32))) ((fromO O (O.pbase (a.tmod 2305843009213688669)) [b]).getD 1 0)
                                                else 0) &&
                                              O.fright (a.tmod 2305843009213688669) then
                                          O.fadd
                                            (bif Z.key (IntKind.u64.wrap (iAdd 1 (key.tmod 2305843009213688668))) && O.pright ((fromO O (O.pbase (a.tmod 2305843009213688669)) [b]).getD 1 0) then
                                              Z.aS (IntKind.u64.wrap (iAdd 1 (key.tmod 2305843009213688668)))
                                                (Z.prn (IntKind.u64.wrap (iAdd 1 (key.tmod 2305843009213688668))) (Array.mk (List.map (Value.int IntKind.u8) (tabI m 32)))
                                                  ((fromO O (O.pbase (a.tmod 2305843009213688669)) [b]).getD 1 0))
                                                (Array.mk (List.map (Value.int IntKind.u8) (tabI m 32))) ((fromO O (O.pbase (a.tmod 2305843009213688669)) [b]).getD 1 0)
                                            else 0)
                                            (a.tmod 2305843009213688669)
                                        else 0) then
                                  O.fsub
                                    (bif
                                        O.fright
                                            (bif Z.key (IntKind.u64.wrap (iAdd 1 (key.tmod 2305843009213688668))) && O.pright ((fromO O (O.pbase (a.tmod 2305843009213688669)) [b]).getD 1 0) then
                                              Z.aS (IntKind.u64.wrap (iAdd 1 (key.tmod 2305843009213688668)))
                                                (Z.prn (IntKind.u64.wrap (iAdd 1 (key.tmod 2305843009213688668))) (Array.mk (List.map (Value.int IntKind.u8) (tabI m 32)))
                                                  ((fromO O (O.pbase (a.tmod 2305843009213688669)) [b]).getD 1 0))
                                                (Array.mk (List.map (Value.int IntKind.u8) (tabI m 32))) ((fromO O (O.pbase (a.tmod 2305843009213688669)) [b]).getD 1 0)
                                            else 0) &&
                                          O.fright (a.tmod 2305843009213688669) then
                                      O.fadd
                                        (bif Z.key (IntKind.u64.wrap (iAdd 1 (key.tmod 2305843009213688668))) && O.pright ((fromO O (O.pbase (a.tmod 2305843009213688669)) [b]).getD 1 0) then
                                          Z.aS (IntKind.u64.wrap (iAdd 1 (key.tmod 2305843009213688668)))
                                            (Z.prn (IntKind.u64.wrap (iAdd 1 (key.tmod 2305843009213688668))) (Array.mk (List.map (Value.int IntKind.u8) (tabI m 32)))
                                              ((fromO O (O.pbase (a.tmod 2305843009213688669)) [b]).getD 1 0))
                                            (Array.mk (List.map (Value.int IntKind.u8) (tabI m 32))) ((fromO O (O.pbase (a.tmod 2305843009213688669)) [b]).getD 1 0)
                                        else 0)
                                        (a.tmod 2305843009213688669)
                                    else 0)
                                    (bif Z.key (IntKind.u64.wrap (iAdd 1 (key.tmod 2305843009213688668))) && O.pright ((fromO O (O.pbase (a.tmod 2305843009213688669)) [b]).getD 1 0) then
                                      Z.aS (IntKind.u64.wrap (iAdd 1 (key.tmod 2305843009213688668)))
                                        (Z.prn (IntKind.u64.wrap (iAdd 1 (key.tmod 2305843009213688668))) (Array.mk (List.map (Value.int IntKind.u8) (tabI m 32)))
                                          ((fromO O (O.pbase (a.tmod 2305843009213688669)) [b]).getD 1 0))
                                        (Array.mk (List.map (Value.int IntKind.u8) (tabI m 32))) ((fromO O (O.pbase (a.tmod 2305843009213688669)) [b]).getD 1 0)
                                    else 0)
                                else 0)
                                18446744073709551616 &&
                              inU b 18446744073709551616)
                            (If
                              (inU ((fromO O (O.pbase (a.tmod 2305843009213688669)) [b]).getD 0 0) 18446744073709551616 &&
                                inU
                                  (O.fadd
                                    (O.fadd 0
                                      (bif
                                          O.fright
                                              (bif Z.key (IntKind.u64.wrap (iAdd 1 (key.tmod 2305843009213688668))) && O.pright ((fromO O (O.pbase (a.tmod 2305843009213688669)) [b]).getD 1 0) then
                                                Z.aS (IntKind.u64.wrap (iAdd 1 (key.tmod 2305843009213688668)))
                                                  (Z.prn (IntKind.u64.wrap (iAdd 1 (key.tmod 2305843009213688668))) (Array.mk (List.map (Value.int IntKind.u8) (tabI m 32)))
                                                    ((fromO O (O.pbase (a.tmod 2305843009213688669)) [b]).getD 1 0))
                                                  (Array.mk (List.map (Value.int IntKind.u8) (tabI m 32))) ((fromO O (O.pbase (a.tmod 2305843009213688669)) [b]).getD 1 0)
                                              else 0) &&
                                            O.fright
                                              (bif
                                                  O.fright
                                                      (bif
                                                          Z.key (IntKind.u64.wrap (iAdd 1 (key.tmod 2305843009213688668))) &&
                                                            O.pright ((fromO O (O.pbase (a.tmod 2305843009213688669)) [b]).getD 1 0) then
                                                        Z.aS (IntKind.u64.wrap (iAdd 1 (key.tmod 2305843009213688668)))
                                                          (Z.prn (IntKind.u64.wrap (iAdd 1 (key.tmod 2305843009213688668))) (Array.mk (List.map (Value.int IntKind.u8) (tabI m 32)))
                                                            ((fromO O (O.pbase (a.tmod 2305843009213688669)) [b]).getD 1 0))
                                                          (Array.mk (List.map (Value.int IntKind.u8) (tabI m 32))) ((fromO O (O.pbase (a.tmod 2305843009213688669)) [b]).getD 1 0)
                                                      else 0) &&
                                                    O.fright (a.tmod 2305843009213688669) then
                                                O.fadd
                                                  (bif Z.key (IntKind.u64.wrap (iAdd 1 (key.tmod 2305843009213688668))) && O.pright ((fromO O (O.pbase (a.tmod 2305843009213688669)) [b]).getD 1 0) then
                                                    Z.aS (IntKind.u64.wrap (iAdd 1 (key.tmod 2305843009213688668)))
                                                      (Z.prn (IntKind.u64.wrap (iAdd 1 (key.tmod 2305843009213688668))) (Array.mk (List.map (Value.int IntKind.u8) (tabI m 32)))
                                                        ((fromO O (O.pbase (a.tmod 2305843009213688669)) [b]).getD 1 0))
                                                      (Array.mk (List.map (Value.int IntKind.u8) (tabI m 32))) ((fromO O (O.pbase (a.tmod 2305843009213688669)) [b]).getD 1 0)
                                                  else 0)
                                                  (a.tmod 2305843009213688669)
                                              else 0) then
                                        O.fsub
                                          (bif
                                              O.fright
                                                  (bif Z.key (IntKind.u64.wrap (iAdd 1 (key.tmod 2305843009213688668))) && O.pright ((fromO O (O.pbase (a.tmod 2305843009213688669)) [b]).getD 1 0) then
                                                    Z.aS (IntKind.u64.wrap (iAdd 1 (key.tmod 2305843009213688668)))
                                                      (Z.prn (IntKind.u64.wrap (iAdd 1 (key.tmod 2305843009213688668))) (Array.mk (List.map (Value.int IntKind.u8) (tabI m 32)))
                                                        ((fromO O (O.pbase (a.tmod 2305843009213688669)) [b]).getD 1 0))
                                                      (Array.mk (List.map (Value.int IntKind.u8) (tabI m 32))) ((fromO O (O.pbase (a.tmod 2305843009213688669)) [b]).getD 1 0)
                                                  else 0) &&
                                                O.fright (a.tmod 2305843009213688669) then
                                            O.fadd
                                              (bif Z.key (IntKind.u64.wrap (iAdd 1 (key.tmod 2305843009213688668))) && O.pright ((fromO O (O.pbase (a.tmod 2305843009213688669)) [b]).getD 1 0) then
                                                Z.aS (IntKind.u64.wrap (iAdd 1 (key.tmod 2305843009213688668)))
                                                  (Z.prn (IntKind.u64.wrap (iAdd 1 (key.tmod 2305843009213688668))) (Array.mk (List.map (Value.int IntKind.u8) (tabI m 32)))
                                                    ((fromO O (O.pbase (a.tmod 2305843009213688669)) [b]).getD 1 0))
                                                  (Array.mk (List.map (Value.int IntKind.u8) (tabI m 32))) ((fromO O (O.pbase (a.tmod 2305843009213688669)) [b]).getD 1 0)
                                              else 0)
                                              (a.tmod 2305843009213688669)
                                          else 0)
                                          (bif Z.key (IntKind.u64.wrap (iAdd 1 (key.tmod 2305843009213688668))) && O.pright ((fromO O (O.pbase (a.tmod 2305843009213688669)) [b]).getD 1 0) then
                                            Z.aS (IntKind.u64.wrap (iAdd 1 (key.tmod 2305843009213688668)))
                                              (Z.prn (IntKind.u64.wrap (iAdd 1 (key.tmod 2305843009213688668))) (Array.mk (List.map (Value.int IntKind.u8) (tabI m 32)))
                                                ((fromO O (O.pbase (a.tmod 2305843009213688669)) [b]).getD 1 0))
                                              (Array.mk (List.map (Value.int IntKind.u8) (tabI m 32))) ((fromO O (O.pbase (a.tmod 2305843009213688669)) [b]).getD 1 0)
                                          else 0)
                                      else 0))
                                    b)
                                  18446744073709551616)
                              (Value.bool
                                  (bif O.pright ((fromO O (O.pbase (a.tmod 2305843009213688669)) [b]).getD 0 0) then
                                    iBeq
                                      (O.pbase
                                        (O.fadd
                                          (O.fadd 0
                                            (bif
                                                O.fright
                                                    (bif Z.key (IntKind.u64.wrap (iAdd 1 (key.tmod 2305843009213688668))) && O.pright ((fromO O (O.pbase (a.tmod 2305843009213688669)) [b]).getD 1 0) then
                                                      Z.aS (IntKind.u64.wrap (iAdd 1 (key.tmod 2305843009213688668)))
                                                        (Z.prn (IntKind.u64.wrap (iAdd 1 (key.tmod 2305843009213688668))) (Array.mk (List.map (Value.int IntKind.u8) (tabI m 32)))
                                                          ((fromO O (O.pbase (a.tmod 2305843009213688669)) [b]).getD 1 0))
                                                        (Array.mk (List.map (Value.int IntKind.u8) (tabI m 32))) ((fromO O (O.pbase (a.tmod 2305843009213688669)) [b]).getD 1 0)
                                                    else 0) &&
                                                  O.fright
                                                    (bif
                                                        O.fright
                                                            (bif
                                                                Z.key (IntKind.u64.wrap (iAdd 1 (key.tmod 2305843009213688668))) &&
                                                                  O.pright ((fromO O (O.pbase (a.tmod 2305843009213688669)) [b]).getD 1 0) then
                                                              Z.aS (IntKind.u64.wrap (iAdd 1 (key.tmod 2305843009213688668)))
                                                                (Z.prn (IntKind.u64.wrap (iAdd 1 (key.tmod 2305843009213688668))) (Array.mk (List.map (Value.int IntKind.u8) (tabI m 32)))
                                                                  ((fromO O (O.pbase (a.tmod 2305843009213688669)) [b]).getD 1 0))
                                                                (Array.mk (List.map (Value.int IntKind.u8) (tabI m 32))) ((fromO O (O.pbase (a.tmod 2305843009213688669)) [b]).getD 1 0)
                                                            else 0) &&
                                                          O.fright (a.tmod 2305843009213688669) then
                                                      O.fadd
                                                        (bif
                                                            Z.key (IntKind.u64.wrap (iAdd 1 (key.tmod 2305843009213688668))) &&
                                                              O.pright ((fromO O (O.pbase (a.tmod 2305843009213688669)) [b]).getD 1 0) then
                                                          Z.aS (IntKind.u64.wrap (iAdd 1 (key.tmod 2305843009213688668)))
                                                            (Z.prn (IntKind.u64.wrap (iAdd 1 (key.tmod 2305843009213688668))) (Array.mk (List.map (Value.int IntKind.u8) (tabI m 32)))
                                                              ((fromO O (O.pbase (a.tmod 2305843009213688669)) [b]).getD 1 0))
                                                            (Array.mk (List.map (Value.int IntKind.u8) (tabI m 32))) ((fromO O (O.pbase (a.tmod 2305843009213688669)) [b]).getD 1 0)
                                                        else 0)
                                                        (a.tmod 2305843009213688669)
                                                    else 0) then
                                              O.fsub
                                                (bif
                                                    O.fright
                                                        (bif
                                                            Z.key (IntKind.u64.wrap (iAdd 1 (key.tmod 2305843009213688668))) &&
                                                              O.pright ((fromO O (O.pbase (a.tmod 2305843009213688669)) [b]).getD 1 0) then
                                                          Z.aS (IntKind.u64.wrap (iAdd 1 (key.tmod 2305843009213688668)))
                                                            (Z.prn (IntKind.u64.wrap (iAdd 1 (key.tmod 2305843009213688668))) (Array.mk (List.map (Value.int IntKind.u8) (tabI m 32)))
                                                              ((fromO O (O.pbase (a.tmod 2305843009213688669)) [b]).getD 1 0))
                                                            (Array.mk (List.map (Value.int IntKind.u8) (tabI m 32))) ((fromO O (O.pbase (a.tmod 2305843009213688669)) [b]).getD 1 0)
                                                        else 0) &&
                                                      O.fright (a.tmod 2305843009213688669) then
                                                  O.fadd
                                                    (bif Z.key (IntKind.u64.wrap (iAdd 1 (key.tmod 2305843009213688668))) && O.pright ((fromO O (O.pbase (a.tmod 2305843009213688669)) [b]).getD 1 0) then
                                                      Z.aS (IntKind.u64.wrap (iAdd 1 (key.tmod 2305843009213688668)))
                                                        (Z.prn (IntKind.u64.wrap (iAdd 1 (key.tmod 2305843009213688668))) (Array.mk (List.map (Value.int IntKind.u8) (tabI m 32)))
                                                          ((fromO O (O.pbase (a.tmod 2305843009213688669)) [b]).getD 1 0))
                                                        (Array.mk (List.map (Value.int IntKind.u8) (tabI m 32))) ((fromO O (O.pbase (a.tmod 2305843009213688669)) [b]).getD 1 0)
                                                    else 0)
                                                    (a.tmod 2305843009213688669)
                                                else 0)
                                                (bif Z.key (IntKind.u64.wrap (iAdd 1 (key.tmod 2305843009213688668))) && O.pright ((fromO O (O.pbase (a.tmod 2305843009213688669)) [b]).getD 1 0) then
                                                  Z.aS (IntKind.u64.wrap (iAdd 1 (key.tmod 2305843009213688668)))
                                                    (Z.prn (IntKind.u64.wrap (iAdd 1 (key.tmod 2305843009213688668))) (Array.mk (List.map (Value.int IntKind.u8) (tabI m 32)))
                                                      ((fromO O (O.pbase (a.tmod 2305843009213688669)) [b]).getD 1 0))
                                                    (Array.mk (List.map (Value.int IntKind.u8) (tabI m 32))) ((fromO O (O.pbase (a.tmod 2305843009213688669)) [b]).getD 1 0)
                                                else 0)
                                            else 0))
                                          b))
                                      ((fromO O (O.pbase (a.tmod 2305843009213688669)) [b]).getD 0 0)
                                  else false) =
                                Value.bool true)
                              False)
                            False)
                          (Value.bool false = Value.bool true))
                        (Value.bool false = Value.bool true))
                      False)
                    False)
                  (Value.bool false = Value.bool true))
                False)
              False)
            False)
          False)
        False))
    False := by
  have hAm : O.isH (Array.mk (List.map (Value.int IntKind.u8) (tabI m 32))) = true := h_m
  have hk0 := h_key
  have ha0 := h_a
  rw [inU_t] at hk0 ha0
  have e1 : key.tmod 2305843009213688668 = key % 2305843009213688668 := Int.tmod_eq_emod_of_nonneg hk0.1
  have e2 : IntKind.u64.wrap (1 + key % 2305843009213688668) = 1 + key % 2305843009213688668 := by rw [IntKind.wrap_u64]; omega
  have e3 : a.tmod 2305843009213688669 = a % 2305843009213688669 := Int.tmod_eq_emod_of_nonneg ha0.1
  simp only [Sx.app, Sx.nAdd, Sx.nSub, Sx.nMul, Sx.nPow, Sx.nDiv, Sx.nMod, Sx.iAdd, Sx.iSub, Sx.iMul, Sx.iNeg, Sx.iPow, Sx.iOf, e1, e2, e3]
  obtain ⟨k, ek⟩ : ∃ k, k = 1 + key % 2305843009213688668 := ⟨_, rfl⟩
  obtain ⟨t, et⟩ : ∃ t, t = a % 2305843009213688669 := ⟨_, rfl⟩
  simp only [← ek, ← et]
  have h_k : inU k 18446744073709551616 = true := by rw [inU_t]; omega
  have h_t : inU t 18446744073709551616 = true := by rw [inU_t]; omega
  have g1 : (fromO O (O.pbase t) [b]).getD 1 0 = O.pbase t := by kernel_rfl
  have g0 : (fromO O (O.pbase t) [b]).getD 0 0 = O.padd (O.pbase t) (O.pbase b) := by kernel_rfl
  have hk : Z.key k = true := by
    rw [H.key k h_k, show iBeq k 0 = false by simp only [Bool.and_eq_true, Bool.or_eq_true, Sx.iLt_t, Sx.iLt_f, Sx.iLe_t, Sx.iLe_f, Sx.iEq_t, Sx.iEq_f, Sx.iBeq_t, Sx.iBeq_f, Sx.iBne_t, Sx.iBne_f, Nat.ble_eq, Nat.beq_eq, Sx.Cont.n]; omega, show iLe 2305843009213688669 k = false by simp only [Bool.and_eq_true, Bool.or_eq_true, Sx.iLt_t, Sx.iLt_f, Sx.iLe_t, Sx.iLe_f, Sx.iEq_t, Sx.iEq_f, Sx.iBeq_t, Sx.iBeq_f, Sx.iBne_t, Sx.iBne_f, Nat.ble_eq, Nat.beq_eq, Sx.Cont.n]; omega]
    rfl
  have ht : O.fright t = true := by
    rw [H.fr t h_t, show iLe 2305843009213688669 t = false by simp only [Bool.and_eq_true, Bool.or_eq_true, Sx.iLt_t, Sx.iLt_f, Sx.iLe_t, Sx.iLe_f, Sx.iEq_t, Sx.iEq_f, Sx.iBeq_t, Sx.iBeq_f, Sx.iBne_t, Sx.iBne_f, Nat.ble_eq, Nat.beq_eq, Sx.Cont.n]; omega]
    rfl
  have hf : frB O (O.pbase t) ((([b] : List Int).length : Nat) : Int) = false := frB_of (G.pb t) (by simp only [List.length_cons, List.length_nil]; omega)
  have fl : (fromO O (O.pbase t) [b]).length = 2 := fromO_len _ _ _
  have hbs : inUs 18446744073709551616 [b] = true := by simp only [inUs, List.all_cons, List.all_nil, h_b]; rfl
  have hA : ∀ n, Z.chk (O.pbase k) (Array.mk (List.map (Value.int IntKind.u8) (tabI m 32))) (O.pbase t) (Z.aR n (O.pbase t)) (Z.aS k n (Array.mk (List.map (Value.int IntKind.u8) (tabI m 32))) (O.pbase t)) = true := fun n => H.hold k n _ (O.pbase t) h_k hk (G.pb t)
  have hV : ∀ n, Z.chk (O.pbase k) (Array.mk (List.map (Value.int IntKind.u8) (tabI m 32))) 1 (Z.aR n (O.pbase t)) (O.fadd (Z.aS k n (Array.mk (List.map (Value.int IntKind.u8) (tabI m 32))) (O.pbase t)) t) = true := fun n => by rw [← H.shift _ _ _ _ _ (H.sF k n _ (O.pbase t))]; exact hA n
  have hs : ∀ S, O.fsub (O.fadd S t) S = t := fun S => H.subadd S t h_t ht
  have hB : O.pbase (O.fadd (O.fadd 0 t) b) = O.padd (O.pbase t) (O.pbase b) := by rw [← G.ba, G.fv 0 t (by decide) h_t, Int.zero_add, G.bm t h_t]
  simp only [g1, g0, hk, ht, hf, fl, hbs, hA, hV, hs, hB, h_k, h_t, h_b, hAm, G.pb, G.pa, F.fadd, F.fsub, F.fmul, F.padd, F.pneg, F.pbase, F.pscale, F.pall, F.ffrom, F.tH, H.sR, H.sS, H.sF, H.aF, H.bF, H.p1, Bool.and_self, Bool.and_true, Bool.true_and, Bool.and_false, Bool.false_and, Bool.not_true, Bool.not_false, Bool.or_true, Bool.true_or, Bool.false_or, Bool.or_false, cond_true, cond_false, If_t, If_f, beq_b, iBeq_self, iBne_self, eqv2, inU_1, inU_0, show ([b] : List Int).length.ble 1000 = true from rfl]
theorem wpc_paSigned (O : OO) (Z : OZ) (Y : OY) (a b key : Int) (m : Nat → Int) (F : FO O) (G : FP O) (H : FZ O Z) (h_a : inU a 18446744073709551616 = true) (h_b : inU b 18446744073709551616 = true) (h_key : inU key 18446744073709551616 = true) (h_m : O.isH (AV m) = true) : wpcI Try.prog (spP3 O Z Y) Try.f11.ntmps [] (bodyOf Try.f11) 0 0 (argEnv [.int .u64 a, .int .u64 b, .int .u64 key, .agg (AV m)] 0) [] (retK Try.prog Try.f11.results.toList (.bool true)) :=
  Eq.mpr (by kernel_rfl) (vc_paSigned O Z Y a b key m F G H h_a h_b h_key h_m)
theorem walk_paSigned (a : Nat) (hb_a : a < 18446744073709551616) (b : Nat) (hb_b : b < 18446744073709551616) (key : Nat) (hb_key : key < 18446744073709551616) (l_m : List Nat) (hl_m : l_m.length = 32) (hb_m : ∀ i, l_m.getD i 0 < 256) (w : World) : Calls Try.prog 11 #[.int .u64 (a : Int), .int .u64 (b : Int), .int .u64 (key : Int), B8 l_m] w fun e w' => e = .returned (.bool true) ∧ Kp w w' := by
  obtain ⟨m, e_m, i_m⟩ := bcs_AV l_m hl_m hb_m
  rw [show (B8 l_m : Value) = .agg (AV m) from congrArg Value.agg e_m]
  exact (calls_realI (I := I0) (spP3_ok I0 oo rfl (zO oo) rfl (yO oo) rfl) (by kernel_rfl) [] (l := [.int .u64 (a : Int), .int .u64 (b : Int), .int .u64 (key : Int), .agg (AV m)]) Try.func11 (by kernel_rfl) rfl Try.ntmps11 (by simp) (wpc_paSigned oo (zO oo) (yO oo) (a : Int) (b : Int) (key : Int) m (fo_oo oo rfl) fp_oo fz_oo (inU_of hb_a) (inU_of hb_b) (inU_of hb_key) (isH_oo i_m)) w).mono fun _ _ ⟨he, hf⟩ => ⟨he, fr_below hf⟩
end Go.Proofs.Ytheihhjlkefhgaa
