/- Signatures: the functions of the program and of the document, by the symbolic machine (printed by gensg2.py; VCs by VcTool). -/
import Derived.Test.YtcdmmfelagbpdaaSg1
namespace Go.Proofs.Ytcdmmfelagbpdaa
open Go.RowKit Go.Lib Ckp Cfd Cpd Sx
set_option linter.unusedVariables false
set_option linter.unusedSimpArgs false
set_option maxRecDepth 1000000
/-- A sum's cells. -/
def AV (h : Nat → Int) : Array Value := ⟨(tabI h 32).map (Value.int .u8)⟩
def intV : Value → Int
 | .int _ x => x
 | _ => 0
def intsA (a : Array Value) : List Int := a.toList.map intV
/-- What the walks of signatures are stuck on. -/
structure OZ where
 chal : Int → Int → Array Value → Int
 key : Int → Bool
 aR : Int → Int → Int
 aS : Int → Int → Array Value → Int → Int
 non : Int → Array Value → Int
 prn : Int → Array Value → Int → Int
 chk : Int → Array Value → Int → Int → Int → Bool
 skey : Array Value → Int
def sigB : ByteArray := ByteArray.mk #[115, 105, 103]
def keyB : ByteArray := ByteArray.mk #[107, 101, 121]
def nonB : ByteArray := ByteArray.mk #[110, 111, 110, 99, 101]
def preB : ByteArray := ByteArray.mk #[112, 114, 101]
def chalO (O : OO) (r p : Int) (a : Array Value) : Int := O.ffrom (AV (O.tag sigB [O.be8 r, O.be8 p, intsA a]))
def aRO (O : OO) (n t : Int) : Int := O.padd (O.pbase n) t
def aSO (O : OO) (k n : Int) (a : Array Value) (t : Int) : Int := O.fadd n (O.fmul (chalO O (aRO O n t) (O.pbase k) a) k)
def chkO (O : OO) (p : Int) (a : Array Value) (t R S : Int) : Bool :=
 bif iBeq p 1 || !(O.pright p) || !(O.pright t) || !(O.pright R) || !(O.fright S) then false else iBeq (O.pbase S) (O.pall [R, O.pscale p (chalO O R p a), O.pneg t])
def zO (O : OO) : OZ := ⟨chalO O, fun k => O.fright k && iBne k 0, aRO O, aSO O, fun k a => O.ffrom (AV (O.tag nonB [O.be8 k, intsA a])), fun k a t => O.ffrom (AV (O.tag preB [O.be8 k, intsA a, O.be8 t])), chkO O, fun a => O.ffrom (AV (O.tag keyB [intsA a]))⟩
structure FO (O : OO) : Prop where
 b8 : ∀ n, (O.be8 n).length = 8
 tH : ∀ s ps, O.isH (AV (O.tag s ps)) = true
 fadd : ∀ a b, inU (O.fadd a b) 18446744073709551616 = true
 fsub : ∀ a b, inU (O.fsub a b) 18446744073709551616 = true
 fmul : ∀ a b, inU (O.fmul a b) 18446744073709551616 = true
 padd : ∀ a b, inU (O.padd a b) 18446744073709551616 = true
 pneg : ∀ a, inU (O.pneg a) 18446744073709551616 = true
 pbase : ∀ a, inU (O.pbase a) 18446744073709551616 = true
 pscale : ∀ a b, inU (O.pscale a b) 18446744073709551616 = true
 pall : ∀ a, inU (O.pall a) 18446744073709551616 = true
 ffrom : ∀ a, inU (O.ffrom a) 18446744073709551616 = true
 comm : ∀ a b, O.fmul a b = O.fmul b a
 alg : ∀ r p t s e, O.pright t = true → iBeq (O.padd (O.pbase s) t) (O.padd r (O.pscale p e)) = iBeq (O.pbase s) (O.pall [r, O.pscale p e, O.pneg t])
 sH : ∀ l, O.isH (AV (O.sum l)) = true
theorem inU_1 : inU 1 18446744073709551616 = true := by decide
theorem inU_cast {n : Nat} (h : n < 18446744073709551616) : inU (n : Int) 18446744073709551616 = true := inU_of h
theorem pallI_nat (l : List Int) : pallI l = ((pall (l.map Int.toNat) : Nat) : Int) := by
 unfold pallI pall
 have : ∀ (l : List Int) (o : Nat), l.foldl (fun o a => ((pt o.toNat (ptaken a.toNat) : Nat) : Int)) (o : Int) = (((l.map Int.toNat).foldl (fun o a => pt o (ptaken a)) o : Nat) : Int) := by
  intro l
  induction l with
  | nil => intro o; rfl
  | cons a l ih => intro o; simp only [List.foldl_cons, List.map_cons, Int.toNat_natCast]; exact ih _
 exact this l 1

theorem isH_AV {a : Array Value} (h : isHa a = true) : ∃ m : Nat → Int, a = AV m := by
 obtain ⟨l, h1, h2, h3, h4⟩ := isHa_spec h
 refine ⟨fun i => (l.map fun n : Nat => (n : Int)).getD i 0, ?_⟩
 rw [h3, AV, tab_self (by simpa using h1)]
 apply Array.ext'; simp
theorem sum_byte (l : List Int) : ∀ x ∈ sumI l, 0 ≤ x ∧ x < 256 := by
 have key : ∀ (h : List Int) (n : Nat), ∀ x ∈ tabI (fun i => IntKind.u8.wrap ((h.getD (i / 4) 0).fdiv (2 ^ (24 - 8 * (i % 4))))) n, 0 ≤ x ∧ x < 256 := by
  intro h n
  induction n with
  | zero => intro x hx; simp [tabI] at hx
  | succ n ih =>
   intro x hx
   simp only [tabI, List.mem_append, List.mem_singleton] at hx
   rcases hx with hx | rfl
   ·exact ih x hx
   ·rw [IntKind.wrap_u8]; omega
 intro x hx
 exact key _ 32 x hx
theorem isHa_AV {l : List Int} (h1 : l.length = 32) (h2 : ∀ x ∈ l, 0 ≤ x ∧ x < 256) : isHa ⟨l.map (Value.int .u8)⟩ = true := by
 unfold isHa
 rw [Bool.and_eq_true]
 refine ⟨by rw [Nat.beq_eq]; simpa using h1, List.all_eq_true.2 fun v hv => ?_⟩
 obtain ⟨x, hx, rfl⟩ := List.mem_map.1 hv
 have := h2 x hx
 simp [byteV, this.1, this.2]
theorem pall3 (a b c : Nat) : pall [a, b, c] = padd (padd a b) c := by
 have := pall_app [a, b] [c]
 rw [pall_two, pall_one, add_taken] at this
 exact this
theorem group_eq {a r t : Nat} (ha : pright a = true) (ht : pright t = true) (hr : pright r = true) : (padd a t = r) ↔ (a = padd r (pneg t)) := by
 constructor
 ·intro h
  have := add_sub a t
  rw [h, taken_of ha] at this
  exact this.symm
 ·intro h
  rw [h, add_assoc, add_comm t (pneg t), add_neg, add_one, taken_of hr]
theorem fo_oo (O : OO) (hO : O = oo) : FO O := by
 subst hO
 refine ⟨os_b8, fun s ps => ?_, fun a b => inU_cast ?_, fun a b => inU_cast ?_, fun a b => inU_cast ?_, fun a b => inU_cast ?_, fun a => inU_cast ?_, fun a => inU_cast ?_, fun a b => inU_cast ?_, fun a => ?_, fun a => inU_cast ?_, fun a b => ?_, fun r p t s e ht => ?_, fun l => ?_⟩
 ·have e : oo.isH (AV (oo.tag s ps)) = isHa (AV (os.tag s ps)) := by kernel_rfl
  rw [e, AV, os_tag, sum_tab]
  exact isHa_AV (out_len _) (sum_byte _)
 ·have := fadd_lt a.toNat b.toNat; omega
 ·have := fsub_lt a.toNat b.toNat; omega
 ·have := fmul_lt a.toNat b.toNat; omega
 ·have := padd_lt a.toNat b.toNat; omega
 ·have := pneg_lt a.toNat; omega
 ·have := pbase_lt a.toNat; omega
 ·have := pscale_lt a.toNat b.toNat; omega
 ·have e : oo.pall a = pallI a := by kernel_rfl
  rw [e, pallI_nat]
  exact inU_cast (by have := pall_lt (a.map Int.toNat); omega)
 ·have := ffrom_lt (natsA a); omega
 ·have e : ∀ a b, oo.fmul a b = ((fmul a.toNat b.toNat : Nat) : Int) := by intro a b; kernel_rfl
  rw [e, e, r_comm_mul]
 ·have e1 : iBeq (oo.padd (oo.pbase s) t) (oo.padd r (oo.pscale p e)) = iBeq ((padd ((pbase s.toNat : Nat) : Int).toNat t.toNat : Nat) : Int) ((padd r.toNat ((pscale p.toNat e.toNat : Nat) : Int).toNat : Nat) : Int) := by kernel_rfl
  have e2 : iBeq (oo.pbase s) (oo.pall [r, oo.pscale p e, oo.pneg t]) = iBeq ((pbase s.toNat : Nat) : Int) (pallI [r, ((pscale p.toNat e.toNat : Nat) : Int), ((pneg t.toNat : Nat) : Int)]) := by kernel_rfl
  rw [e1, e2]
  rw [pallI_nat]
  simp only [List.map_cons, List.map_nil, Int.toNat_natCast, pall3]
  have := group_eq (right_base s.toNat) (show pright t.toNat = true from ht) (right_add r.toNat (pscale p.toNat e.toNat))
  rw [Bool.eq_iff_iff, iBeq_t, iBeq_t, Int.natCast_inj, Int.natCast_inj]
  exact this
 ·have e : oo.isH (AV (oo.sum l)) = isHa (AV (os.sum l)) := by kernel_rfl
  rw [e, AV, os_sum, sum_tab]
  exact isHa_AV (out_len _) (sum_byte _)
def spZ0 (O : OO) (Z : OZ) (f : FuncId) : Option Sx.Spec := match f with
 | 88 => some (Sx.vspec (g_fRight O))
 | 86 => some (Sx.vspec (g_fAdd O))
 | 89 => some (Sx.vspec (g_fMul O))
 | 70 => some (Sx.vspec (g_fFrom O))
 | 65 => some (Sx.vspec (g_pRight O))
 | 42 => some (Sx.vspec (g_pAdd O))
 | 110 => some (Sx.vspec (g_pNeg O))
 | 39 => some (Sx.vspec (g_pBase O))
 | 64 => some (Sx.vspec (g_pScale O))
 | 77 => some (Sx.vspec (g_rRight6 O))
 | 82 => some (Sx.vspec (g_rAdd6 O))
 | 83 => some (Sx.vspec (g_rBase6 O))
 | 103 => some (Sx.vspec (g_rScale6 O))
 | 71 => some (gspec [.v, .ros] (g_tagO O))
 | 67 => some (gspec [.ro .u64] (g_All O))
 | f => none
theorem spZ0_ok (I : Sx.Interp) (O : OO) (hO : O = oo) (Z : OZ) (hZ : Z = zO O) : ∀ f s, spZ0 O Z f = some s → Sx.SpecOK I Try.prog f s := by
 intro f s h
 unfold spZ0 at h
 split at h
 · cases h; exact ok_fRight I O hO
 · cases h; exact ok_fAdd I O hO
 · cases h; exact ok_fMul I O hO
 · cases h; exact ok_fFrom I O hO
 · cases h; exact ok_pRight I O hO
 · cases h; exact ok_pAdd I O hO
 · cases h; exact ok_pNeg I O hO
 · cases h; exact ok_pBase I O hO
 · cases h; exact ok_pScale I O hO
 · cases h; exact ok_rRight6 I O hO
 · cases h; exact ok_rAdd6 I O hO
 · cases h; exact ok_rBase6 I O hO
 · cases h; exact ok_rScale6 I O hO
 · cases h; exact ok_hTag I O hO
 · cases h; exact ok_All I O hO
 ·cases h
def g_Long8 (O : OO) (xs : List Arg) : Option (Bool × List Ret) := match xs with
 | [.v (.int .u64 n)] => some (inU n 18446744073709551616, [.ints 5 .u8 (O.be8 n)])
 | _ => none
set_option maxHeartbeats 4000000 in
theorem vc_eight (O : OO) (Z : OZ) (n : Int) (out : List Int) (hn : inU n 18446744073709551616 = true) (ho : out = O.be8 n) (hb : O.be8 = be8Z) :
 EqI [IntKind.u8.wrap (n.fdiv (iPow 2 56)), IntKind.u8.wrap (n.fdiv (iPow 2 48)), IntKind.u8.wrap (n.fdiv (iPow 2 40)), IntKind.u8.wrap (n.fdiv (iPow 2 32)), IntKind.u8.wrap (n.fdiv
  (iPow 2 24)), IntKind.u8.wrap (n.fdiv (iPow 2 16)), IntKind.u8.wrap (n.fdiv (iPow 2 8)), IntKind.u8.wrap (n.fdiv (iPow 2 0))] out ∧ True := by
 refine ⟨?_, trivial⟩
 rw [ho, hb]
 rfl
theorem wpc_eight (O : OO) (Z : OZ) (n : Int) (out : List Int) (hn : inU n 18446744073709551616 = true) (ho : out = O.be8 n) (hb : O.be8 = be8Z) : wpc Try.prog (spZ0 O Z) Try.f72.ntmps [Ann.walk 9] (bodyOf Try.f72) 0 64 (envA [.v] [.v (.int .u64 n)] 0) (memA [.v] [.v (.int .u64 n)] 0) (retG Try.prog Try.f72.results.toList [.ints 5 .u8 out]) :=
 Eq.mpr (by kernel_rfl) (vc_eight O Z n out hn ho hb)
theorem ok_eight (I : Sx.Interp) (O : OO) (hO : O = oo) (Z : OZ) (hZ : Z = zO O) : Sx.SpecOK I Try.prog 72 (gspec [.v] (g_Long8 O)) := by
 refine spec_gen (spZ0_ok I O hO Z hZ) (by kernel_rfl) [Ann.walk 9] Try.func72 (by kernel_rfl) (by kernel_rfl) rfl Try.ntmps72 (by decide) ?_ ?_
 ·intro xs p rs h; unfold g_Long8 at h; split at h <;> first | (simp only [Option.some.injEq, Prod.mk.injEq] at h; rw [← h.2]; simp) | cases h
 ·intro xs rs hl h
  unfold g_Long8 at h
  split at h
  ·simp only [Option.some.injEq, Prod.mk.injEq] at h
   obtain ⟨hc, rfl⟩ := h
   exact wpc_eight O Z _ _ hc rfl (by subst hO; kernel_rfl)
  ·cases h
def spZ1 (O : OO) (Z : OZ) (f : FuncId) : Option Sx.Spec := match f with
 | 72 => some (gspec [.v] (g_Long8 O))
 | f => spZ0 O Z f
theorem spZ1_ok (I : Sx.Interp) (O : OO) (hO : O = oo) (Z : OZ) (hZ : Z = zO O) : ∀ f s, spZ1 O Z f = some s → Sx.SpecOK I Try.prog f s := by
 intro f s h
 unfold spZ1 at h
 split at h
 · cases h; exact ok_eight I O hO Z hZ
 ·exact spZ0_ok I O hO Z hZ _ s h
theorem tag1 {n : Nat} {a : List Int} (h : n + a.length ≤ 1000000) : (tagN n [a]).ble 1099511627776 = true := by simp only [tagN, List.foldl, Nat.ble_eq]; omega
theorem tag2 {n : Nat} {a b : List Int} (h : n + a.length + b.length ≤ 1000000) : (tagN n [a, b]).ble 1099511627776 = true := by simp only [tagN, List.foldl, Nat.ble_eq]; omega
theorem tag3 {n : Nat} {a b c : List Int} (h : n + a.length + b.length + c.length ≤ 1000000) : (tagN n [a, b, c]).ble 1099511627776 = true := by simp only [tagN, List.foldl, Nat.ble_eq]; omega
def g_chal (O : OO) (Z : OZ) (l : List Value) : Option (Bool × Value) := match l with
 | [.int .u64 r, .int .u64 p, .agg m] => some ((inU r 18446744073709551616) && (inU p 18446744073709551616) && (O.isH m), .int .u64 (Z.chal r p m))
 | _ => none
set_option maxHeartbeats 4000000 in
theorem vc_chal (O : OO) (Z : OZ) (r p : Int) (m : Nat → Int) (out : Value) (F : FO O) (hz : Z = zO O) (h0 : inU r 18446744073709551616 = true) (h1 : inU p 18446744073709551616 = true) (h2 : O.isH (AV m) = true) (ho : .int .u64 (Z.chal r p (AV m)) = out) :
 If (inU r 18446744073709551616) (If (inU p 18446744073709551616) (If ((tagN 3 [O.be8 r, O.be8 p, [m 0, m 1, m 2, m 3, m 4, m 5, m 6, m 7, m 8, m 9, m 10, m 11, m 12, m 13, m 14, m
  15, m 16, m 17, m 18, m 19, m 20, m 21, m 22, m 23, m 24, m 25, m 26, m 27, m 28, m 29, m 30, m 31]]).ble 1099511627776) (If (decide (O.isH (Array.mk (List.map (Value.int .u8) (tabI
  (O.tag (ByteArray.mk (Array.mk [115, 105, 103])) [O.be8 r, O.be8 p, [m 0, m 1, m 2, m 3, m 4, m 5, m 6, m 7, m 8, m 9, m 10, m 11, m 12, m 13, m 14, m 15, m 16, m 17, m 18, m 19, m
  20, m 21, m 22, m 23, m 24, m 25, m 26, m 27, m 28, m 29, m 30, m 31]]) 32))) = true)) (Value.int .u64 (O.ffrom (Array.mk (List.map (Value.int .u8) (tabI (O.tag (ByteArray.mk
  (Array.mk [115, 105, 103])) [O.be8 r, O.be8 p, [m 0, m 1, m 2, m 3, m 4, m 5, m 6, m 7, m 8, m 9, m 10, m 11, m 12, m 13, m 14, m 15, m 16, m 17, m 18, m 19, m 20, m 21, m 22, m 23,
  m 24, m 25, m 26, m 27, m 28, m 29, m 30, m 31]]) 32)))) = out) False) False) False) False := by
 have hAm : O.isH (Array.mk (List.map (Value.int IntKind.u8) (tabI m 32))) = true := h2
 refine Sx.if_true h0 (Sx.if_true h1 (Sx.if_true (tag3 (by simp only [F.b8, List.length_cons, List.length_nil]; omega)) (Sx.if_true (decide_eq_true (F.tH _ _)) ?_)))
 rw [← ho, hz]
 kernel_rfl
theorem wpc_chal (O : OO) (Z : OZ) (r p : Int) (m : Nat → Int) (out : Value) (F : FO O) (hz : Z = zO O) (h0 : inU r 18446744073709551616 = true) (h1 : inU p 18446744073709551616 = true) (h2 : O.isH (AV m) = true) (ho : .int .u64 (Z.chal r p (AV m)) = out) : wpcI Try.prog (spZ1 O Z) Try.f90.ntmps [] (bodyOf Try.f90) 0 0 (argEnv [.int .u64 r, .int .u64 p, .agg (AV m)] 0) [] (retK Try.prog Try.f90.results.toList out) :=
 Eq.mpr (by kernel_rfl) (vc_chal O Z r p m out F hz h0 h1 h2 ho)
theorem ok_chal (I : Sx.Interp) (O : OO) (hO : O = oo) (Z : OZ) (hZ : Z = zO O) : Sx.SpecOK I Try.prog 90 (Sx.vspec (g_chal O Z)) := by
 refine spec_walk (n := 3) (spZ1_ok I O hO Z hZ) (by kernel_rfl) [] Try.func90 (by kernel_rfl) (by kernel_rfl) rfl Try.ntmps90 (by decide) ?_ ?_
 ·intro l p v hg; unfold g_chal at hg; split at hg <;> first | rfl | cases hg
 ·intro l v hg
  unfold g_chal at hg
  split at hg
  ·rename_i r p m
   simp only [Option.some.injEq, Prod.mk.injEq, Bool.and_eq_true] at hg
   obtain ⟨⟨⟨c0, c1⟩, c2⟩, rfl⟩ := hg
   obtain ⟨m, rfl⟩ := isH_AV (by subst hO; exact c2 : isHa m = true)
   exact wpc_chal O Z r p m _ (fo_oo O hO) hZ c0 c1 c2 rfl
  ·cases hg
def g_rchal (O : OO) (Z : OZ) (l : List Value) : Option (Bool × Value) := match l with
 | [.int .u64 r, .int .u64 p, .agg m] => some ((inU r 18446744073709551616) && (inU p 18446744073709551616) && (O.isH m), .int .u64 (Z.chal r p m))
 | _ => none
def g_key (O : OO) (Z : OZ) (l : List Value) : Option (Bool × Value) := match l with
 | [.int .u64 k] => some ((inU k 18446744073709551616), .bool (Z.key k))
 | _ => none
set_option maxHeartbeats 4000000 in
theorem vc_key (O : OO) (Z : OZ) (k : Int) (out : Value) (F : FO O) (hz : Z = zO O) (h0 : inU k 18446744073709551616 = true) (ho : .bool (Z.key k) = out) :
 If (inU k 18446744073709551616) (If (O.fright k) (Value.bool (iBne k 0) = out) (Value.bool false = out)) False := by
 have fc : ∀ r p a, inU (Z.chal r p a) 18446744073709551616 = true := by subst hz; exact fun _ _ _ => F.ffrom _
 have fn : ∀ k a, inU (Z.non k a) 18446744073709551616 = true := by subst hz; exact fun _ _ => F.ffrom _
 have fp : ∀ k a t, inU (Z.prn k a t) 18446744073709551616 = true := by subst hz; exact fun _ _ _ => F.ffrom _
 have len3 : ∀ a b c : Int, [a, b, c].length.ble 9223372036854775807 = true := fun _ _ _ => rfl
 simp only [h0, F.fadd, F.fsub, F.fmul, F.padd, F.pneg, F.pbase, F.pscale, F.pall, F.ffrom, F.tH, inU_1, Bool.and_self, Bool.and_true, Bool.true_and, decide_true, If_t, If_f, inUs, List.all_cons, List.all_nil, fc, len3]
 rw [← ho, hz]
 show If (O.fright k) (Value.bool (iBne k 0) = Value.bool (O.fright k && iBne k 0)) (Value.bool false = Value.bool (O.fright k && iBne k 0))
 cases O.fright k <;> rfl
theorem wpc_key (O : OO) (Z : OZ) (k : Int) (out : Value) (F : FO O) (hz : Z = zO O) (h0 : inU k 18446744073709551616 = true) (ho : .bool (Z.key k) = out) : wpcI Try.prog (spZ1 O Z) Try.f68.ntmps [] (bodyOf Try.f68) 0 0 (argEnv [.int .u64 k] 0) [] (retK Try.prog Try.f68.results.toList out) :=
 Eq.mpr (by kernel_rfl) (vc_key O Z k out F hz h0 ho)
theorem ok_key (I : Sx.Interp) (O : OO) (hO : O = oo) (Z : OZ) (hZ : Z = zO O) : Sx.SpecOK I Try.prog 68 (Sx.vspec (g_key O Z)) := by
 refine spec_walk (n := 1) (spZ1_ok I O hO Z hZ) (by kernel_rfl) [] Try.func68 (by kernel_rfl) (by kernel_rfl) rfl Try.ntmps68 (by decide) ?_ ?_
 ·intro l p v hg; unfold g_key at hg; split at hg <;> first | rfl | cases hg
 ·intro l v hg
  unfold g_key at hg
  split at hg
  ·rename_i k
   simp only [Option.some.injEq, Prod.mk.injEq, Bool.and_eq_true] at hg
   obtain ⟨c0, rfl⟩ := hg
   exact wpc_key O Z k _ (fo_oo O hO) hZ c0 rfl
  ·cases hg
def g_rkey (O : OO) (Z : OZ) (l : List Value) : Option (Bool × Value) := match l with
 | [.int .u64 k] => some ((inU k 18446744073709551616), .bool (Z.key k))
 | _ => none
def g_skey (O : OO) (Z : OZ) (l : List Value) : Option (Bool × Value) := match l with
 | [.agg m] => some ((O.isH m), .int .u64 (Z.skey m))
 | _ => none
def g_rskey (O : OO) (Z : OZ) (l : List Value) : Option (Bool × Value) := match l with
 | [.agg m] => some ((O.isH m), .int .u64 (Z.skey m))
 | _ => none
def spZ2 (O : OO) (Z : OZ) (f : FuncId) : Option Sx.Spec := match f with
 | 90 => some (Sx.vspec (g_chal O Z))
 | 68 => some (Sx.vspec (g_key O Z))
 | f => spZ1 O Z f
theorem spZ2_ok (I : Sx.Interp) (O : OO) (hO : O = oo) (Z : OZ) (hZ : Z = zO O) : ∀ f s, spZ2 O Z f = some s → Sx.SpecOK I Try.prog f s := by
 intro f s h
 unfold spZ2 at h
 split at h
 · cases h; exact ok_chal I O hO Z hZ
 · cases h; exact ok_key I O hO Z hZ
 ·exact spZ1_ok I O hO Z hZ _ s h
def g_answer (O : OO) (Z : OZ) (l : List Value) : Option (Bool × Value) := match l with
 | [.int .u64 k, .int .u64 n, .agg m, .int .u64 t] => some ((inU k 18446744073709551616) && (inU n 18446744073709551616) && (inU t 18446744073709551616) && (O.isH m), .agg #[.int .u64 (Z.aR n t), .int .u64 (Z.aS k n m t)])
 | _ => none
set_option maxHeartbeats 4000000 in
theorem vc_answer (O : OO) (Z : OZ) (k n t : Int) (m : Nat → Int) (out : Value) (F : FO O) (hz : Z = zO O) (h0 : inU k 18446744073709551616 = true) (h1 : inU n 18446744073709551616 = true) (h2 : inU t 18446744073709551616 = true) (h3 : O.isH (AV m) = true) (ho : .agg #[.int .u64 (Z.aR n t), .int .u64 (Z.aS k n (AV m) t)] = out) :
 If (inU n 18446744073709551616) (If (inU (O.pbase n) 18446744073709551616 && inU t 18446744073709551616) (If (inU k 18446744073709551616) (If (inU (O.padd (O.pbase n) t)
  18446744073709551616 && inU (O.pbase k) 18446744073709551616 && O.isH (Array.mk (List.map (Value.int .u8) (tabI m 32)))) (If (inU (Z.chal (O.padd (O.pbase n) t) (O.pbase k)
  (Array.mk (List.map (Value.int .u8) (tabI m 32)))) 18446744073709551616 && inU k 18446744073709551616) (If (inU n 18446744073709551616 && inU (O.fmul (Z.chal (O.padd (O.pbase n) t)
  (O.pbase k) (Array.mk (List.map (Value.int .u8) (tabI m 32)))) k) 18446744073709551616) (Value.agg (Array.mk [Value.int .u64 (O.padd (O.pbase n) t), Value.int .u64 (O.fadd n (O.fmul
  (Z.chal (O.padd (O.pbase n) t) (O.pbase k) (Array.mk (List.map (Value.int .u8) (tabI m 32)))) k))]) = out) False) False) False) False) False) False := by
 have hAm : O.isH (Array.mk (List.map (Value.int IntKind.u8) (tabI m 32))) = true := h3
 have fc : ∀ r p a, inU (Z.chal r p a) 18446744073709551616 = true := by subst hz; exact fun _ _ _ => F.ffrom _
 have fn : ∀ k a, inU (Z.non k a) 18446744073709551616 = true := by subst hz; exact fun _ _ => F.ffrom _
 have fp : ∀ k a t, inU (Z.prn k a t) 18446744073709551616 = true := by subst hz; exact fun _ _ _ => F.ffrom _
 have len3 : ∀ a b c : Int, [a, b, c].length.ble 9223372036854775807 = true := fun _ _ _ => rfl
 simp only [hAm, h0, h1, h2, h3, F.fadd, F.fsub, F.fmul, F.padd, F.pneg, F.pbase, F.pscale, F.pall, F.ffrom, F.tH, inU_1, Bool.and_self, Bool.and_true, Bool.true_and, decide_true, If_t, If_f, inUs, List.all_cons, List.all_nil, fc, len3]
 rw [← ho, hz]
 change _ = _
 kernel_rfl
theorem wpc_answer (O : OO) (Z : OZ) (k n t : Int) (m : Nat → Int) (out : Value) (F : FO O) (hz : Z = zO O) (h0 : inU k 18446744073709551616 = true) (h1 : inU n 18446744073709551616 = true) (h2 : inU t 18446744073709551616 = true) (h3 : O.isH (AV m) = true) (ho : .agg #[.int .u64 (Z.aR n t), .int .u64 (Z.aS k n (AV m) t)] = out) : wpcI Try.prog (spZ2 O Z) Try.f69.ntmps [] (bodyOf Try.f69) 0 0 (argEnv [.int .u64 k, .int .u64 n, .agg (AV m), .int .u64 t] 0) [] (retK Try.prog Try.f69.results.toList out) :=
 Eq.mpr (by kernel_rfl) (vc_answer O Z k n t m out F hz h0 h1 h2 h3 ho)
theorem ok_answer (I : Sx.Interp) (O : OO) (hO : O = oo) (Z : OZ) (hZ : Z = zO O) : Sx.SpecOK I Try.prog 69 (Sx.vspec (g_answer O Z)) := by
 refine spec_walk (n := 4) (spZ2_ok I O hO Z hZ) (by kernel_rfl) [] Try.func69 (by kernel_rfl) (by kernel_rfl) rfl Try.ntmps69 (by decide) ?_ ?_
 ·intro l p v hg; unfold g_answer at hg; split at hg <;> first | rfl | cases hg
 ·intro l v hg
  unfold g_answer at hg
  split at hg
  ·rename_i k n m t
   simp only [Option.some.injEq, Prod.mk.injEq, Bool.and_eq_true] at hg
   obtain ⟨⟨⟨⟨c0, c1⟩, c2⟩, c3⟩, rfl⟩ := hg
   obtain ⟨m, rfl⟩ := isH_AV (by subst hO; exact c3 : isHa m = true)
   exact wpc_answer O Z k n t m _ (fo_oo O hO) hZ c0 c1 c2 c3 rfl
  ·cases hg
def g_made (O : OO) (Z : OZ) (l : List Value) : Option (Bool × Value) := match l with
 | [.int .u64 k, .int .u64 n, .agg m, .int .u64 t] => some ((inU k 18446744073709551616) && (inU n 18446744073709551616) && (inU t 18446744073709551616) && (O.isH m), .agg #[.int .u64 (Z.aR n t), .int .u64 (Z.aS k n m t)])
 | _ => none
def g_checks (O : OO) (Z : OZ) (l : List Value) : Option (Bool × Value) := match l with
 | [.int .u64 p, .agg m, .int .u64 t, .agg ⟨[.int .u64 r, .int .u64 s]⟩] => some ((inU p 18446744073709551616) && (inU t 18446744073709551616) && (inU r 18446744073709551616) && (inU s 18446744073709551616) && (O.isH m), .bool (Z.chk p m t r s))
 | _ => none
set_option maxHeartbeats 4000000 in
theorem vc_checks (O : OO) (Z : OZ) (p t r s : Int) (m : Nat → Int) (out : Value) (F : FO O) (hz : Z = zO O) (h0 : inU p 18446744073709551616 = true) (h1 : inU t 18446744073709551616 = true) (h2 : inU r 18446744073709551616 = true) (h3 : inU s 18446744073709551616 = true) (h4 : O.isH (AV m) = true) (ho : .bool (Z.chk p (AV m) t r s) = out) :
 If (iBeq p 1) (Value.bool false = out) (If (inU p 18446744073709551616) (If (!O.pright p) (Value.bool false = out) (If (inU t 18446744073709551616) (If (!O.pright t) (Value.bool
  false = out) (If (inU r 18446744073709551616) (If (!O.pright r) (Value.bool false = out) (If (inU s 18446744073709551616) (If (!O.fright s) (Value.bool false = out) (If (inU r
  18446744073709551616 && inU p 18446744073709551616 && O.isH (Array.mk (List.map (Value.int .u8) (tabI m 32)))) (If (inU p 18446744073709551616 && inU (Z.chal r p (Array.mk (List.map
  (Value.int .u8) (tabI m 32)))) 18446744073709551616) (If (inU t 18446744073709551616) (If (inUs 18446744073709551616 [r, O.pscale p (Z.chal r p (Array.mk (List.map (Value.int .u8)
  (tabI m 32)))), O.pneg t] && [r, O.pscale p (Z.chal r p (Array.mk (List.map (Value.int .u8) (tabI m 32)))), O.pneg t].length.ble 9223372036854775807) (If (inU s
  18446744073709551616) (Value.bool (iBeq (O.pbase s) (O.pall [r, O.pscale p (Z.chal r p (Array.mk (List.map (Value.int .u8) (tabI m 32)))), O.pneg t])) = out) False) False) False)
  False) False)) False)) False)) False)) False) := by
 have hAm : O.isH (Array.mk (List.map (Value.int IntKind.u8) (tabI m 32))) = true := h4
 have fc : ∀ r p a, inU (Z.chal r p a) 18446744073709551616 = true := by subst hz; exact fun _ _ _ => F.ffrom _
 have fn : ∀ k a, inU (Z.non k a) 18446744073709551616 = true := by subst hz; exact fun _ _ => F.ffrom _
 have fp : ∀ k a t, inU (Z.prn k a t) 18446744073709551616 = true := by subst hz; exact fun _ _ _ => F.ffrom _
 have len3 : ∀ a b c : Int, [a, b, c].length.ble 9223372036854775807 = true := fun _ _ _ => rfl
 simp only [hAm, h0, h1, h2, h3, h4, F.fadd, F.fsub, F.fmul, F.padd, F.pneg, F.pbase, F.pscale, F.pall, F.ffrom, F.tH, inU_1, Bool.and_self, Bool.and_true, Bool.true_and, decide_true, If_t, If_f, inUs, List.all_cons, List.all_nil, fc, len3]
 rw [← ho, hz]
 rw [show (zO O).chk p (AV m) t r s = chkO O p (AV m) t r s by kernel_rfl]
 simp only [chkO]
 cases iBeq p 1 <;> cases O.pright p <;> cases O.pright t <;> cases O.pright r <;> cases O.fright s <;> rfl
theorem wpc_checks (O : OO) (Z : OZ) (p t r s : Int) (m : Nat → Int) (out : Value) (F : FO O) (hz : Z = zO O) (h0 : inU p 18446744073709551616 = true) (h1 : inU t 18446744073709551616 = true) (h2 : inU r 18446744073709551616 = true) (h3 : inU s 18446744073709551616 = true) (h4 : O.isH (AV m) = true) (ho : .bool (Z.chk p (AV m) t r s) = out) : wpcI Try.prog (spZ2 O Z) Try.f96.ntmps [] (bodyOf Try.f96) 0 0 (argEnv [.int .u64 p, .agg (AV m), .int .u64 t, .agg ⟨[.int .u64 r, .int .u64 s]⟩] 0) [] (retK Try.prog Try.f96.results.toList out) :=
 Eq.mpr (by kernel_rfl) (vc_checks O Z p t r s m out F hz h0 h1 h2 h3 h4 ho)
theorem ok_checks (I : Sx.Interp) (O : OO) (hO : O = oo) (Z : OZ) (hZ : Z = zO O) : Sx.SpecOK I Try.prog 96 (Sx.vspec (g_checks O Z)) := by
 refine spec_walk (n := 4) (spZ2_ok I O hO Z hZ) (by kernel_rfl) [] Try.func96 (by kernel_rfl) (by kernel_rfl) rfl Try.ntmps96 (by decide) ?_ ?_
 ·intro l p v hg; unfold g_checks at hg; split at hg <;> first | rfl | cases hg
 ·intro l v hg
  unfold g_checks at hg
  split at hg
  ·rename_i p m t r s
   simp only [Option.some.injEq, Prod.mk.injEq, Bool.and_eq_true] at hg
   obtain ⟨⟨⟨⟨⟨c0, c1⟩, c2⟩, c3⟩, c4⟩, rfl⟩ := hg
   obtain ⟨m, rfl⟩ := isH_AV (by subst hO; exact c4 : isHa m = true)
   exact wpc_checks O Z p t r s m _ (fo_oo O hO) hZ c0 c1 c2 c3 c4 rfl
  ·cases hg
def g_holds (O : OO) (Z : OZ) (l : List Value) : Option (Bool × Value) := match l with
 | [.int .u64 p, .agg m, .int .u64 t, .agg ⟨[.int .u64 r, .int .u64 s]⟩] => some ((inU p 18446744073709551616) && (inU t 18446744073709551616) && (inU r 18446744073709551616) && (inU s 18446744073709551616) && (O.isH m), .bool (Z.chk p m t r s))
 | _ => none
def g_adapt (O : OO) (Z : OZ) (l : List Value) : Option (Bool × Value) := match l with
 | [.agg ⟨[.int .u64 r, .int .u64 s]⟩, .int .u64 t] => some ((inU r 18446744073709551616) && (inU s 18446744073709551616) && (inU t 18446744073709551616), .agg #[.int .u64 (bif O.fright s && O.fright t then r else 0), .int .u64 (bif O.fright s && O.fright t then O.fadd s t else 0)])
 | _ => none
def g_radapt (O : OO) (Z : OZ) (l : List Value) : Option (Bool × Value) := match l with
 | [.agg ⟨[.int .u64 r, .int .u64 s]⟩, .int .u64 t] => some ((inU r 18446744073709551616) && (inU s 18446744073709551616) && (inU t 18446744073709551616), .agg #[.int .u64 (bif O.fright s && O.fright t then r else 0), .int .u64 (bif O.fright s && O.fright t then O.fadd s t else 0)])
 | _ => none
def g_extract (O : OO) (Z : OZ) (l : List Value) : Option (Bool × Value) := match l with
 | [.agg ⟨[.int .u64 a, .int .u64 s]⟩, .agg ⟨[.int .u64 b, .int .u64 t]⟩] => some ((inU a 18446744073709551616) && (inU s 18446744073709551616) && (inU b 18446744073709551616) && (inU t 18446744073709551616), .int .u64 (bif O.fright s && O.fright t then O.fsub t s else 0))
 | _ => none
def g_rextract (O : OO) (Z : OZ) (l : List Value) : Option (Bool × Value) := match l with
 | [.agg ⟨[.int .u64 a, .int .u64 s]⟩, .agg ⟨[.int .u64 b, .int .u64 t]⟩] => some ((inU a 18446744073709551616) && (inU s 18446744073709551616) && (inU b 18446744073709551616) && (inU t 18446744073709551616), .int .u64 (bif O.fright s && O.fright t then O.fsub t s else 0))
 | _ => none
def spZ3 (O : OO) (Z : OZ) (f : FuncId) : Option Sx.Spec := match f with
 | 69 => some (Sx.vspec (g_answer O Z))
 | 96 => some (Sx.vspec (g_checks O Z))
 | f => spZ2 O Z f
theorem spZ3_ok (I : Sx.Interp) (O : OO) (hO : O = oo) (Z : OZ) (hZ : Z = zO O) : ∀ f s, spZ3 O Z f = some s → Sx.SpecOK I Try.prog f s := by
 intro f s h
 unfold spZ3 at h
 split at h
 · cases h; exact ok_answer I O hO Z hZ
 · cases h; exact ok_checks I O hO Z hZ
 ·exact spZ2_ok I O hO Z hZ _ s h
def g_sign (O : OO) (Z : OZ) (l : List Value) : Option (Bool × Value) := match l with
 | [.int .u64 k, .agg m] => some ((inU k 18446744073709551616) && (O.isH m), .agg #[.int .u64 (bif Z.key k then Z.aR (Z.non k m) 1 else 0), .int .u64 (bif Z.key k then Z.aS k (Z.non k m) m 1 else 0)])
 | _ => none
set_option maxHeartbeats 4000000 in
theorem vc_sign (O : OO) (Z : OZ) (k : Int) (m : Nat → Int) (out : Value) (F : FO O) (hz : Z = zO O) (h0 : inU k 18446744073709551616 = true) (h1 : O.isH (AV m) = true) (ho : .agg #[.int .u64 (bif Z.key k then Z.aR (Z.non k (AV m)) 1 else 0), .int .u64 (bif Z.key k then Z.aS k (Z.non k (AV m)) (AV m) 1 else 0)] = out) :
 If (inU k 18446744073709551616) (If (!Z.key k) (Value.agg (Array.mk [Value.int .u64 0, Value.int .u64 0]) = out) (If (inU k 18446744073709551616) (If ((tagN 5 [O.be8 k, [m 0, m 1, m
  2, m 3, m 4, m 5, m 6, m 7, m 8, m 9, m 10, m 11, m 12, m 13, m 14, m 15, m 16, m 17, m 18, m 19, m 20, m 21, m 22, m 23, m 24, m 25, m 26, m 27, m 28, m 29, m 30, m 31]]).ble
  1099511627776) (If (decide (O.isH (Array.mk (List.map (Value.int .u8) (tabI (O.tag (ByteArray.mk (Array.mk [110, 111, 110, 99, 101])) [O.be8 k, [m 0, m 1, m 2, m 3, m 4, m 5, m 6, m
  7, m 8, m 9, m 10, m 11, m 12, m 13, m 14, m 15, m 16, m 17, m 18, m 19, m 20, m 21, m 22, m 23, m 24, m 25, m 26, m 27, m 28, m 29, m 30, m 31]]) 32))) = true)) (If (inU k
  18446744073709551616 && inU (O.ffrom (Array.mk (List.map (Value.int .u8) (tabI (O.tag (ByteArray.mk (Array.mk [110, 111, 110, 99, 101])) [O.be8 k, [m 0, m 1, m 2, m 3, m 4, m 5, m
  6, m 7, m 8, m 9, m 10, m 11, m 12, m 13, m 14, m 15, m 16, m 17, m 18, m 19, m 20, m 21, m 22, m 23, m 24, m 25, m 26, m 27, m 28, m 29, m 30, m 31]]) 32)))) 18446744073709551616
  && inU 1 18446744073709551616 && O.isH (Array.mk (List.map (Value.int .u8) (tabI m 32)))) (Value.agg (Array.mk [Value.int .u64 (Z.aR (O.ffrom (Array.mk (List.map (Value.int .u8)
  (tabI (O.tag (ByteArray.mk (Array.mk [110, 111, 110, 99, 101])) [O.be8 k, [m 0, m 1, m 2, m 3, m 4, m 5, m 6, m 7, m 8, m 9, m 10, m 11, m 12, m 13, m 14, m 15, m 16, m 17, m 18, m
  19, m 20, m 21, m 22, m 23, m 24, m 25, m 26, m 27, m 28, m 29, m 30, m 31]]) 32)))) 1), Value.int .u64 (Z.aS k (O.ffrom (Array.mk (List.map (Value.int .u8) (tabI (O.tag
  (ByteArray.mk (Array.mk [110, 111, 110, 99, 101])) [O.be8 k, [m 0, m 1, m 2, m 3, m 4, m 5, m 6, m 7, m 8, m 9, m 10, m 11, m 12, m 13, m 14, m 15, m 16, m 17, m 18, m 19, m 20, m
  21, m 22, m 23, m 24, m 25, m 26, m 27, m 28, m 29, m 30, m 31]]) 32)))) (Array.mk (List.map (Value.int .u8) (tabI m 32))) 1)]) = out) False) False) False) False)) False := by
 have hAm : O.isH (Array.mk (List.map (Value.int IntKind.u8) (tabI m 32))) = true := h1
 cases hk : Z.key k with
 | false => rw [hk] at ho; exact Sx.if_true h0 ho
 | true =>
  rw [hk] at ho
  refine Sx.if_true h0 (Sx.if_false rfl ?_)
  try refine Sx.if_true h0 ?_
  refine Sx.if_true (tag2 (by simp only [F.b8, List.length_cons, List.length_nil]; omega)) (Sx.if_true (decide_eq_true (F.tH _ _)) (Sx.if_true (by simp only [h0, hAm, F.ffrom, inU_1, Bool.and_self]) ?_))
  rw [← ho, hz]
  change _ = _
  kernel_rfl
theorem wpc_sign (O : OO) (Z : OZ) (k : Int) (m : Nat → Int) (out : Value) (F : FO O) (hz : Z = zO O) (h0 : inU k 18446744073709551616 = true) (h1 : O.isH (AV m) = true) (ho : .agg #[.int .u64 (bif Z.key k then Z.aR (Z.non k (AV m)) 1 else 0), .int .u64 (bif Z.key k then Z.aS k (Z.non k (AV m)) (AV m) 1 else 0)] = out) : wpcI Try.prog (spZ3 O Z) Try.f43.ntmps [] (bodyOf Try.f43) 0 0 (argEnv [.int .u64 k, .agg (AV m)] 0) [] (retK Try.prog Try.f43.results.toList out) :=
 Eq.mpr (by kernel_rfl) (vc_sign O Z k m out F hz h0 h1 ho)
theorem ok_sign (I : Sx.Interp) (O : OO) (hO : O = oo) (Z : OZ) (hZ : Z = zO O) : Sx.SpecOK I Try.prog 43 (Sx.vspec (g_sign O Z)) := by
 refine spec_walk (n := 2) (spZ3_ok I O hO Z hZ) (by kernel_rfl) [] Try.func43 (by kernel_rfl) (by kernel_rfl) rfl Try.ntmps43 (by decide) ?_ ?_
 ·intro l p v hg; unfold g_sign at hg; split at hg <;> first | rfl | cases hg
 ·intro l v hg
  unfold g_sign at hg
  split at hg
  ·rename_i k m
   simp only [Option.some.injEq, Prod.mk.injEq, Bool.and_eq_true] at hg
   obtain ⟨⟨c0, c1⟩, rfl⟩ := hg
   obtain ⟨m, rfl⟩ := isH_AV (by subst hO; exact c1 : isHa m = true)
   exact wpc_sign O Z k m _ (fo_oo O hO) hZ c0 c1 rfl
  ·cases hg
def g_rsign (O : OO) (Z : OZ) (l : List Value) : Option (Bool × Value) := match l with
 | [.int .u64 k, .agg m] => some ((inU k 18446744073709551616) && (O.isH m), .agg #[.int .u64 (bif Z.key k then Z.aR (Z.non k m) 1 else 0), .int .u64 (bif Z.key k then Z.aS k (Z.non k m) m 1 else 0)])
 | _ => none
def g_pre (O : OO) (Z : OZ) (l : List Value) : Option (Bool × Value) := match l with
 | [.int .u64 k, .agg m, .int .u64 t] => some ((inU k 18446744073709551616) && (inU t 18446744073709551616) && (O.isH m), .agg #[.int .u64 (bif Z.key k && O.pright t then Z.aR (Z.prn k m t) t else 0), .int .u64 (bif Z.key k && O.pright t then Z.aS k (Z.prn k m t) m t else 0)])
 | _ => none
def g_rpre (O : OO) (Z : OZ) (l : List Value) : Option (Bool × Value) := match l with
 | [.int .u64 k, .agg m, .int .u64 t] => some ((inU k 18446744073709551616) && (inU t 18446744073709551616) && (O.isH m), .agg #[.int .u64 (bif Z.key k && O.pright t then Z.aR (Z.prn k m t) t else 0), .int .u64 (bif Z.key k && O.pright t then Z.aS k (Z.prn k m t) m t else 0)])
 | _ => none
def g_verify (O : OO) (Z : OZ) (l : List Value) : Option (Bool × Value) := match l with
 | [.int .u64 p, .agg m, .agg ⟨[.int .u64 r, .int .u64 s]⟩] => some ((inU p 18446744073709551616) && (inU r 18446744073709551616) && (inU s 18446744073709551616) && (O.isH m), .bool (Z.chk p m 1 r s))
 | _ => none
set_option maxHeartbeats 4000000 in
theorem vc_verify (O : OO) (Z : OZ) (p r s : Int) (m : Nat → Int) (out : Value) (F : FO O) (hz : Z = zO O) (h0 : inU p 18446744073709551616 = true) (h1 : inU r 18446744073709551616 = true) (h2 : inU s 18446744073709551616 = true) (h3 : O.isH (AV m) = true) (ho : .bool (Z.chk p (AV m) 1 r s) = out) :
 If (inU p 18446744073709551616 && inU 1 18446744073709551616 && inU r 18446744073709551616 && inU s 18446744073709551616 && O.isH (Array.mk (List.map (Value.int .u8) (tabI m 32))))
  (Value.bool (Z.chk p (Array.mk (List.map (Value.int .u8) (tabI m 32))) 1 r s) = out) False := by
 have hAm : O.isH (Array.mk (List.map (Value.int IntKind.u8) (tabI m 32))) = true := h3
 have fc : ∀ r p a, inU (Z.chal r p a) 18446744073709551616 = true := by subst hz; exact fun _ _ _ => F.ffrom _
 have fn : ∀ k a, inU (Z.non k a) 18446744073709551616 = true := by subst hz; exact fun _ _ => F.ffrom _
 have fp : ∀ k a t, inU (Z.prn k a t) 18446744073709551616 = true := by subst hz; exact fun _ _ _ => F.ffrom _
 have len3 : ∀ a b c : Int, [a, b, c].length.ble 9223372036854775807 = true := fun _ _ _ => rfl
 simp only [hAm, h0, h1, h2, h3, F.fadd, F.fsub, F.fmul, F.padd, F.pneg, F.pbase, F.pscale, F.pall, F.ffrom, F.tH, inU_1, Bool.and_self, Bool.and_true, Bool.true_and, decide_true, If_t, If_f, inUs, List.all_cons, List.all_nil, fc, len3]
 exact ho
theorem wpc_verify (O : OO) (Z : OZ) (p r s : Int) (m : Nat → Int) (out : Value) (F : FO O) (hz : Z = zO O) (h0 : inU p 18446744073709551616 = true) (h1 : inU r 18446744073709551616 = true) (h2 : inU s 18446744073709551616 = true) (h3 : O.isH (AV m) = true) (ho : .bool (Z.chk p (AV m) 1 r s) = out) : wpcI Try.prog (spZ3 O Z) Try.f74.ntmps [] (bodyOf Try.f74) 0 0 (argEnv [.int .u64 p, .agg (AV m), .agg ⟨[.int .u64 r, .int .u64 s]⟩] 0) [] (retK Try.prog Try.f74.results.toList out) :=
 Eq.mpr (by kernel_rfl) (vc_verify O Z p r s m out F hz h0 h1 h2 h3 ho)
theorem ok_verify (I : Sx.Interp) (O : OO) (hO : O = oo) (Z : OZ) (hZ : Z = zO O) : Sx.SpecOK I Try.prog 74 (Sx.vspec (g_verify O Z)) := by
 refine spec_walk (n := 3) (spZ3_ok I O hO Z hZ) (by kernel_rfl) [] Try.func74 (by kernel_rfl) (by kernel_rfl) rfl Try.ntmps74 (by decide) ?_ ?_
 ·intro l p v hg; unfold g_verify at hg; split at hg <;> first | rfl | cases hg
 ·intro l v hg
  unfold g_verify at hg
  split at hg
  ·rename_i p m r s
   simp only [Option.some.injEq, Prod.mk.injEq, Bool.and_eq_true] at hg
   obtain ⟨⟨⟨⟨c0, c1⟩, c2⟩, c3⟩, rfl⟩ := hg
   obtain ⟨m, rfl⟩ := isH_AV (by subst hO; exact c3 : isHa m = true)
   exact wpc_verify O Z p r s m _ (fo_oo O hO) hZ c0 c1 c2 c3 rfl
  ·cases hg
def g_rverify (O : OO) (Z : OZ) (l : List Value) : Option (Bool × Value) := match l with
 | [.int .u64 p, .agg m, .agg ⟨[.int .u64 r, .int .u64 s]⟩] => some ((inU p 18446744073709551616) && (inU r 18446744073709551616) && (inU s 18446744073709551616) && (O.isH m), .bool (Z.chk p m 1 r s))
 | _ => none
def g_rchecks (O : OO) (Z : OZ) (l : List Value) : Option (Bool × Value) := match l with
 | [.int .u64 p, .agg m, .int .u64 t, .agg ⟨[.int .u64 r, .int .u64 s]⟩] => some ((inU p 18446744073709551616) && (inU t 18446744073709551616) && (inU r 18446744073709551616) && (inU s 18446744073709551616) && (O.isH m), .bool (Z.chk p m t r s))
 | _ => none
def spZ4 (O : OO) (Z : OZ) (f : FuncId) : Option Sx.Spec := match f with
 | 43 => some (Sx.vspec (g_sign O Z))
 | 74 => some (Sx.vspec (g_verify O Z))
 | f => spZ3 O Z f
theorem spZ4_ok (I : Sx.Interp) (O : OO) (hO : O = oo) (Z : OZ) (hZ : Z = zO O) : ∀ f s, spZ4 O Z f = some s → Sx.SpecOK I Try.prog f s := by
 intro f s h
 unfold spZ4 at h
 split at h
 · cases h; exact ok_sign I O hO Z hZ
 · cases h; exact ok_verify I O hO Z hZ
 ·exact spZ3_ok I O hO Z hZ _ s h
end Go.Proofs.Ytcdmmfelagbpdaa
