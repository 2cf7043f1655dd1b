/- Signatures: the functions of the program and of the document, by the symbolic machine (printed by gensg2.py; VCs by VcTool). -/
import Derived.Test.YtaohpdhhbnempaaSg1
namespace Go.Proofs.Ytaohpdhhbnempaa
open Go.RowKit Go.Lib Ckp Cfd Cpd Sx
set_option linter.unusedVariables false
set_option linter.unusedSimpArgs false
set_option maxRecDepth 1000000
def AV (h : Nat → Int) : Array Value := ⟨(tabI h 32).map (Value.int .u8)⟩
def intV : Value → Int
 | .int _ x => x
 | _ => 0
def intsA (a : Array Value) : List Int := a.toList.map intV
structure OZ where
 chal : Int → Int → Array Value → Int
 key : Int → Bool
 aR : Int → Int → Int
 aS : Int → Int → Array Value → Int → Int
 non : Int → Array Value → Int
 prn : Int → Array Value → Int → Int
 chk : Int → Array Value → Int → Int → Int → Bool
 skey : Array Value → Int
def sigB : ByteArray := ByteArray.mk #[115, 105, 103]
def keyB : ByteArray := ByteArray.mk #[107, 101, 121]
def nonB : ByteArray := ByteArray.mk #[110, 111, 110, 99, 101]
def preB : ByteArray := ByteArray.mk #[112, 114, 101]
def chalO (O : OO) (r p : Int) (a : Array Value) : Int := O.ffrom (AV (O.tag sigB [O.be8 r, O.be8 p, intsA a]))
def aRO (O : OO) (n t : Int) : Int := O.padd (O.pbase n) t
def aSO (O : OO) (k n : Int) (a : Array Value) (t : Int) : Int := O.fadd n (O.fmul (chalO O (aRO O n t) (O.pbase k) a) k)
def chkO (O : OO) (p : Int) (a : Array Value) (t R S : Int) : Bool :=
 bif iBeq p 1 || !(O.pright p) || !(O.pright t) || !(O.pright R) || !(O.fright S) then false else iBeq (O.pbase S) (O.pall [R, O.pscale p (chalO O R p a), O.pneg t])
def zO (O : OO) : OZ := ⟨chalO O, fun k => O.fright k && iBne k 0, aRO O, aSO O, fun k a => O.ffrom (AV (O.tag nonB [O.be8 k, intsA a])), fun k a t => O.ffrom (AV (O.tag preB [O.be8 k, intsA a, O.be8 t])), chkO O, fun a => O.ffrom (AV (O.tag keyB [intsA a]))⟩
structure FO (O : OO) : Prop where
 b8 : ∀ n, (O.be8 n).length = 8
 tH : ∀ s ps, O.isH (AV (O.tag s ps)) = true
 fadd : ∀ a b, inU (O.fadd a b) 18446744073709551616 = true
 fsub : ∀ a b, inU (O.fsub a b) 18446744073709551616 = true
 fmul : ∀ a b, inU (O.fmul a b) 18446744073709551616 = true
 padd : ∀ a b, inU (O.padd a b) 18446744073709551616 = true
 pneg : ∀ a, inU (O.pneg a) 18446744073709551616 = true
 pbase : ∀ a, inU (O.pbase a) 18446744073709551616 = true
 pscale : ∀ a b, inU (O.pscale a b) 18446744073709551616 = true
 pall : ∀ a, inU (O.pall a) 18446744073709551616 = true
 ffrom : ∀ a, inU (O.ffrom a) 18446744073709551616 = true
 comm : ∀ a b, O.fmul a b = O.fmul b a
 alg : ∀ r p t s e, O.pright t = true → iBeq (O.padd (O.pbase s) t) (O.padd r (O.pscale p e)) = iBeq (O.pbase s) (O.pall [r, O.pscale p e, O.pneg t])
 sH : ∀ l, O.isH (AV (O.sum l)) = true
theorem inU_cast {n : Nat} (h : n < 18446744073709551616) : inU (n : Int) 18446744073709551616 = true := inU_of h
theorem pallI_nat (l : List Int) : pallI l = ((pall (l.map Int.toNat) : Nat) : Int) := by
 unfold pallI pall
 have : ∀ (l : List Int) (o : Nat), l.foldl (fun o a => ((pt o.toNat (ptaken a.toNat) : Nat) : Int)) (o : Int) = (((l.map Int.toNat).foldl (fun o a => pt o (ptaken a)) o : Nat) : Int) := by
  intro l
  induction l with
  | nil => intro o; rfl
  | cons a l ih => intro o; simp only [List.foldl_cons, List.map_cons, ztN]; exact ih _
 exact this l 1

theorem isH_AV {a : Array Value} (h : isHa a = true) : ∃ m : Nat → Int, a = AV m := by
 obtain ⟨l, h1, h2, h3, h4⟩ := isHa_spec h
 refine ⟨fun i => (l.map fun n : Nat => (n : Int)).getD i 0, ?_⟩
 rw [h3, AV, tab_self (by simpa using h1)]
 apply Array.ext'; simp
theorem sum_byte (l : List Int) : ∀ x ∈ sumI l, 0 ≤ x ∧ x < 256 := by
 have key : ∀ (h : List Int) (n : Nat), ∀ x ∈ tabI (fun i => IntKind.u8.wrap ((h.getD (i / 4) 0).fdiv (2 ^ (24 - 8 * (i % 4))))) n, 0 ≤ x ∧ x < 256 := by
  intro h n
  induction n with
  | zero => intro x hx; simp [tabI] at hx
  | succ n ih =>
   intro x hx
   simp only [tabI, List.mem_append, List.mem_singleton] at hx
   rcases hx with hx | rfl
   ·exact ih x hx
   ·rw [IntKind.wrap_u8]; omega
 intro x hx
 exact key _ 32 x hx
theorem isHa_AV {l : List Int} (h1 : l.length = 32) (h2 : ∀ x ∈ l, 0 ≤ x ∧ x < 256) : isHa ⟨l.map (Value.int .u8)⟩ = true := by
 unfold isHa
 rw [zaT]
 refine ⟨by rw [Nat.beq_eq]; simpa using h1, List.all_eq_true.2 fun v hv => ?_⟩
 obtain ⟨x, hx, rfl⟩ := List.mem_map.1 hv
 have := h2 x hx
 simp [byteV, this.1, this.2]
theorem pall3 (a b c : Nat) : pall [a, b, c] = padd (padd a b) c := by
 have := pall_app [a, b] [c]
 rw [pall_two, pall_one, add_taken] at this
 exact this
theorem group_eq {a r t : Nat} (ha : pright a = true) (ht : pright t = true) (hr : pright r = true) : (padd a t = r) ↔ (a = padd r (pneg t)) := by
 constructor
 ·intro h
  have := add_sub a t
  rw [h, taken_of ha] at this
  exact this.symm
 ·intro h
  rw [h, add_assoc, add_comm t (pneg t), add_neg, add_one, taken_of hr]
theorem fo_oo (O : OO) (hO : O = oo) : FO O := by
 subst hO
 refine ⟨os_b8, fun s ps => ?_, fun a b => inU_cast ?_, fun a b => inU_cast ?_, fun a b => inU_cast ?_, fun a b => inU_cast ?_, fun a => inU_cast ?_, fun a => inU_cast ?_, fun a b => inU_cast ?_, fun a => ?_, fun a => inU_cast ?_, fun a b => ?_, fun r p t s e ht => ?_, fun l => ?_⟩
 ·have e : oo.isH (AV (oo.tag s ps)) = isHa (AV (os.tag s ps)) := by kernel_rfl
  rw [e, AV, os_tag, sum_tab]
  exact isHa_AV (out_len _) (sum_byte _)
 ·have := fadd_lt a.toNat b.toNat; omega
 ·have := fsub_lt a.toNat b.toNat; omega
 ·have := fmul_lt a.toNat b.toNat; omega
 ·have := padd_lt a.toNat b.toNat; omega
 ·have := pneg_lt a.toNat; omega
 ·have := pbase_lt a.toNat; omega
 ·have := pscale_lt a.toNat b.toNat; omega
 ·have e : oo.pall a = pallI a := by kernel_rfl
  rw [e, pallI_nat]
  exact inU_cast (by have := pall_lt (a.map Int.toNat); omega)
 ·have := ffrom_lt (natsA a); omega
 ·have e : ∀ a b, oo.fmul a b = ((fmul a.toNat b.toNat : Nat) : Int) := by intro a b; kernel_rfl
  rw [e, e, r_comm_mul]
 ·have e1 : iBeq (oo.padd (oo.pbase s) t) (oo.padd r (oo.pscale p e)) = iBeq ((padd ((pbase s.toNat : Nat) : Int).toNat t.toNat : Nat) : Int) ((padd r.toNat ((pscale p.toNat e.toNat : Nat) : Int).toNat : Nat) : Int) := by kernel_rfl
  have e2 : iBeq (oo.pbase s) (oo.pall [r, oo.pscale p e, oo.pneg t]) = iBeq ((pbase s.toNat : Nat) : Int) (pallI [r, ((pscale p.toNat e.toNat : Nat) : Int), ((pneg t.toNat : Nat) : Int)]) := by kernel_rfl
  rw [e1, e2]
  rw [pallI_nat]
  simp only [List.map_cons, List.map_nil, ztN, pall3]
  have := group_eq (right_base s.toNat) (show pright t.toNat = true from ht) (right_add r.toNat (pscale p.toNat e.toNat))
  rw [Bool.eq_iff_iff, iBeq_t, iBeq_t, Int.natCast_inj, Int.natCast_inj]
  exact this
 ·have e : oo.isH (AV (oo.sum l)) = isHa (AV (os.sum l)) := by kernel_rfl
  rw [e, AV, os_sum, sum_tab]
  exact isHa_AV (out_len _) (sum_byte _)
def spZ0 (O : OO) (Z : OZ) (f : FuncId) : Option Sx.Spec := match f with
 | 103 => some (Sx.vspec (g_pRight O))
 | 64 => some (gspec [.v, .ros] (g_tagO O))
 | f => none
theorem spZ0_ok (I : Sx.Interp) (O : OO) (hO : O = oo) (Z : OZ) (hZ : Z = zO O) : ∀ f s, spZ0 O Z f = some s → Sx.SpecOK I Try.prog f s := by
 intro f s h
 unfold spZ0 at h
 split at h
 · cases h; exact ok_pRight I O hO
 · cases h; exact ok_hTag I O hO
 ·cases h
def g_Long8 (O : OO) (xs : List Arg) : Option (Bool × List Ret) := match xs with
 | [.v (.int .u64 n)] => some (inU n 18446744073709551616, [.ints 5 .u8 (O.be8 n)])
 | _ => none
def spZ1 (O : OO) (Z : OZ) (f : FuncId) : Option Sx.Spec := match f with
 | f => spZ0 O Z f
theorem spZ1_ok (I : Sx.Interp) (O : OO) (hO : O = oo) (Z : OZ) (hZ : Z = zO O) : ∀ f s, spZ1 O Z f = some s → Sx.SpecOK I Try.prog f s := by
 intro f s h
 unfold spZ1 at h
 exact spZ0_ok I O hO Z hZ _ s h

def g_chal (O : OO) (Z : OZ) (l : List Value) : Option (Bool × Value) := match l with
 | [.int .u64 r, .int .u64 p, .agg m] => some ((inU r 18446744073709551616) && (inU p 18446744073709551616) && (O.isH m), .int .u64 (Z.chal r p m))
 | _ => none
def g_rchal (O : OO) (Z : OZ) (l : List Value) : Option (Bool × Value) := match l with
 | [.int .u64 r, .int .u64 p, .agg m] => some ((inU r 18446744073709551616) && (inU p 18446744073709551616) && (O.isH m), .int .u64 (Z.chal r p m))
 | _ => none
def g_key (O : OO) (Z : OZ) (l : List Value) : Option (Bool × Value) := match l with
 | [.int .u64 k] => some ((inU k 18446744073709551616), .bool (Z.key k))
 | _ => none
def g_rkey (O : OO) (Z : OZ) (l : List Value) : Option (Bool × Value) := match l with
 | [.int .u64 k] => some ((inU k 18446744073709551616), .bool (Z.key k))
 | _ => none
def g_skey (O : OO) (Z : OZ) (l : List Value) : Option (Bool × Value) := match l with
 | [.agg m] => some ((O.isH m), .int .u64 (Z.skey m))
 | _ => none
def g_rskey (O : OO) (Z : OZ) (l : List Value) : Option (Bool × Value) := match l with
 | [.agg m] => some ((O.isH m), .int .u64 (Z.skey m))
 | _ => none
def spZ2 (O : OO) (Z : OZ) (f : FuncId) : Option Sx.Spec := match f with
 | f => spZ1 O Z f
theorem spZ2_ok (I : Sx.Interp) (O : OO) (hO : O = oo) (Z : OZ) (hZ : Z = zO O) : ∀ f s, spZ2 O Z f = some s → Sx.SpecOK I Try.prog f s := by
 intro f s h
 unfold spZ2 at h
 exact spZ1_ok I O hO Z hZ _ s h

def g_answer (O : OO) (Z : OZ) (l : List Value) : Option (Bool × Value) := match l with
 | [.int .u64 k, .int .u64 n, .agg m, .int .u64 t] => some ((inU k 18446744073709551616) && (inU n 18446744073709551616) && (inU t 18446744073709551616) && (O.isH m), .agg #[.int .u64 (Z.aR n t), .int .u64 (Z.aS k n m t)])
 | _ => none
def g_made (O : OO) (Z : OZ) (l : List Value) : Option (Bool × Value) := match l with
 | [.int .u64 k, .int .u64 n, .agg m, .int .u64 t] => some ((inU k 18446744073709551616) && (inU n 18446744073709551616) && (inU t 18446744073709551616) && (O.isH m), .agg #[.int .u64 (Z.aR n t), .int .u64 (Z.aS k n m t)])
 | _ => none
def g_checks (O : OO) (Z : OZ) (l : List Value) : Option (Bool × Value) := match l with
 | [.int .u64 p, .agg m, .int .u64 t, .agg ⟨[.int .u64 r, .int .u64 s]⟩] => some ((inU p 18446744073709551616) && (inU t 18446744073709551616) && (inU r 18446744073709551616) && (inU s 18446744073709551616) && (O.isH m), .bool (Z.chk p m t r s))
 | _ => none
def g_holds (O : OO) (Z : OZ) (l : List Value) : Option (Bool × Value) := match l with
 | [.int .u64 p, .agg m, .int .u64 t, .agg ⟨[.int .u64 r, .int .u64 s]⟩] => some ((inU p 18446744073709551616) && (inU t 18446744073709551616) && (inU r 18446744073709551616) && (inU s 18446744073709551616) && (O.isH m), .bool (Z.chk p m t r s))
 | _ => none
def g_adapt (O : OO) (Z : OZ) (l : List Value) : Option (Bool × Value) := match l with
 | [.agg ⟨[.int .u64 r, .int .u64 s]⟩, .int .u64 t] => some ((inU r 18446744073709551616) && (inU s 18446744073709551616) && (inU t 18446744073709551616), .agg #[.int .u64 (bif O.fright s && O.fright t then r else 0), .int .u64 (bif O.fright s && O.fright t then O.fadd s t else 0)])
 | _ => none
def g_radapt (O : OO) (Z : OZ) (l : List Value) : Option (Bool × Value) := match l with
 | [.agg ⟨[.int .u64 r, .int .u64 s]⟩, .int .u64 t] => some ((inU r 18446744073709551616) && (inU s 18446744073709551616) && (inU t 18446744073709551616), .agg #[.int .u64 (bif O.fright s && O.fright t then r else 0), .int .u64 (bif O.fright s && O.fright t then O.fadd s t else 0)])
 | _ => none
def g_extract (O : OO) (Z : OZ) (l : List Value) : Option (Bool × Value) := match l with
 | [.agg ⟨[.int .u64 a, .int .u64 s]⟩, .agg ⟨[.int .u64 b, .int .u64 t]⟩] => some ((inU a 18446744073709551616) && (inU s 18446744073709551616) && (inU b 18446744073709551616) && (inU t 18446744073709551616), .int .u64 (bif O.fright s && O.fright t then O.fsub t s else 0))
 | _ => none
def g_rextract (O : OO) (Z : OZ) (l : List Value) : Option (Bool × Value) := match l with
 | [.agg ⟨[.int .u64 a, .int .u64 s]⟩, .agg ⟨[.int .u64 b, .int .u64 t]⟩] => some ((inU a 18446744073709551616) && (inU s 18446744073709551616) && (inU b 18446744073709551616) && (inU t 18446744073709551616), .int .u64 (bif O.fright s && O.fright t then O.fsub t s else 0))
 | _ => none
def spZ3 (O : OO) (Z : OZ) (f : FuncId) : Option Sx.Spec := match f with
 | f => spZ2 O Z f
theorem spZ3_ok (I : Sx.Interp) (O : OO) (hO : O = oo) (Z : OZ) (hZ : Z = zO O) : ∀ f s, spZ3 O Z f = some s → Sx.SpecOK I Try.prog f s := by
 intro f s h
 unfold spZ3 at h
 exact spZ2_ok I O hO Z hZ _ s h

def g_sign (O : OO) (Z : OZ) (l : List Value) : Option (Bool × Value) := match l with
 | [.int .u64 k, .agg m] => some ((inU k 18446744073709551616) && (O.isH m), .agg #[.int .u64 (bif Z.key k then Z.aR (Z.non k m) 1 else 0), .int .u64 (bif Z.key k then Z.aS k (Z.non k m) m 1 else 0)])
 | _ => none
def g_rsign (O : OO) (Z : OZ) (l : List Value) : Option (Bool × Value) := match l with
 | [.int .u64 k, .agg m] => some ((inU k 18446744073709551616) && (O.isH m), .agg #[.int .u64 (bif Z.key k then Z.aR (Z.non k m) 1 else 0), .int .u64 (bif Z.key k then Z.aS k (Z.non k m) m 1 else 0)])
 | _ => none
def g_pre (O : OO) (Z : OZ) (l : List Value) : Option (Bool × Value) := match l with
 | [.int .u64 k, .agg m, .int .u64 t] => some ((inU k 18446744073709551616) && (inU t 18446744073709551616) && (O.isH m), .agg #[.int .u64 (bif Z.key k && O.pright t then Z.aR (Z.prn k m t) t else 0), .int .u64 (bif Z.key k && O.pright t then Z.aS k (Z.prn k m t) m t else 0)])
 | _ => none
def g_rpre (O : OO) (Z : OZ) (l : List Value) : Option (Bool × Value) := match l with
 | [.int .u64 k, .agg m, .int .u64 t] => some ((inU k 18446744073709551616) && (inU t 18446744073709551616) && (O.isH m), .agg #[.int .u64 (bif Z.key k && O.pright t then Z.aR (Z.prn k m t) t else 0), .int .u64 (bif Z.key k && O.pright t then Z.aS k (Z.prn k m t) m t else 0)])
 | _ => none
def g_verify (O : OO) (Z : OZ) (l : List Value) : Option (Bool × Value) := match l with
 | [.int .u64 p, .agg m, .agg ⟨[.int .u64 r, .int .u64 s]⟩] => some ((inU p 18446744073709551616) && (inU r 18446744073709551616) && (inU s 18446744073709551616) && (O.isH m), .bool (Z.chk p m 1 r s))
 | _ => none
def g_rverify (O : OO) (Z : OZ) (l : List Value) : Option (Bool × Value) := match l with
 | [.int .u64 p, .agg m, .agg ⟨[.int .u64 r, .int .u64 s]⟩] => some ((inU p 18446744073709551616) && (inU r 18446744073709551616) && (inU s 18446744073709551616) && (O.isH m), .bool (Z.chk p m 1 r s))
 | _ => none
def g_rchecks (O : OO) (Z : OZ) (l : List Value) : Option (Bool × Value) := match l with
 | [.int .u64 p, .agg m, .int .u64 t, .agg ⟨[.int .u64 r, .int .u64 s]⟩] => some ((inU p 18446744073709551616) && (inU t 18446744073709551616) && (inU r 18446744073709551616) && (inU s 18446744073709551616) && (O.isH m), .bool (Z.chk p m t r s))
 | _ => none
def spZ4 (O : OO) (Z : OZ) (f : FuncId) : Option Sx.Spec := match f with
 | f => spZ3 O Z f
theorem spZ4_ok (I : Sx.Interp) (O : OO) (hO : O = oo) (Z : OZ) (hZ : Z = zO O) : ∀ f s, spZ4 O Z f = some s → Sx.SpecOK I Try.prog f s := by
 intro f s h
 unfold spZ4 at h
 exact spZ3_ok I O hO Z hZ _ s h
end Go.Proofs.Ytaohpdhhbnempaa
