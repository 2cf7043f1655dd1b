/- Signatures: the functions of the program and of the document, by the symbolic machine (printed by gensg2.py; VCs by VcTool). -/
import Derived.Test.YtgekiddgdjeaiaaGreatSg1
namespace Go.Proofs.YtgekiddgdjeaiaaGreat
open Go.RowKit Go.Lib Ckp Cfd Cpd Sx
set_option linter.unusedVariables false
set_option linter.unusedSimpArgs false
set_option maxRecDepth 1000000
def AV (h : Nat → Int) : Array Value := ⟨(jo h 32).map (Value.int .u8)⟩
def bg2 : Value → Int
 | .int _ x => x
 | _ => 0
def ax8 (a : Array Value) : List Int := a.toList.map bg2
structure OZ where
 chal : Int → Int → Array Value → Int
 key : Int → Bool
 aR : Int → Int → Int
 aS : Int → Int → Array Value → Int → Int
 non : Int → Array Value → Int
 prn : Int → Array Value → Int → Int
 chk : Int → Array Value → Int → Int → Int → Bool
 skey : Array Value → Int
def bqv : ByteArray := ByteArray.mk #[115, 105, 103]
def bqt : ByteArray := ByteArray.mk #[107, 101, 121]
def bqj : ByteArray := ByteArray.mk #[110, 111, 110, 99, 101]
def preB : ByteArray := ByteArray.mk #[112, 114, 101]
def a9n (O : OO) (r p : Int) (a : Array Value) : Int := O.lm (AV (O.tag bqv [O.be8 r, O.be8 p, ax8 a]))
def aRO (O : OO) (n t : Int) : Int := O.uo (O.jl n) t
def aSO (O : OO) (k n : Int) (a : Array Value) (t : Int) : Int := O.ab8 n (O.uk (a9n O (aRO O n t) (O.jl k) a) k)
def bqm (O : OO) (p : Int) (a : Array Value) (t R S : Int) : Bool :=
 bif ax p 1 || !(O.iw p) || !(O.iw t) || !(O.iw R) || !(O.y9 S) then false else ax (O.jl S) (O.abj [R, O.mi p (a9n O R p a), O.ahq t])
def zO (O : OO) : OZ := ⟨a9n O, fun k => O.y9 k && qc k 0, aRO O, aSO O, fun k a => O.lm (AV (O.tag bqj [O.be8 k, ax8 a])), fun k a t => O.lm (AV (O.tag preB [O.be8 k, ax8 a, O.be8 t])), bqm O, fun a => O.lm (AV (O.tag bqt [ax8 a]))⟩
structure FO (O : OO) : Prop where
 b8 : ∀ n, (O.be8 n).length = 8
 tH : ∀ s ps, O.isH (AV (O.tag s ps)) = true
 ab8 : ∀ a b, inU (O.ab8 a b) 18446744073709551616 = true
 ah4 : ∀ a b, inU (O.ah4 a b) 18446744073709551616 = true
 uk : ∀ a b, inU (O.uk a b) 18446744073709551616 = true
 uo : ∀ a b, inU (O.uo a b) 18446744073709551616 = true
 ahq : ∀ a, inU (O.ahq a) 18446744073709551616 = true
 jl : ∀ a, inU (O.jl a) 18446744073709551616 = true
 mi : ∀ a b, inU (O.mi a b) 18446744073709551616 = true
 abj : ∀ a, inU (O.abj a) 18446744073709551616 = true
 lm : ∀ a, inU (O.lm a) 18446744073709551616 = true
 comm : ∀ a b, O.uk a b = O.uk b a
 alg : ∀ r p t s e, O.iw t = true → ax (O.uo (O.jl s) t) (O.uo r (O.mi p e)) = ax (O.jl s) (O.abj [r, O.mi p e, O.ahq t])
 sH : ∀ l, O.isH (AV (O.sum l)) = true
theorem abd {n : Nat} (h : n < 18446744073709551616) : inU (n : Int) 18446744073709551616 = true := ako h
theorem ar8 (l : List Int) : awy l = ((abj (l.map Int.toNat) : Nat) : Int) := by
 unfold awy abj
 have : ∀ (l : List Int) (o : Nat), l.foldl (fun o a => ((pt o.toNat (mr a.toNat) : Nat) : Int)) (o : Int) = (((l.map Int.toNat).foldl (fun o a => pt o (mr a)) o : Nat) : Int) := by
  intro l
  induction l with
  | nil => intro o; rfl
  | cons a l ih => intro o; simp only [List.foldl_cons, List.map_cons, ztN]; exact ih _
 exact this l 1

theorem ay6 {a : Array Value} (h : alm a = true) : ∃ m : Nat → Int, a = AV m := by
 obtain ⟨l, h1, h2, h3, h4⟩ := ar1 h
 refine ⟨fun i => (l.map fun n : Nat => (n : Int)).getD i 0, ?_⟩
 rw [h3, AV, agj (by simpa using h1)]
 apply Array.ext'; simp
theorem axp (l : List Int) : ∀ x ∈ an7 l, 0 ≤ x ∧ x < 256 := by
 have key : ∀ (h : List Int) (n : Nat), ∀ x ∈ jo (fun i => IntKind.u8.wrap ((h.getD (i / 4) 0).fdiv (2 ^ (24 - 8 * (i % 4))))) n, 0 ≤ x ∧ x < 256 := by
  intro h n
  induction n with
  | zero => intro x hx; simp [jo] at hx
  | succ n ih =>
   intro x hx
   simp only [jo, List.mem_append, List.mem_singleton] at hx
   rcases hx with hx | rfl
   ·exact ih x hx
   ·rw [IntKind.wrap_u8]; omega
 intro x hx
 exact key _ 32 x hx
theorem a2d {l : List Int} (h1 : l.length = 32) (h2 : ∀ x ∈ l, 0 ≤ x ∧ x < 256) : alm ⟨l.map (Value.int .u8)⟩ = true := by
 unfold alm
 rw [zaT]
 refine ⟨by rw [Nat.beq_eq]; simpa using h1, List.all_eq_true.2 fun v hv => ?_⟩
 obtain ⟨x, hx, rfl⟩ := List.mem_map.1 hv
 have := h2 x hx
 simp [aw7, this.1, this.2]
theorem bpk (a b c : Nat) : abj [a, b, c] = uo (uo a b) c := by
 have := a9g [a, b] [c]
 rw [a81, ayl, a3r] at this
 exact this
theorem bc6 {a r t : Nat} (ha : iw a = true) (ht : iw t = true) (hr : iw r = true) : (uo a t = r) ↔ (a = uo r (ahq t)) := by
 constructor
 ·intro h
  have := bjm a t
  rw [h, uz ha] at this
  exact this.symm
 ·intro h
  rw [h, add_assoc, add_comm t (ahq t), a2a, al9, uz hr]
theorem dn (O : OO) (hO : O = oo) : FO O := by
 subst hO
 refine ⟨bko, fun s ps => ?_, fun a b => abd ?_, fun a b => abd ?_, fun a b => abd ?_, fun a b => abd ?_, fun a => abd ?_, fun a => abd ?_, fun a b => abd ?_, fun a => ?_, fun a => abd ?_, fun a b => ?_, fun r p t s e ht => ?_, fun l => ?_⟩
 ·have e : oo.isH (AV (oo.tag s ps)) = alm (AV (os.tag s ps)) := by kernel_rfl
  rw [e, AV, bcb, avi]
  exact a2d (as4 _) (axp _)
 ·have := bjl a.toNat b.toNat; omega
 ·have := a3f a.toNat b.toNat; omega
 ·have := auk a.toNat b.toNat; omega
 ·have := bjq a.toNat b.toNat; omega
 ·have := bj4 a.toNat; omega
 ·have := bde a.toNat; omega
 ·have := a4q a.toNat b.toNat; omega
 ·have e : oo.abj a = awy a := by kernel_rfl
  rw [e, ar8]
  exact abd (by have := a3l (a.map Int.toNat); omega)
 ·have := a8h (ak1 a); omega
 ·have e : ∀ a b, oo.uk a b = ((uk a.toNat b.toNat : Nat) : Int) := by intro a b; kernel_rfl
  rw [e, e, ac5]
 ·have e1 : ax (oo.uo (oo.jl s) t) (oo.uo r (oo.mi p e)) = ax ((uo ((jl s.toNat : Nat) : Int).toNat t.toNat : Nat) : Int) ((uo r.toNat ((mi p.toNat e.toNat : Nat) : Int).toNat : Nat) : Int) := by kernel_rfl
  have e2 : ax (oo.jl s) (oo.abj [r, oo.mi p e, oo.ahq t]) = ax ((jl s.toNat : Nat) : Int) (awy [r, ((mi p.toNat e.toNat : Nat) : Int), ((ahq t.toNat : Nat) : Int)]) := by kernel_rfl
  rw [e1, e2]
  rw [ar8]
  simp only [List.map_cons, List.map_nil, ztN, bpk]
  have := bc6 (azq s.toNat) (show iw t.toNat = true from ht) (a7v r.toNat (mi p.toNat e.toNat))
  rw [Bool.eq_iff_iff, ab9, ab9, Int.natCast_inj, Int.natCast_inj]
  exact this
 ·have e : oo.isH (AV (oo.sum l)) = alm (AV (os.sum l)) := by kernel_rfl
  rw [e, AV, bew, avi]
  exact a2d (as4 _) (axp _)
def bj1 (O : OO) (Z : OZ) (f : FuncId) : Option Sx.Spec := match f with
 | 98 => some (bz (ang O))
 | 70 => some (bz (apj O))
 | 31 => some (bz (asw O))
 | 69 => some (bz (anf O))
 | 73 => some (bz (ajx O))
 | 41 => some (bz (an8 O))
 | 76 => some (bz (aj3 O))
 | 113 => some (l7 [.v, .ros] (au8 O))
 | 120 => some (l7 [.v] (at7 O))
 | f => none
theorem a2v (I : Sx.Interp) (O : OO) (hO : O = oo) (Z : OZ) (hZ : Z = zO O) : ∀ f s, bj1 O Z f = some s → ag I Tryz.prog f s := by
 intro f s h
 unfold bj1 at h
 split at h
 · cases h; exact a5f I O hO
 · cases h; exact a8c I O hO
 · cases h; exact bdu I O hO
 · cases h; exact a4p I O hO
 · cases h; exact a0l I O hO
 · cases h; exact a4a I O hO
 · cases h; exact ayz I O hO
 · cases h; exact be1 I O hO
 · cases h; exact a4m I O hO
 ·cases h
def a1n (O : OO) (xs : List Arg) : Option (Bool × List Ret) := match xs with
 | [.v (.int .u64 n)] => some (inU n 18446744073709551616, [.ints 5 .u8 (O.be8 n)])
 | _ => none
def bnw (O : OO) (Z : OZ) (f : FuncId) : Option Sx.Spec := match f with
 | f => bj1 O Z f
theorem bj7 (I : Sx.Interp) (O : OO) (hO : O = oo) (Z : OZ) (hZ : Z = zO O) : ∀ f s, bnw O Z f = some s → ag I Tryz.prog f s := by
 intro f s h
 unfold bnw at h
 exact a2v I O hO Z hZ _ s h

def bly (O : OO) (Z : OZ) (l : List Value) : Option (Bool × Value) := match l with
 | [.int .u64 r, .int .u64 p, .agg m] => some ((inU r 18446744073709551616) && (inU p 18446744073709551616) && (O.isH m), .int .u64 (Z.chal r p m))
 | _ => none
def bhq (O : OO) (Z : OZ) (l : List Value) : Option (Bool × Value) := match l with
 | [.int .u64 r, .int .u64 p, .agg m] => some ((inU r 18446744073709551616) && (inU p 18446744073709551616) && (O.isH m), .int .u64 (Z.chal r p m))
 | _ => none
def bo6 (O : OO) (Z : OZ) (l : List Value) : Option (Bool × Value) := match l with
 | [.int .u64 k] => some ((inU k 18446744073709551616), .bool (Z.key k))
 | _ => none
def bms (O : OO) (Z : OZ) (l : List Value) : Option (Bool × Value) := match l with
 | [.int .u64 k] => some ((inU k 18446744073709551616), .bool (Z.key k))
 | _ => none
def bmf (O : OO) (Z : OZ) (l : List Value) : Option (Bool × Value) := match l with
 | [.agg m] => some ((O.isH m), .int .u64 (Z.skey m))
 | _ => none
def biz (O : OO) (Z : OZ) (l : List Value) : Option (Bool × Value) := match l with
 | [.agg m] => some ((O.isH m), .int .u64 (Z.skey m))
 | _ => none
def bnj (O : OO) (Z : OZ) (f : FuncId) : Option Sx.Spec := match f with
 | f => bnw O Z f
theorem bge (I : Sx.Interp) (O : OO) (hO : O = oo) (Z : OZ) (hZ : Z = zO O) : ∀ f s, bnj O Z f = some s → ag I Tryz.prog f s := by
 intro f s h
 unfold bnj at h
 exact bj7 I O hO Z hZ _ s h

def bdn (O : OO) (Z : OZ) (l : List Value) : Option (Bool × Value) := match l with
 | [.int .u64 k, .int .u64 n, .agg m, .int .u64 t] => some ((inU k 18446744073709551616) && (inU n 18446744073709551616) && (inU t 18446744073709551616) && (O.isH m), .agg #[.int .u64 (Z.aR n t), .int .u64 (Z.aS k n m t)])
 | _ => none
def bn0 (O : OO) (Z : OZ) (l : List Value) : Option (Bool × Value) := match l with
 | [.int .u64 k, .int .u64 n, .agg m, .int .u64 t] => some ((inU k 18446744073709551616) && (inU n 18446744073709551616) && (inU t 18446744073709551616) && (O.isH m), .agg #[.int .u64 (Z.aR n t), .int .u64 (Z.aS k n m t)])
 | _ => none
def bd7 (O : OO) (Z : OZ) (l : List Value) : Option (Bool × Value) := match l with
 | [.int .u64 p, .agg m, .int .u64 t, .agg ⟨[.int .u64 r, .int .u64 s]⟩] => some ((inU p 18446744073709551616) && (inU t 18446744073709551616) && (inU r 18446744073709551616) && (inU s 18446744073709551616) && (O.isH m), .bool (Z.chk p m t r s))
 | _ => none
def g_holds (O : OO) (Z : OZ) (l : List Value) : Option (Bool × Value) := match l with
 | [.int .u64 p, .agg m, .int .u64 t, .agg ⟨[.int .u64 r, .int .u64 s]⟩] => some ((inU p 18446744073709551616) && (inU t 18446744073709551616) && (inU r 18446744073709551616) && (inU s 18446744073709551616) && (O.isH m), .bool (Z.chk p m t r s))
 | _ => none
def bhp (O : OO) (Z : OZ) (l : List Value) : Option (Bool × Value) := match l with
 | [.agg ⟨[.int .u64 r, .int .u64 s]⟩, .int .u64 t] => some ((inU r 18446744073709551616) && (inU s 18446744073709551616) && (inU t 18446744073709551616), .agg #[.int .u64 (bif O.y9 s && O.y9 t then r else 0), .int .u64 (bif O.y9 s && O.y9 t then O.ab8 s t else 0)])
 | _ => none
def bdw (O : OO) (Z : OZ) (l : List Value) : Option (Bool × Value) := match l with
 | [.agg ⟨[.int .u64 r, .int .u64 s]⟩, .int .u64 t] => some ((inU r 18446744073709551616) && (inU s 18446744073709551616) && (inU t 18446744073709551616), .agg #[.int .u64 (bif O.y9 s && O.y9 t then r else 0), .int .u64 (bif O.y9 s && O.y9 t then O.ab8 s t else 0)])
 | _ => none
def a4v (O : OO) (Z : OZ) (l : List Value) : Option (Bool × Value) := match l with
 | [.agg ⟨[.int .u64 a, .int .u64 s]⟩, .agg ⟨[.int .u64 b, .int .u64 t]⟩] => some ((inU a 18446744073709551616) && (inU s 18446744073709551616) && (inU b 18446744073709551616) && (inU t 18446744073709551616), .int .u64 (bif O.y9 s && O.y9 t then O.ah4 t s else 0))
 | _ => none
def a06 (O : OO) (Z : OZ) (l : List Value) : Option (Bool × Value) := match l with
 | [.agg ⟨[.int .u64 a, .int .u64 s]⟩, .agg ⟨[.int .u64 b, .int .u64 t]⟩] => some ((inU a 18446744073709551616) && (inU s 18446744073709551616) && (inU b 18446744073709551616) && (inU t 18446744073709551616), .int .u64 (bif O.y9 s && O.y9 t then O.ah4 t s else 0))
 | _ => none
def bmm (O : OO) (Z : OZ) (f : FuncId) : Option Sx.Spec := match f with
 | f => bnj O Z f
theorem bhj (I : Sx.Interp) (O : OO) (hO : O = oo) (Z : OZ) (hZ : Z = zO O) : ∀ f s, bmm O Z f = some s → ag I Tryz.prog f s := by
 intro f s h
 unfold bmm at h
 exact bge I O hO Z hZ _ s h

def bng (O : OO) (Z : OZ) (l : List Value) : Option (Bool × Value) := match l with
 | [.int .u64 k, .agg m] => some ((inU k 18446744073709551616) && (O.isH m), .agg #[.int .u64 (bif Z.key k then Z.aR (Z.non k m) 1 else 0), .int .u64 (bif Z.key k then Z.aS k (Z.non k m) m 1 else 0)])
 | _ => none
def bjd (O : OO) (Z : OZ) (l : List Value) : Option (Bool × Value) := match l with
 | [.int .u64 k, .agg m] => some ((inU k 18446744073709551616) && (O.isH m), .agg #[.int .u64 (bif Z.key k then Z.aR (Z.non k m) 1 else 0), .int .u64 (bif Z.key k then Z.aS k (Z.non k m) m 1 else 0)])
 | _ => none
def bpz (O : OO) (Z : OZ) (l : List Value) : Option (Bool × Value) := match l with
 | [.int .u64 k, .agg m, .int .u64 t] => some ((inU k 18446744073709551616) && (inU t 18446744073709551616) && (O.isH m), .agg #[.int .u64 (bif Z.key k && O.iw t then Z.aR (Z.prn k m t) t else 0), .int .u64 (bif Z.key k && O.iw t then Z.aS k (Z.prn k m t) m t else 0)])
 | _ => none
def bm1 (O : OO) (Z : OZ) (l : List Value) : Option (Bool × Value) := match l with
 | [.int .u64 k, .agg m, .int .u64 t] => some ((inU k 18446744073709551616) && (inU t 18446744073709551616) && (O.isH m), .agg #[.int .u64 (bif Z.key k && O.iw t then Z.aR (Z.prn k m t) t else 0), .int .u64 (bif Z.key k && O.iw t then Z.aS k (Z.prn k m t) m t else 0)])
 | _ => none
def bbn (O : OO) (Z : OZ) (l : List Value) : Option (Bool × Value) := match l with
 | [.int .u64 p, .agg m, .agg ⟨[.int .u64 r, .int .u64 s]⟩] => some ((inU p 18446744073709551616) && (inU r 18446744073709551616) && (inU s 18446744073709551616) && (O.isH m), .bool (Z.chk p m 1 r s))
 | _ => none
def a7o (O : OO) (Z : OZ) (l : List Value) : Option (Bool × Value) := match l with
 | [.int .u64 p, .agg m, .agg ⟨[.int .u64 r, .int .u64 s]⟩] => some ((inU p 18446744073709551616) && (inU r 18446744073709551616) && (inU s 18446744073709551616) && (O.isH m), .bool (Z.chk p m 1 r s))
 | _ => none
def a6i (O : OO) (Z : OZ) (l : List Value) : Option (Bool × Value) := match l with
 | [.int .u64 p, .agg m, .int .u64 t, .agg ⟨[.int .u64 r, .int .u64 s]⟩] => some ((inU p 18446744073709551616) && (inU t 18446744073709551616) && (inU r 18446744073709551616) && (inU s 18446744073709551616) && (O.isH m), .bool (Z.chk p m t r s))
 | _ => none
def bph (O : OO) (Z : OZ) (f : FuncId) : Option Sx.Spec := match f with
 | f => bmm O Z f
theorem bp9 (I : Sx.Interp) (O : OO) (hO : O = oo) (Z : OZ) (hZ : Z = zO O) : ∀ f s, bph O Z f = some s → ag I Tryz.prog f s := by
 intro f s h
 unfold bph at h
 exact bhj I O hO Z hZ _ s h
end Go.Proofs.YtgekiddgdjeaiaaGreat
