/- Bytes: numbers and bytes laid, and read: code, by the symbolic machine (printed by genRd.py; VCs by VcTool). -/
import Derived.Test.YtheihhjlkefhgaaDoorCm
namespace Go.Proofs.YtheihhjlkefhgaaDoor
open Go.RowKit Go.Lib Ckp Cfd Cpd Sx
set_option linter.unusedVariables false
set_option linter.unusedSimpArgs false
set_option maxRecDepth 1000000
/-- A number's row. -/
def rowG : Nat → Int → List Int
 | 0, _ => []
 | f + 1, n => bif iLe 128 n then (n.tmod 128 + 128) :: rowG f (n.tdiv 128) else [n]
def rowI (n : Int) : List Int := rowG 10 n
def dgt (l : List Int) (i : Nat) : Int := l.getD i 0
/-- Is there no digit? -/
def wrF (l : List Int) (i : Nat) : Bool := bif (bif Nat.ble l.length i then true else Nat.blt 8 i) then true else bif Nat.blt 0 i then iBeq (dgt l i) 0 else false
def orD (n d : Int) (i : Nat) : Int := IntKind.i64.wrap (((BitVec.ofInt 64 n ||| BitVec.ofInt 64 (IntKind.i64.wrap (d.tmod 128 * 2 ^ (min (7 * i) 64)))).toNat : Nat) : Int)
def numG (l : List Int) : Nat → Nat → Int → Bool × Int × Nat
 | 0, _, _ => (false, 0, 0)
 | f + 1, i, n => bif wrF l i then (false, 0, 0) else bif iLt (dgt l i) 128 then (true, orD n (dgt l i) i, i + 1) else numG l f (i + 1) (orD n (dgt l i) i)
/-- What the walks of bytes are stuck on. -/
structure OB where
 row : Int → List Int
 nOk : List Int → Bool
 nV : List Int → Int
 nR : List Int → List Int
 u64 : List Int → Int
def u64F (l : List Int) : Int := l.foldl (fun n b => IntKind.u64.wrap (((BitVec.ofInt 64 (IntKind.u64.wrap (n * 2 ^ 8)) ||| BitVec.ofInt 64 b).toNat : Nat) : Int)) 0
def bO : OB := ⟨rowI, fun l => (numG l 10 0 0).1, fun l => (numG l 10 0 0).2.1, fun l => bif (numG l 10 0 0).1 then l.drop (numG l 10 0 0).2.2 else [], u64F⟩
def hashF (l : List Int) (i : Nat) : Int := bif Nat.blt i l.length then l.getD i 0 else 0
/-- A sum that is read next, what is left, and has the reader failed? -/
def hshB (l : List Int) (no : Bool) : Bool := bif no then true else iLt (l.length : Int) 32
def hshN (l : List Int) (no : Bool) : Bool := bif hshB l no then true else no
def hshR (l : List Int) (no : Bool) : List Int := bif hshB l no then [] else l.drop 32
def hsh (l : List Int) (no : Bool) : Nat → Int := hashF (bif hshB l no then [] else l.take 32)
theorem rowG_len : ∀ (f : Nat) (n : Int), (rowG f n).length ≤ f
 | 0, n => Nat.le_refl _
 | f + 1, n => by
  unfold rowG
  cases iLe 128 n
  ·simp
  ·have := rowG_len f (n.tdiv 128)
   simp only [cond_true, List.length_cons]; omega
theorem row_len {R : OB} (hr : R = bO) (n : Int) : (R.row n).length ≤ 10 := by subst hr; exact rowG_len 10 n
def isLit (n : Nat) (args : List SV) : Bool := match args with
 | [.sl _ _ m _] => Nat.beq m n
 | _ => false

def spQ0 (O : OO) (R : OB) (f : FuncId) : Option Sx.Spec := match f with
 | 40 => some (gspec [.ro .u8] g_clone)
 | f => none
theorem spQ0_ok (I : Sx.Interp) (O : OO) (hO : O = oo) (R : OB) (hR : R = bO) : ∀ f s, spQ0 O R f = some s → Sx.SpecOK I Tryd.prog f s := by
 intro f s h
 unfold spQ0 at h
 split at h
 · cases h; exact ok_clone I
 ·cases h
def g_grow (O : OO) (R : OB) (ds : List Dt) : Option (Bool × List Bool × (List Bool → Post)) := match ds with
 | [.v (.slice none 0 0), .v (.int .i64 n)] => some ((iLe 0 n && iLe n 1099511627776), [], fun _ => ⟨[.row 0], [(0, .own 5 (.ints .u8 []))]⟩)
 | _ => none
def spQ1 (O : OO) (R : OB) (f : FuncId) : Option Sx.Spec := match f with
 | f => spQ0 O R f
theorem spQ1_ok (I : Sx.Interp) (O : OO) (hO : O = oo) (R : OB) (hR : R = bO) : ∀ f s, spQ1 O R f = some s → Sx.SpecOK I Tryd.prog f s := by
 intro f s h
 unfold spQ1 at h
 exact spQ0_ok I O hO R hR _ s h

def g_con2 (O : OO) (R : OB) (ds : List Dt) : Option (Bool × List Bool × (List Bool → Post)) := match ds with
 | [.node [.ints a, .ints b]] => some ((Nat.ble a.length 1073741824) && (Nat.ble b.length 1073741824), [], fun _ => ⟨[.row 3], [(3, .own 5 (.ints .u8 (a ++ b)))]⟩)
 | _ => none
def g_con3 (O : OO) (R : OB) (ds : List Dt) : Option (Bool × List Bool × (List Bool → Post)) := match ds with
 | [.node [.ints a, .ints b, .ints c]] => some ((Nat.ble a.length 1073741824) && (Nat.ble b.length 1073741824) && (Nat.ble c.length 1073741824), [], fun _ => ⟨[.row 4], [(4, .own 5 (.ints .u8 (a ++ b ++ c)))]⟩)
 | _ => none
def spQ2 (O : OO) (R : OB) (f : FuncId) : Option Sx.Spec := match f with
 | f => spQ1 O R f
theorem spQ2_ok (I : Sx.Interp) (O : OO) (hO : O = oo) (R : OB) (hR : R = bO) : ∀ f s, spQ2 O R f = some s → Sx.SpecOK I Tryd.prog f s := by
 intro f s h
 unfold spQ2 at h
 exact spQ1_ok I O hO R hR _ s h

def g_laid (O : OO) (R : OB) (ds : List Dt) : Option (Bool × List Bool × (List Bool → Post)) := match ds with
 | [.ints a, .ints b] => some ((Nat.ble a.length 1073741824) && (Nat.ble b.length 1073741824), [], fun _ => ⟨[.row 2], [(2, .own 5 (.ints .u8 (a ++ b)))]⟩)
 | _ => none
def g_row (O : OO) (R : OB) (ds : List Dt) : Option (Bool × List Bool × (List Bool → Post)) := match ds with
 | [.v (.int .i64 n)] => some ((iLe 0 n && iLe n 9223372036854775807), [], fun _ => ⟨[.row 0], [(0, .own 5 (.ints .u8 (R.row n)))]⟩)
 | _ => none
def spQ3 (O : OO) (R : OB) (f : FuncId) : Option Sx.Spec := match f with
 | f => spQ2 O R f
theorem spQ3_ok (I : Sx.Interp) (O : OO) (hO : O = oo) (R : OB) (hR : R = bO) : ∀ f s, spQ3 O R f = some s → Sx.SpecOK I Tryd.prog f s := by
 intro f s h
 unfold spQ3 at h
 exact spQ2_ok I O hO R hR _ s h

def g_put (O : OO) (R : OB) (ds : List Dt) : Option (Bool × List Bool × (List Bool → Post)) := match ds with
 | [.ints b, .v (.int .i64 n)] => some ((Nat.ble b.length 1000000) && (iLe n 9223372036854775807), [], fun _ => ⟨[.row 1], [(1, .own 5 (.ints .u8 (bif iLt n 0 then b else b ++ R.row n)))]⟩)
 | _ => none
def g_puth (O : OO) (R : OB) (ds : List Dt) : Option (Bool × List Bool × (List Bool → Post)) := match ds with
 | [.ints b, .v (.agg a)] => some ((Nat.ble b.length 1000000) && (O.isH a), [], fun _ => ⟨[.row 1], [(1, .own 5 (.ints .u8 (b ++ tabI (fnA a) 32)))]⟩)
 | _ => none
def spQ4 (O : OO) (R : OB) (f : FuncId) : Option Sx.Spec := match f with
 | f => spQ3 O R f
theorem spQ4_ok (I : Sx.Interp) (O : OO) (hO : O = oo) (R : OB) (hR : R = bO) : ∀ f s, spQ4 O R f = some s → Sx.SpecOK I Tryd.prog f s := by
 intro f s h
 unfold spQ4 at h
 exact spQ3_ok I O hO R hR _ s h

def g_num1 (O : OO) (R : OB) (ds : List Dt) : Option (Bool × List Bool × (List Bool → Post)) := match ds with
 | [.node [.v (.int .i64 i)], .node [.node [.ints l, .v (.bool no)]]] => some ((Nat.ble l.length 1000000) && (iLe 0 i && iLe i 9), [], fun _ => ⟨[.v (.bool (wrF l i.toNat))], []⟩)
 | _ => none
def spQ5 (O : OO) (R : OB) (f : FuncId) : Option Sx.Spec := match f with
 | f => spQ4 O R f
theorem spQ5_ok (I : Sx.Interp) (O : OO) (hO : O = oo) (R : OB) (hR : R = bO) : ∀ f s, spQ5 O R f = some s → Sx.SpecOK I Tryd.prog f s := by
 intro f s h
 unfold spQ5 at h
 exact spQ4_ok I O hO R hR _ s h

def g_left (O : OO) (R : OB) (ds : List Dt) : Option (Bool × List Bool × (List Bool → Post)) := match ds with
 | [.node [.ints l, .v (.bool no)]] => some (true, [], fun _ => ⟨[.v (.int .i64 (l.length : Int))], []⟩)
 | _ => none
def g_rok (O : OO) (R : OB) (ds : List Dt) : Option (Bool × List Bool × (List Bool → Post)) := match ds with
 | [.node [.ints l, .v (.bool no)]] => some (true, [], fun _ => ⟨[.v (.bool (!no))], []⟩)
 | _ => none
def spQ6 (O : OO) (R : OB) (f : FuncId) : Option Sx.Spec := match f with
 | f => spQ5 O R f
theorem spQ6_ok (I : Sx.Interp) (O : OO) (hO : O = oo) (R : OB) (hR : R = bO) : ∀ f s, spQ6 O R f = some s → Sx.SpecOK I Tryd.prog f s := by
 intro f s h
 unfold spQ6 at h
 exact spQ5_ok I O hO R hR _ s h
end Go.Proofs.YtheihhjlkefhgaaDoor
