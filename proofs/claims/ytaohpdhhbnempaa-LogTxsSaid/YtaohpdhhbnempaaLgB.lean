/- LogTxs: the walk, by the symbolic machine (printed by genLgB.py; VCs by VcTool). -/
import Derived.Test.YtaohpdhhbnempaaLg3
import Derived.Test.YtaohpdhhbnempaaTx4
import Derived.Test.YtaohpdhhbnempaaDp
namespace Go.Proofs.Ytaohpdhhbnempaa
open Go.RowKit Go.Lib Ckp Cfd Cpd Sx
set_option linter.unusedVariables false
set_option linter.unusedSimpArgs false
set_option maxRecDepth 1000000
set_option maxHeartbeats 4000000

def spF9 (O : OO) (R : OB) (f : FuncId) : Option Sx.Spec := match f with
 | 10 => some (pspec [.obj 28 [.own 5 .u8, .v, .v]] true (g_gopen O R))
 | 21 => some (pspec [.robj 28 [.ro .u8, .v, .v], .v] false (g_dagain O R))
 | 26 => some (pspec [.agg [.deep inD, .deep ouD, .v]] false (g_txbytes O R))
 | 27 => some (pspec [.ro .u8] true (g_txread O R))
 | 28 => some (pspec [.agg [.deep inD, .deep ouD, .v], .agg [.deep inD, .deep ouD, .v]] false (g_txsame O R))
 | 29 => some (pspec [.agg [.deep inD, .deep ouD, .v]] false (g_txid O R))
 | 25 => some (pspec [.agg [.deep inD, .deep ouD, .v]] false (g_tsmall O R))
 | f => spG4 O R f
theorem spF9_ok (I : Sx.Interp) (O : OO) (hO : O = oo) (R : OB) (hR : R = bO) : ∀ f s, spF9 O R f = some s → Sx.SpecOK I Try.prog f s := by
 intro f s h
 unfold spF9 at h
 split at h
 · cases h; exact ok_gopen I O hO R hR
 · cases h; exact ok_dagain I O hO R hR
 · cases h; exact ok_txbytes I O hO R hR
 · cases h; exact ok_txread I O hO R hR
 · cases h; exact ok_txsame I O hO R hR
 · cases h; exact ok_txid I O hO R hR
 · cases h; exact ok_tsmall I O hO R hR
 ·exact spG4_ok I O hO R hR _ s h
def g_gtxs (O : OO) (R : OB) (ds : List Dt) : zG := match ds with
 | [.deep l, .v (.int .i64 bu), .v (.int .i64 mo)] => some ((xAll O l) && (iLe (-9223372036854775808) bu && iLe bu 9223372036854775807) && (iLe (-9223372036854775808) mo && iLe mo 9223372036854775807), [], fun _ => ⟨[.v (.bool true)], []⟩)
 | _ => none
theorem vc_gtxs (O : OO) (R : OB) (l : List (List DD)) (bu mo : Int) (F : FO O) (hr : R = bO) (hS : SB O) (h0 : (xAll O l) = true) (h1 : (iLe (-9223372036854775808) bu && iLe bu 9223372036854775807) = true) (h2 : (iLe (-9223372036854775808) mo && iLe mo 9223372036854775807) = true) :
 If (iLt 8 (iOf l.length)) (yB true = yB true ∧ True ∧ True) ( (∃ (x : Nat), (x ≤ l.length ∧ xF l x = true) ∧ (yI 0 = yI (iOf x) ∧ yI bu = yI bu ∧ yI mo = yI mo ∧ yB true = yB true ∧ True) ∧ (yI bu = yI (xB O R l bu x) ∧ yB false = yB (xD O R l bu x)) ∧ EqI (List.take (lgEnd O R []) []) (xL O R l bu x) ∧ (yI (iOf (lgEnd O R [])) = yI (xE O R l bu x) ∧ yB false = yB (xR O R l bu x)) ∧ EqII (lgRows O R []) (xX O R l bu x) ∧ (([] : List (List DD)) = [] ∧ xQ O R l bu x = []) ∧ Res.deep txD l = Res.deep txD l ∧ True) ∧ ∀ (x : Nat), x ≤ l.length ∧ xF l x = true → If (iLt (iOf x) (iOf l.length)) (If (iLe 0 (iOf x) && (iOf x).toNat.blt l.length) (If (true && Nat.beq 3 3 && (iOf x).toNat.blt l.length) (If (!smT (List.map vI ((l.getD (iOf x).toNat []).getD 0 (DD.n 0)).l) (List.map vO ((l.getD (iOf x).toNat []).getD 1 (DD.n 0)).l)) (yB true = yB true ∧ True ∧ True) (If (iLe 0 (iOf x) && (iOf x).toNat.blt l.length) (If (true && Nat.beq 3 3 && (iOf x).toNat.blt l.length) (If (txW O (List.map vI ((l.getD (iOf x).toNat []).getD 0 (DD.n 0)).l) (List.map vO ((l.getD (iOf x).toNat []).getD 1 (DD.n 0)).l) ((l.getD (iOf x).toNat []).getD 2 (DD.n 0)).i) (If (iLt 0 (iOf (Cont.ints .u8 (txZ O R (List.map vI ((l.getD (iOf x).toNat []).getD 0 (DD.n 0)).l) (List.map vO ((l.getD (iOf x).toNat []).getD 1 (DD.n 0)).l) ((l.getD (iOf x).toNat []).getD 2 (DD.n 0)).i)).n)) (If ((xL O R l bu x).length.ble 4194304 && (txZ O R (List.map vI ((l.getD (iOf x).toNat []).getD 0 (DD.n 0)).l) (List.map vO ((l.getD (iOf x).toNat []).getD 1 (DD.n 0)).l) ((l.getD (iOf x).toNat []).getD 2 (DD.n 0)).i).length.ble 1000000 && (xX O R l bu x).length.ble 1000000 && (iLe (iNeg 9223372036854775808) (xB O R l bu x) && iLe (xB O R l bu x) 9223372036854775807) && (iLe 0 (xE O R l bu x) && iLe (xE O R l bu x) 4194304)) (If (iBeq (apE O R (xL O R l bu x) (xB O R l bu x) (xD O R l bu x) (xR O R l bu x) (xE O R l bu x) (txZ O R (List.map vI ((l.getD (iOf x).toNat []).getD 0 (DD.n 0)).l) (List.map vO ((l.getD (iOf x).toNat []).getD 1 (DD.n 0)).l) ((l.getD (iOf x).toNat []).getD 2 (DD.n 0)).i)) 0) (If (iLe 0 (iOf x) && (iOf x).toNat.blt l.length) (If (true && Nat.beq 3 3 && (iOf x).toNat.blt l.length) (If ((nMul (nAdd (xQ O R l bu x).length 1) 56).ble 140737488355328 && (nAdd (xQ O R l bu x).length 1).ble 9223372036854775807) (∃ (x' : Nat), (x' ≤ l.length ∧ xF l x' = true) ∧ (nSub l.length x').succ ≤ nSub l.length x ∧ (yI (IntKind.i64.wrap (iAdd (iOf x) 1)) = yI (iOf x') ∧ yI bu = yI bu ∧ yI mo = yI mo ∧ yB true = yB true ∧ True) ∧ (yI (apB O R (xL O R l bu x) (xB O R l bu x) (xD O R l bu x) (xR O R l bu x) (xE O R l bu x) (txZ O R (List.map vI ((l.getD (iOf x).toNat []).getD 0 (DD.n 0)).l) (List.map vO ((l.getD (iOf x).toNat []).getD 1 (DD.n 0)).l) ((l.getD (iOf x).toNat []).getD 2 (DD.n 0)).i)) = yI (xB O R l bu x') ∧ yB (apD O R (xL O R l bu x) (xB O R l bu x) (xD O R l bu x) (xR O R l bu x) (xE O R l bu x) (txZ O R (List.map vI ((l.getD (iOf x).toNat []).getD 0 (DD.n 0)).l) (List.map vO ((l.getD (iOf x).toNat []).getD 1 (DD.n 0)).l) ((l.getD (iOf x).toNat []).getD 2 (DD.n 0)).i)) = yB (xD O R l bu x')) ∧ EqI (apL O R (xL O R l bu x) (xB O R l bu x) (xD O R l bu x) (xR O R l bu x) (xE O R l bu x) (txZ O R (List.map vI ((l.getD (iOf x).toNat []).getD 0 (DD.n 0)).l) (List.map vO ((l.getD (iOf x).toNat []).getD 1 (DD.n 0)).l) ((l.getD (iOf x).toNat []).getD 2 (DD.n 0)).i)) (xL O R l bu x') ∧ (yI (apM O R (xL O R l bu x) (xB O R l bu x) (xD O R l bu x) (xR O R l bu x) (xE O R l bu x) (txZ O R (List.map vI ((l.getD (iOf x).toNat []).getD 0 (DD.n 0)).l) (List.map vO ((l.getD (iOf x).toNat []).getD 1 (DD.n 0)).l) ((l.getD (iOf x).toNat []).getD 2 (DD.n 0)).i)) = yI (xE O R l bu x') ∧ yB (apR O R (xL O R l bu x) (xB O R l bu x) (xD O R l bu x) (xR O R l bu x) (xE O R l bu x) (txZ O R (List.map vI ((l.getD (iOf x).toNat []).getD 0 (DD.n 0)).l) (List.map vO ((l.getD (iOf x).toNat []).getD 1 (DD.n 0)).l) ((l.getD (iOf x).toNat []).getD 2 (DD.n 0)).i)) = yB (xR O R l bu x')) ∧ EqII (apX O R (xL O R l bu x) (xB O R l bu x) (xD O R l bu x) (xR O R l bu x) (xE O R l bu x) (txZ O R (List.map vI ((l.getD (iOf x).toNat []).getD 0 (DD.n 0)).l) (List.map vO ((l.getD (iOf x).toNat []).getD 1 (DD.n 0)).l) ((l.getD (iOf x).toNat []).getD 2 (DD.n 0)).i) (xX O R l bu x)) (xX O R l bu x') ∧ (app (xQ O R l bu x) [[DD.s ((l.getD (iOf x).toNat []).getD 0 (DD.n 0)).l, DD.s ((l.getD (iOf x).toNat []).getD 1 (DD.n 0)).l, DD.n ((l.getD (iOf x).toNat []).getD 2 (DD.n 0)).i]] = xQ O R l bu x' ∧ ((none : Option Nat) = none ∨ (none : Option Nat) = none)) ∧ Res.deep txD l = Res.deep txD l ∧ True) False) False) False) (∃ (x' : Nat), (x' ≤ l.length ∧ xF l x' = true) ∧ (nSub l.length x').succ ≤ nSub l.length x ∧ (yI (IntKind.i64.wrap (iAdd (iOf x) 1)) = yI (iOf x') ∧ yI bu = yI bu ∧ yI mo = yI mo ∧ yB true = yB true ∧ True) ∧ (yI (apB O R (xL O R l bu x) (xB O R l bu x) (xD O R l bu x) (xR O R l bu x) (xE O R l bu x) (txZ O R (List.map vI ((l.getD (iOf x).toNat []).getD 0 (DD.n 0)).l) (List.map vO ((l.getD (iOf x).toNat []).getD 1 (DD.n 0)).l) ((l.getD (iOf x).toNat []).getD 2 (DD.n 0)).i)) = yI (xB O R l bu x') ∧ yB (apD O R (xL O R l bu x) (xB O R l bu x) (xD O R l bu x) (xR O R l bu x) (xE O R l bu x) (txZ O R (List.map vI ((l.getD (iOf x).toNat []).getD 0 (DD.n 0)).l) (List.map vO ((l.getD (iOf x).toNat []).getD 1 (DD.n 0)).l) ((l.getD (iOf x).toNat []).getD 2 (DD.n 0)).i)) = yB (xD O R l bu x')) ∧ EqI (apL O R (xL O R l bu x) (xB O R l bu x) (xD O R l bu x) (xR O R l bu x) (xE O R l bu x) (txZ O R (List.map vI ((l.getD (iOf x).toNat []).getD 0 (DD.n 0)).l) (List.map vO ((l.getD (iOf x).toNat []).getD 1 (DD.n 0)).l) ((l.getD (iOf x).toNat []).getD 2 (DD.n 0)).i)) (xL O R l bu x') ∧ (yI (apM O R (xL O R l bu x) (xB O R l bu x) (xD O R l bu x) (xR O R l bu x) (xE O R l bu x) (txZ O R (List.map vI ((l.getD (iOf x).toNat []).getD 0 (DD.n 0)).l) (List.map vO ((l.getD (iOf x).toNat []).getD 1 (DD.n 0)).l) ((l.getD (iOf x).toNat []).getD 2 (DD.n 0)).i)) = yI (xE O R l bu x') ∧ yB (apR O R (xL O R l bu x) (xB O R l bu x) (xD O R l bu x) (xR O R l bu x) (xE O R l bu x) (txZ O R (List.map vI ((l.getD (iOf x).toNat []).getD 0 (DD.n 0)).l) (List.map vO ((l.getD (iOf x).toNat []).getD 1 (DD.n 0)).l) ((l.getD (iOf x).toNat []).getD 2 (DD.n 0)).i)) = yB (xR O R l bu x')) ∧ EqII (apX O R (xL O R l bu x) (xB O R l bu x) (xD O R l bu x) (xR O R l bu x) (xE O R l bu x) (txZ O R (List.map vI ((l.getD (iOf x).toNat []).getD 0 (DD.n 0)).l) (List.map vO ((l.getD (iOf x).toNat []).getD 1 (DD.n 0)).l) ((l.getD (iOf x).toNat []).getD 2 (DD.n 0)).i) (xX O R l bu x)) (xX O R l bu x') ∧ (xQ O R l bu x = xQ O R l bu x' ∧ ((none : Option Nat) = none ∨ (none : Option Nat) = none)) ∧ Res.deep txD l = Res.deep txD l ∧ True)) False) (∃ (x' : Nat), (x' ≤ l.length ∧ xF l x' = true) ∧ (nSub l.length x').succ ≤ nSub l.length x ∧ (yI (IntKind.i64.wrap (iAdd (iOf x) 1)) = yI (iOf x') ∧ yI bu = yI bu ∧ yI mo = yI mo ∧ yB true = yB true ∧ True) ∧ (yI (xB O R l bu x) = yI (xB O R l bu x') ∧ yB (xD O R l bu x) = yB (xD O R l bu x')) ∧ EqI (xL O R l bu x) (xL O R l bu x') ∧ (yI (xE O R l bu x) = yI (xE O R l bu x') ∧ yB (xR O R l bu x) = yB (xR O R l bu x')) ∧ EqII (xX O R l bu x) (xX O R l bu x') ∧ (xQ O R l bu x = xQ O R l bu x' ∧ ((none : Option Nat) = none ∨ (none : Option Nat) = none)) ∧ Res.deep txD l = Res.deep txD l ∧ True)) False) False) False)) False) False) (If ((xL O R l bu x).length.ble 8388608) (If ((xL O R l bu x).length.ble 1000000 && byB (xL O R l bu x)) (If ((lgRows O R (xL O R l bu x)).length.ble 1000000 && (lgRows O R (xL O R l bu x)).all fun (x : List Int) => x.length.ble 1000000) (If (iBne (iOf (lgRows O R (xL O R l bu x)).length) (iOf (xQ O R l bu x).length)) (yB false = yB true ∧ True ∧ True) ( (∃ (x_1 : Nat), x_1 ≤ (xX O R l bu l.length).length ∧ (yI 0 = yI (iOf x_1) ∧ yB true = yB true ∧ True) ∧ EqII (lgRows O R (xL O R l bu x)) (lgRows O R (xL O R l bu x)) ∧ (xQ O R l bu x = xQ O R l bu x ∧ ((none : Option Nat) = none ∨ (none : Option Nat) = none)) ∧ True) ∧ ∀ (x_1 : Nat), x_1 ≤ (xX O R l bu l.length).length → If (iLt (iOf x_1) (iOf (lgRows O R (xL O R l bu x)).length)) (If (iLe 0 (iOf x_1) && (iOf x_1).toNat.blt (lgRows O R (xL O R l bu x)).length) (If (true && !false && Nat.beq 1 1 && Nat.beq 0 0 && (iOf x_1).toNat.blt (lgRows O R (xL O R l bu x)).length) (If (((lgRows O R (xL O R l bu x)).getD (iOf x_1).toNat []).length.ble 1000000 && txIs O R ((lgRows O R (xL O R l bu x)).getD (iOf x_1).toNat [])) (If (Nat.beq 3 3 && (iLe 0 (iOf x_1) && (iOf x_1).toNat.blt (xQ O R l bu x).length)) (If (true && Nat.beq 3 3 && (iOf x_1).toNat.blt (xQ O R l bu x).length) (If (txW O (List.map vI (List.map cI (tI R ((lgRows O R (xL O R l bu x)).getD (iOf x_1).toNat [])))) (List.map vO (List.map cO (tO R ((lgRows O R (xL O R l bu x)).getD (iOf x_1).toNat [])))) (tN R ((lgRows O R (xL O R l bu x)).getD (iOf x_1).toNat [])) && decide (List.map vI (List.map cI (tI R ((lgRows O R (xL O R l bu x)).getD (iOf x_1).toNat []))) = List.map vI (((xQ O R l bu x).getD (iOf x_1).toNat []).getD 0 (DD.n 0)).l) && decide (List.map vO (List.map cO (tO R ((lgRows O R (xL O R l bu x)).getD (iOf x_1).toNat []))) = List.map vO (((xQ O R l bu x).getD (iOf x_1).toNat []).getD 1 (DD.n 0)).l) && iBeq (tN R ((lgRows O R (xL O R l bu x)).getD (iOf x_1).toNat [])) (((xQ O R l bu x).getD (iOf x_1).toNat []).getD 2 (DD.n 0)).i) (If (txW O (List.map vI (List.map cI (tI R ((lgRows O R (xL O R l bu x)).getD (iOf x_1).toNat [])))) (List.map vO (List.map cO (tO R ((lgRows O R (xL O R l bu x)).getD (iOf x_1).toNat [])))) (tN R ((lgRows O R (xL O R l bu x)).getD (iOf x_1).toNat [])) && txOk O (List.map vI (List.map cI (tI R ((lgRows O R (xL O R l bu x)).getD (iOf x_1).toNat [])))) (List.map vO (List.map cO (tO R ((lgRows O R (xL O R l bu x)).getD (iOf x_1).toNat [])))) (tN R ((lgRows O R (xL O R l bu x)).getD (iOf x_1).toNat []))) (If (Nat.beq 3 3 && (iLe 0 (iOf x_1) && (iOf x_1).toNat.blt (xQ O R l bu x).length)) (If (true && Nat.beq 3 3 && (iOf x_1).toNat.blt (xQ O R l bu x).length) (If (txW O (List.map vI (((xQ O R l bu x).getD (iOf x_1).toNat []).getD 0 (DD.n 0)).l) (List.map vO (((xQ O R l bu x).getD (iOf x_1).toNat []).getD 1 (DD.n 0)).l) (((xQ O R l bu x).getD (iOf x_1).toNat []).getD 2 (DD.n 0)).i && txOk O (List.map vI (((xQ O R l bu x).getD (iOf x_1).toNat []).getD 0 (DD.n 0)).l) (List.map vO (((xQ O R l bu x).getD (iOf x_1).toNat []).getD 1 (DD.n 0)).l) (((xQ O R l bu x).getD (iOf x_1).toNat []).getD 2 (DD.n 0)).i) (If (!eqv (AV (O.tag (ByteArray.mk (Array.mk [116, 120])) [plB R (List.map vI (List.map cI (tI R ((lgRows O R (xL O R l bu x)).getD (iOf x_1).toNat [])))) (List.map vO (List.map cO (tO R ((lgRows O R (xL O R l bu x)).getD (iOf x_1).toNat [])))) (tN R ((lgRows O R (xL O R l bu x)).getD (iOf x_1).toNat []))])) (AV (O.tag (ByteArray.mk (Array.mk [116, 120])) [plB R (List.map vI (((xQ O R l bu x).getD (iOf x_1).toNat []).getD 0 (DD.n 0)).l) (List.map vO (((xQ O R l bu x).getD (iOf x_1).toNat []).getD 1 (DD.n 0)).l) (((xQ O R l bu x).getD (iOf x_1).toNat []).getD 2 (DD.n 0)).i]))) (yB false = yB true ∧ True ∧ True) (∃ (x' : Nat), x' ≤ (xX O R l bu l.length).length ∧ (nSub (xX O R l bu l.length).length x').succ ≤ nSub (xX O R l bu l.length).length x_1 ∧ (yI (IntKind.i64.wrap (iAdd (iOf x_1) 1)) = yI (iOf x') ∧ yB true = yB true ∧ True) ∧ EqII (lgRows O R (xL O R l bu x)) (lgRows O R (xL O R l bu x)) ∧ (xQ O R l bu x = xQ O R l bu x ∧ ((none : Option Nat) = none ∨ (none : Option Nat) = none)) ∧ True)) False) False) False) False) False) False) False) False) False) False) (yB true = yB true ∧ True ∧ True))) False) False) False)) := by
 simp only [Bz, Sx.Cont.n] at h1 h2
 have hbu : -9223372036854775808 ≤ bu ∧ bu ≤ 9223372036854775807 := h1
 have z0 := xs_zero (O := O) hS hr
 have x0 : xX O R l bu 0 = [] := z0.1
 have hR := row_len hr
 refine Sx.if_both (fun _ => ⟨rfl, trivial, trivial⟩) (fun hl8 => ?_)
 simp only [Bz, Sx.Cont.n, zUn] at hl8
 have hl8 : l.length ≤ 8 := by omega
 have hl : l.length ≤ 12 := by omega
 refine ⟨⟨0, ⟨Nat.zero_le _, rfl⟩, (by repeat' (first | exact True.intro | exact rfl | refine ⟨?_, ?_⟩)), (by repeat' (first | exact True.intro | exact rfl | refine ⟨?_, ?_⟩)), rfl, (by repeat' (first | exact True.intro | exact rfl | refine ⟨?_, ?_⟩)), rfl, ⟨rfl, rfl⟩, rfl, trivial⟩, fun x ⟨x1, x2⟩ => ?_⟩
 have hn : (iOf x).toNat = x := by simp only [zUn, ztN]
 rw [hn]
 have I := xs_inv hS hr hl h0 hbu x x1 x2
 have g1 : (xL O R l bu x).length ≤ 60018 * x + 60018 := (ox_len hr hR I.toOtX).2
 have g2 : (xX O R l bu x).length ≤ x := I.few
 have g4 : -9223372036854775808 ≤ xB O R l bu x ∧ xB O R l bu x ≤ 9223372036854775807 := I.bu
 have g5 : xE O R l bu x = ((rowsB O R (xX O R l bu x)).length : Int) := I.ends
 have g6 : (rowsB O R (xX O R l bu x)).length ≤ 60018 * x := (ox_len hr hR I.toOtX).1
 obtain ⟨hq, hk⟩ := xq_inv (R := R) x0 x
 refine Sx.if_both (fun d => ?_) (fun d => ?_)
 ·simp only [Bz, Sx.Cont.n, zUn] at d
  have hx : x < l.length := by omega
  have hb : x.blt l.length = true := by rw [Nat.blt_eq]; exact hx
  have w1 : IntKind.i64.wrap (iAdd (iOf x) 1) = iOf (x + 1) := by simp only [zUn]; rw [IntKind.wrap_i64]; omega
  have b1 : (iLe 0 (iOf x) && true) = true := by simp only [Bz, Sx.Cont.n, zUn]; exact ⟨by omega, trivial⟩
  have eI : List.map vI ((l.getD x []).getD 0 (DD.n 0)).l = xI l x := rfl
  have eO : List.map vO ((l.getD x []).getD 1 (DD.n 0)).l = xO l x := rfl
  have eN : ((l.getD x []).getD 2 (DD.n 0)).i = xN l x := rfl
  have eG : txZ O R (xI l x) (xO l x) (xN l x) = xG O R l x := rfl
  rw [hb, w1, eI, eO, eN, eG]
  refine ziT b1 (ziT rfl (Sx.if_both (fun _ => ⟨rfl, trivial, trivial⟩) (fun e => ?_)))
  have sm : smT (xI l x) (xO l x) = true := by simpa using e
  have hF : xF l (x + 1) = true := by rw [xF_succ, x2, sm]; rfl
  have W := txW_of (xAll_at h0 hx) sm
  obtain ⟨gB, gL⟩ := xG_ok (R := R) hr W
  rw [W]
  refine ziT b1 (ziT rfl (ziT rfl (Sx.if_both (fun f => ?_) (fun f => ?_))))
  ·have f : iLt 0 (iOf (xG O R l x).length) = true := f
   simp only [Bz, Sx.Cont.n, zUn] at f
   have hz : Nat.beq (xG O R l x).length 0 = false := by rw [Bool.eq_false_iff, Ne, Nat.beq_eq]; omega
   have eS : xS O R l bu (x + 1) = bkN1 O R (xS O R l bu x) (xG O R l x) := by
    show (bif Nat.beq (xG O R l x).length 0 then _ else _) = _
    rw [hz]; rfl
   have eB : xB O R l bu (x + 1) = apB O R (xL O R l bu x) (xB O R l bu x) (xD O R l bu x) (xR O R l bu x) (xE O R l bu x) (xG O R l x) := by
    show (xS O R l bu (x + 1)).B = _; rw [eS]; rfl
   have eL : xL O R l bu (x + 1) = apL O R (xL O R l bu x) (xB O R l bu x) (xD O R l bu x) (xR O R l bu x) (xE O R l bu x) (xG O R l x) := by
    show (xS O R l bu (x + 1)).L = _; rw [eS]; rfl
   have eD : xD O R l bu (x + 1) = apD O R (xL O R l bu x) (xB O R l bu x) (xD O R l bu x) (xR O R l bu x) (xE O R l bu x) (xG O R l x) := by
    show (xS O R l bu (x + 1)).D = _; rw [eS]; rfl
   have eE : xE O R l bu (x + 1) = apM O R (xL O R l bu x) (xB O R l bu x) (xD O R l bu x) (xR O R l bu x) (xE O R l bu x) (xG O R l x) := by
    show (xS O R l bu (x + 1)).N = _; rw [eS]; rfl
   have eR : xR O R l bu (x + 1) = apR O R (xL O R l bu x) (xB O R l bu x) (xD O R l bu x) (xR O R l bu x) (xE O R l bu x) (xG O R l x) := by
    show (xS O R l bu (x + 1)).Br = _; rw [eS]; rfl
   have eX : xX O R l bu (x + 1) = apX O R (xL O R l bu x) (xB O R l bu x) (xD O R l bu x) (xR O R l bu x) (xE O R l bu x) (xG O R l x) (xX O R l bu x) := by
    show (xS O R l bu (x + 1)).X = _; rw [eS]; rfl
   have eQ : xQ O R l bu (x + 1) = bif xK O R l bu x then xQ O R l bu x ++ [xRow l x] else xQ O R l bu x := rfl
   have eK : xK O R l bu x = iBeq (apE O R (xL O R l bu x) (xB O R l bu x) (xD O R l bu x) (xR O R l bu x) (xE O R l bu x) (xG O R l x)) 0 := by unfold xK; rw [hz]; rfl
   rw [← eK]
   refine ziT (by simp only [Bz, Sx.Cont.n, zUn]; rw [g5]; omega) (Sx.if_both (fun k => ?_) (fun k => ?_))
   ·rw [k] at eQ
    have eQ : xQ O R l bu (x + 1) = xQ O R l bu x ++ [xRow l x] := eQ
    refine ziT b1 (ziT rfl (ziT (by simp only [zUn, zaT, Nat.ble_eq]; omega) ⟨x + 1, ⟨hx, hF⟩, by simp only [zUn]; omega, (by repeat' (first | exact True.intro | exact rfl | refine ⟨?_, ?_⟩)), ⟨?_, ?_⟩, ?_, ⟨?_, ?_⟩, ?_, ⟨?_, .inl rfl⟩, rfl, trivial⟩))
    ·rw [eB]
    ·rw [eD]
    ·exact eL.symm
    ·rw [eE]
    ·rw [eR]
    ·exact eX.symm
    ·rw [eQ]; rfl
   ·rw [k] at eQ
    have eQ : xQ O R l bu (x + 1) = xQ O R l bu x := eQ
    refine ⟨x + 1, ⟨hx, hF⟩, by simp only [zUn]; omega, (by repeat' (first | exact True.intro | exact rfl | refine ⟨?_, ?_⟩)), ⟨?_, ?_⟩, ?_, ⟨?_, ?_⟩, ?_, ⟨?_, .inl rfl⟩, rfl, trivial⟩
    ·rw [eB]
    ·rw [eD]
    ·exact eL.symm
    ·rw [eE]
    ·rw [eR]
    ·exact eX.symm
    ·rw [eQ]
  ·have f : iLt 0 (iOf (xG O R l x).length) = false := f
   simp only [Bz, Sx.Cont.n, zUn] at f
   have hz : Nat.beq (xG O R l x).length 0 = true := by rw [Nat.beq_eq]; omega
   have eS : xS O R l bu (x + 1) = xS O R l bu x := by
    show (bif Nat.beq (xG O R l x).length 0 then _ else _) = _
    rw [hz]; rfl
   have eQ : xQ O R l bu (x + 1) = xQ O R l bu x := by
    show (bif xK O R l bu x then _ else _) = _
    rw [show xK O R l bu x = false by unfold xK; rw [hz]; rfl]; rfl
   refine ⟨x + 1, ⟨hx, hF⟩, by simp only [zUn]; omega, (by repeat' (first | exact True.intro | exact rfl | refine ⟨?_, ?_⟩)), ⟨?_, ?_⟩, ?_, ⟨?_, ?_⟩, ?_, ⟨?_, .inl rfl⟩, rfl, trivial⟩
   ·unfold xB; rw [eS]
   ·unfold xD; rw [eS]
   ·unfold xL; rw [eS]
   ·unfold xE; rw [eS]
   ·unfold xR; rw [eS]
   ·unfold xX; rw [eS]
   ·rw [eQ]
 ·simp only [Bz, Sx.Cont.n, zUn] at d
  obtain rfl : x = l.length := by omega
  have f1 : lgRows O R (xL O R l bu l.length) = xX O R l bu l.length := (ox_found hS hr I.toOtX).1
  have bL : byB (xL O R l bu l.length) = true := ox_byB hS hr I.toOtX
  have hall : ((xX O R l bu l.length).all fun (x : List Int) => x.length.ble 1000000) = true := by
   rw [List.all_eq_true]
   intro y hy
   have : y.length ≤ 60000 := (I.ok y hy).2
   rw [Nat.ble_eq]; omega
  rw [f1, bL, hall]
  refine ziT (by rw [Nat.ble_eq]; omega) (ziT (by rw [Bool.and_true, Nat.ble_eq]; omega) (ziT (by rw [Bool.and_true, Nat.ble_eq]; omega) (Sx.if_false (by rw [hq]; simp only [Bz, Sx.Cont.n]) ⟨⟨0, Nat.zero_le _, (by repeat' (first | exact True.intro | exact rfl | refine ⟨?_, ?_⟩)), rfl, ⟨rfl, .inl rfl⟩, trivial⟩, fun r r1 => ?_⟩)))
  have hm : (iOf r).toNat = r := by simp only [zUn, ztN]
  rw [hm]
  refine Sx.if_both (fun e => ?_) (fun e => (by repeat' (first | exact True.intro | exact rfl | refine ⟨?_, ?_⟩)))
  simp only [Bz, Sx.Cont.n, zUn] at e
  have hrx : r < (xX O R l bu l.length).length := by omega
  have hbr : r.blt (xX O R l bu l.length).length = true := by rw [Nat.blt_eq]; exact hrx
  have hbq : r.blt (xQ O R l bu l.length).length = true := by rw [Nat.blt_eq]; omega
  have w1 : IntKind.i64.wrap (iAdd (iOf r) 1) = iOf (r + 1) := by simp only [zUn]; rw [IntKind.wrap_i64]; omega
  have c1 : (iLe 0 (iOf r) && true) = true := by simp only [Bz, Sx.Cont.n, zUn]; exact ⟨by omega, trivial⟩
  obtain ⟨j, j1, j2, j3, j4⟩ := hk r (by omega)
  have eI : List.map vI ((xRow l j).getD 0 (DD.n 0)).l = xI l j := rfl
  have eO : List.map vO ((xRow l j).getD 1 (DD.n 0)).l = xO l j := rfl
  have eN : ((xRow l j).getD 2 (DD.n 0)).i = xN l j := rfl
  have W := txW_of (xAll_at h0 j1) (xF_le x2 j1)
  obtain ⟨_, gL⟩ := xG_ok (R := R) hr W
  rcases txZ_cases O R (xI l j) (xO l j) (xN l j) with q | ⟨ok, q⟩
  ·exact absurd (by rw [show xG O R l j = [] from q]; rfl) j4
  have q : xG O R l j = txB R (xI l j) (xO l j) (xN l j) := q
  obtain ⟨t0, t1, t2, t3⟩ := tx_fwd hr ok W
  have hh : ∀ v ∈ xI l j, v.h.length = 32 := fun v hv => (inW_iff.1 (List.all_eq_true.1 (txW_iff.1 W).1 v hv)).1
  rw [q] at j3 gL
  rw [hbr, hbq, w1, j2, j3, eI, eO, eN, t0, t1, t2, t3, vI_cIs hh, vO_cOs, W, ok, eqv_AVT, iBeq_r, show decide (xI l j = xI l j) = true from decide_eq_true rfl, show decide (xO l j = xO l j) = true from decide_eq_true rfl]
  have c3 : (Nat.beq 3 3 && (iLe 0 (iOf r) && true)) = true := by rw [c1]; rfl
  exact ziT c1 (ziT rfl (ziT (by rw [Bool.and_true, Nat.ble_eq]; omega) (ziT c3 (ziT rfl (ziT rfl (ziT rfl (ziT c3 (ziT rfl (ziT rfl (Sx.if_false rfl ⟨r + 1, hrx, by simp only [zUn]; omega, (by repeat' (first | exact True.intro | exact rfl | refine ⟨?_, ?_⟩)), rfl, ⟨rfl, .inl rfl⟩, trivial⟩))))))))))
theorem ok_gtxs (I : Sx.Interp) (O : OO) (hO : O = oo) (R : OB) (hR : R = bO) : Sx.SpecOK I Try.prog 7 (pspec [.deep txD, .v, .v] false (g_gtxs O R)) := by
 refine spec_pI (spF9_ok I O hO R hR) (by kernel_rfl) (fun ds => match ds with | [.deep l, .v (.int .i64 bu), .v (.int .i64 mo)] => [⟨Nat, [0, 1, 2, 7, 8, 9], [(100008, 5, .ints .u8 []), (200009, 22, .ints .u8 []), (1000200009, 22, .ints .u8 []), (11, 64, .structs [.i64, .i64, .i64] []), (1000000011, 64, .structs [.i64, .i64, .i64] [])], fun B k => [(11, .row (B + 3)), (12, .v (.int .i64 (k : Nat)))], fun B k => [(576, .blk 28 [.row B, .v (.int .i64 (xB O R l bu k)), .v (.bool (xD O R l bu k))]), (B, .own 5 (.ints .u8 (xL O R l bu k))), (768, .blk 74 [.ptr 576 0, .row (B + 1), .v (.int .i64 (xE O R l bu k)), .v (.bool (xR O R l bu k))]), (B + 1, .ownp 22 (B + 2)), (B + 2, .pool (xX O R l bu k)), (B + 3, .ownq 64 3 (B + 4)), (B + 4, .dpool txD (xQ O R l bu k) none)], fun k => k ≤ l.length ∧ xF l k = true, fun k => l.length - k, 0⟩, ⟨Nat, [7, 11, 16], [], fun B r => [(17, .v (.int .i64 (r : Nat)))], fun B r => [], fun r => r ≤ (xX O R l bu l.length).length, fun r => (xX O R l bu l.length).length - r, 0⟩] | _ => []) Try.func7 (by kernel_rfl) (by kernel_rfl) rfl Try.ntmps7 (by decide) ?_ ?_
 ·intro ds p bs F h
  unfold g_gtxs at h
  split at h
  ·rename_i l bu mo
   simp only [zsI, zpI] at h
   obtain ⟨_, _, rfl⟩ := h
   kernel_rfl
  ·cases h
 ·intro ds bs F hl h
  unfold g_gtxs at h
  split at h
  ·rename_i l bu mo
   simp only [zsI, zpI, zaT] at h
   obtain ⟨⟨⟨h0, h1⟩, h2⟩, _, rfl⟩ := h
   exact Eq.mpr (by kernel_rfl) (vc_gtxs O R l bu mo (fo_oo O hO) hR (by subst hO; exact sb_oo) (by first | exact h0 | (simp only [zaT]; exact h0)) (by first | exact h1 | (simp only [zaT]; exact h1)) (by first | exact h2 | (simp only [zaT]; exact h2)))
  ·cases h
end Go.Proofs.Ytaohpdhhbnempaa
