/- Log: what the laws call besides the log; LogTorn: by the symbolic machine (printed by genLg3.py; VCs by VcTool). -/
import Derived.Test.YtaohpdhhbnempaaLg2
import Derived.Test.YtaohpdhhbnempaaLt
import Derived.Test.YtaohpdhhbnempaaCq
namespace Go.Proofs.Ytaohpdhhbnempaa
open Go.RowKit Go.Lib Ckp Cfd Cpd Sx
set_option linter.unusedVariables false
set_option linter.unusedSimpArgs false
set_option maxRecDepth 1000000
set_option maxHeartbeats 4000000
def I0 : Sx.Interp := ⟨fun _ _ _ _ _ => False, fun _ _ _ _ _ _ _ h => h, fun _ => True, fun _ => False, fun _ _ _ h => h⟩
def sameR (a b : List (List Int)) : Bool := bif Nat.beq a.length b.length then (List.range a.length).all fun i => strE (a.getD i []) (b.getD i []) else false
def fwE (a : List (List Int)) : Bool := bif iLt 20 (a.length : Int) then false else (List.range a.length).all fun i => iLe ((a.getD i []).length : Int) 100
def isNilP : List SV → Bool
 | [.v (.pointer none)] => true
 | _ => false
def tnE (O : OO) (R : OB) (a : List (List Int)) (k : Nat) : List Int := (List.range k).map fun j => ((tnB O R a (j + 1)).length : Int)
def g_gonil (O : OO) (R : OB) (ds : List Dt) : zG := match ds with
 | [.v (.pointer none)] => some (true, [], fun _ => ⟨[.v (.pointer none), .v (.int .i64 1)], []⟩)
 | _ => none
theorem vc_gonil (O : OO) (R : OB) (F : FO O) (hr : R = bO) (hS : SB O) :
 (Value.pointer none = Value.pointer none ∧ yI 1 = yI 1) ∧ True ∧ True := by
 exact ⟨⟨(by first | rfl | trivial), (by first | rfl | trivial)⟩, trivial, trivial⟩
theorem ok_gonil (I : Sx.Interp) (O : OO) (hO : O = oo) (R : OB) (hR : R = bO) : Sx.SpecOK I Try.prog 10 (pspec [.v] false (g_gonil O R)) := by
 refine spec_pI (spG2_ok I O hO R hR) (by kernel_rfl) (fun _ => []) Try.func10 (by kernel_rfl) (by kernel_rfl) rfl Try.ntmps10 (by decide) ?_ ?_
 ·intro ds p bs F h
  unfold g_gonil at h
  split at h
  ·skip
   simp only [zsI, zpI] at h
   obtain ⟨_, _, rfl⟩ := h
   kernel_rfl
  ·cases h
 ·intro ds bs F hl h
  unfold g_gonil at h
  split at h
  ·skip
   simp only [zsI, zpI, zaT] at h
   obtain ⟨_, _, rfl⟩ := h
   exact Eq.mpr (by kernel_rfl) (vc_gonil O R  (fo_oo O hO) hR (by subst hO; exact sb_oo) )
  ·cases h
def g_smR (O : OO) (R : OB) (ds : List Dt) : zG := match ds with
 | [.rows a, .rows b] => some ((Nat.ble a.length 1000000), [], fun _ => ⟨[.v (.bool (sameR a b))], []⟩)
 | _ => none
def g_fewR (O : OO) (R : OB) (ds : List Dt) : zG := match ds with
 | [.rows a] => some (true, [], fun _ => ⟨[.v (.bool (fwE a))], []⟩)
 | _ => none
def spG3 (O : OO) (R : OB) (f : FuncId) : Option Sx.Spec := match f with
 | 10 => some (altS isNilP (pspec [.v] false (g_gonil O R)) (pspec [.obj 28 [.own 5 .u8, .v, .v]] true (g_gopen O R)))
 | 16 => some (pspec [.obj 74 [.obj 28 [.own 5 .u8, .v, .v], .ownps 22, .v, .v], .ro .u8] true (g_gapp O R))
 | 13 => some (pspec [.obj 74 [.obj 28 [.own 5 .u8, .v, .v], .ownps 22, .v, .v]] true (g_grows O R))
 | 14 => some (pspec [.robj 74 [.robj 28 [.ro .u8, .v, .v], .ros, .v, .v]] false (g_gbytes O R))
 | 20 => some (pspec [.robj 74 [.robj 28 [.ro .u8, .v, .v], .ros, .v, .v]] false (g_gbroken O R))
 | f => spG2 O R f
theorem spG3_ok (I : Sx.Interp) (O : OO) (hO : O = oo) (R : OB) (hR : R = bO) : ∀ f s, spG3 O R f = some s → Sx.SpecOK I Try.prog f s := by
 intro f s h
 unfold spG3 at h
 split at h
 · cases h; exact altS_ok (ok_gonil I O hO R hR) (ok_gopen I O hO R hR)
 · cases h; exact ok_gapp I O hO R hR
 · cases h; exact ok_grows I O hO R hR
 · cases h; exact ok_gbytes I O hO R hR
 · cases h; exact ok_gbroken I O hO R hR
 ·exact spG2_ok I O hO R hR _ s h
def g_small44 (l : List Value) : Option (Bool × Value) := match l with
 | [] => some (true, .bool true)
 | _ => none
theorem small44_calls (w : World) : Calls Try.prog 8 (List.toArray []) w fun e w' => e = .returned (.bool true) ∧ Fr (fun _ => False) w w' :=
 calls_real (I := I0) (spG3_ok I0 oo rfl bO rfl) (by kernel_rfl) [] Try.func8 (by kernel_rfl) rfl Try.ntmps8 (by decide) (Eq.mpr (by kernel_rfl : _ = (Value.bool true = Value.bool true)) rfl) w
theorem ok_small44 (I : Sx.Interp) : Sx.SpecOK I Try.prog 8 (Sx.vspec g_small44) := by
 refine Sx.spec_of_calls Try.func8 (by kernel_rfl) (by kernel_rfl) ?_
 intro l v hg w
 unfold g_small44 at hg
 split at hg
 ·simp only [zsI, zpI, true_and] at hg
  subst hg
  exact small44_calls w
 ·cases hg
def spG4 (O : OO) (R : OB) (f : FuncId) : Option Sx.Spec := match f with
 | 8 => some (Sx.vspec g_small44)
 | f => spG3 O R f
theorem spG4_ok (I : Sx.Interp) (O : OO) (hO : O = oo) (R : OB) (hR : R = bO) : ∀ f s, spG4 O R f = some s → Sx.SpecOK I Try.prog f s := by
 intro f s h
 unfold spG4 at h
 split at h
 · cases h; exact ok_small44 I
 ·exact spG3_ok I O hO R hR _ s h
def g_gtorn (O : OO) (R : OB) (ds : List Dt) : zG := match ds with
 | [.rows l, .v (.int .i64 n)] => some ((l.all byB), [], fun _ => ⟨[.v (.bool true)], []⟩)
 | _ => none