/- Log: what the laws call besides the log; LogTorn: by the symbolic machine (printed by genLg3.py; VCs by VcTool). -/
import Derived.Test.YtaohpdhhbnempaaDoorLg2
import Derived.Test.YtaohpdhhbnempaaDoorLt
import Derived.Test.YtaohpdhhbnempaaDoorCq
namespace Go.Proofs.YtaohpdhhbnempaaDoor
open Go.RowKit Go.Lib Ckp Cfd Cpd Sx
set_option linter.unusedVariables false
set_option linter.unusedSimpArgs false
set_option maxRecDepth 1000000
def I0 : Sx.Interp := ⟨fun _ _ _ _ _ => False, fun _ _ _ _ _ _ _ h => h, fun _ => True, fun _ => False, fun _ _ _ h => h⟩
def sameR (a b : List (List Int)) : Bool := bif Nat.beq a.length b.length then (List.range a.length).all fun i => strE (a.getD i []) (b.getD i []) else false
def fwE (a : List (List Int)) : Bool := bif iLt 20 (a.length : Int) then false else (List.range a.length).all fun i => iLe ((a.getD i []).length : Int) 100
def isNilP : List SV → Bool
 | [.v (.pointer none)] => true
 | _ => false
/-- Where the rows end. -/
def tnE (O : OO) (R : OB) (a : List (List Int)) (k : Nat) : List Int := (List.range k).map fun j => ((tnB O R a (j + 1)).length : Int)
theorem few_all {l : List (List Int)} (h : fwE l = true) : l.length ≤ 20 ∧ ∀ x ∈ l, x.length ≤ 100 := by
 unfold fwE at h
 cases c : iLt 20 (l.length : Int)
 ·rw [c, cond_false, List.all_eq_true] at h
  simp only [iLt_f] at c
  refine ⟨by omega, fun x hx => ?_⟩
  obtain ⟨i, hi, rfl⟩ := List.mem_iff_getElem.1 hx
  have := h i (List.mem_range.2 hi)
  rw [List.getD_eq_getElem?_getD, List.getElem?_eq_getElem hi] at this
  simp only [iLe_t, Option.getD_some] at this
  omega
 ·rw [c] at h; cases h
theorem sameR_refl (a : List (List Int)) : sameR a a = true := by
 unfold sameR
 rw [show Nat.beq a.length a.length = true by rw [Nat.beq_eq], cond_true, List.all_eq_true]
 intro i hi
 exact beq_self_eq_true _
def g_gonil (O : OO) (R : OB) (ds : List Dt) : Option (Bool × List Bool × (List Bool → Post)) := match ds with
 | [.v (.pointer none)] => some (true, [], fun _ => ⟨[.v (.pointer none), .v (.int .i64 1)], []⟩)
 | _ => none
set_option maxHeartbeats 4000000 in
theorem vc_gonil (O : OO) (R : OB) (F : FO O) (hr : R = bO) (hS : SB O) :
 (Value.pointer none = Value.pointer none ∧ Value.int .i64 1 = Value.int .i64 1) ∧ True ∧ True := by
 exact ⟨⟨(by first | rfl | trivial), (by first | rfl | trivial)⟩, trivial, trivial⟩
theorem wpc_gonil (O : OO) (R : OB) (F : FO O) (hr : R = bO) (hS : SB O) : wpcI Tryd.prog (spG2 O R) Tryd.f5.ntmps [] (bodyOf Tryd.f5) 0 64 (envP (mks [.v] [.v (.pointer none)] 0).1 0) (mks [.v] [.v (.pointer none)] 0).2 (retP Tryd.prog Tryd.f5.results.toList 0 (⟨[.v (.pointer none), .v (.int .i64 1)], []⟩ : Post)) :=
 Eq.mpr (by kernel_rfl) (vc_gonil O R F hr hS)
theorem ok_gonil (I : Sx.Interp) (O : OO) (hO : O = oo) (R : OB) (hR : R = bO) : Sx.SpecOK I Tryd.prog 5 (pspec [.v] false (g_gonil O R)) := by
 refine spec_pI (spG2_ok I O hO R hR) (by kernel_rfl) (fun ds => match ds with | [.v (.pointer none)] => [] | _ => []) Tryd.func5 (by kernel_rfl) (by kernel_rfl) rfl Tryd.ntmps5 (by decide) ?_ ?_
 ·intro ds p bs F h
  unfold g_gonil at h
  split at h
  ·skip
   simp only [Option.some.injEq, Prod.mk.injEq] at h
   obtain ⟨_, _, rfl⟩ := h
   kernel_rfl
  ·cases h
 ·intro ds bs F hl h
  unfold g_gonil at h
  split at h
  ·skip
   simp only [Option.some.injEq, Prod.mk.injEq, Bool.and_eq_true] at h
   obtain ⟨_, _, rfl⟩ := h
   exact wpc_gonil O R  (fo_oo O hO) hR (by subst hO; exact sb_oo) 
  ·cases h
def g_smR (O : OO) (R : OB) (ds : List Dt) : Option (Bool × List Bool × (List Bool → Post)) := match ds with
 | [.rows a, .rows b] => some ((Nat.ble a.length 1000000), [], fun _ => ⟨[.v (.bool (sameR a b))], []⟩)
 | _ => none
def g_fewR (O : OO) (R : OB) (ds : List Dt) : Option (Bool × List Bool × (List Bool → Post)) := match ds with
 | [.rows a] => some (true, [], fun _ => ⟨[.v (.bool (fwE a))], []⟩)
 | _ => none
def spG3 (O : OO) (R : OB) (f : FuncId) : Option Sx.Spec := match f with
 | 5 => some (altS isNilP (pspec [.v] false (g_gonil O R)) (pspec [.obj 28 [.own 5 .u8, .v, .v]] true (g_gopen O R)))
 | 8 => some (pspec [.obj 52 [.obj 28 [.own 5 .u8, .v, .v], .ownps 26, .v, .v], .ro .u8] true (g_gapp O R))
 | 12 => some (pspec [.obj 52 [.obj 28 [.own 5 .u8, .v, .v], .ownps 26, .v, .v]] true (g_grows O R))
 | 19 => some (pspec [.robj 52 [.robj 28 [.ro .u8, .v, .v], .ros, .v, .v]] false (g_gbytes O R))
 | 18 => some (pspec [.robj 52 [.robj 28 [.ro .u8, .v, .v], .ros, .v, .v]] false (g_gbroken O R))
 | f => spG2 O R f
theorem spG3_ok (I : Sx.Interp) (O : OO) (hO : O = oo) (R : OB) (hR : R = bO) : ∀ f s, spG3 O R f = some s → Sx.SpecOK I Tryd.prog f s := by
 intro f s h
 unfold spG3 at h
 split at h
 · cases h; exact altS_ok (ok_gonil I O hO R hR) (ok_gopen I O hO R hR)
 · cases h; exact ok_gapp I O hO R hR
 · cases h; exact ok_grows I O hO R hR
 · cases h; exact ok_gbytes I O hO R hR
 · cases h; exact ok_gbroken I O hO R hR
 ·exact spG2_ok I O hO R hR _ s h
def g_small44 (l : List Value) : Option (Bool × Value) := match l with
 | [] => some (true, .bool true)
 | _ => none
theorem small44_calls (w : World) : Calls Tryd.prog 4 (List.toArray []) w fun e w' => e = .returned (.bool true) ∧ Fr (fun _ => False) w w' :=
 calls_real (I := I0) (spG3_ok I0 oo rfl bO rfl) (by kernel_rfl) [] Tryd.func4 (by kernel_rfl) rfl Tryd.ntmps4 (by decide) (Eq.mpr (by kernel_rfl : _ = (Value.bool true = Value.bool true)) rfl) w
theorem ok_small44 (I : Sx.Interp) : Sx.SpecOK I Tryd.prog 4 (Sx.vspec g_small44) := by
 refine Sx.spec_of_calls Tryd.func4 (by kernel_rfl) (by kernel_rfl) ?_
 intro l v hg w
 unfold g_small44 at hg
 split at hg
 ·simp only [Option.some.injEq, Prod.mk.injEq, true_and] at hg
  subst hg
  exact small44_calls w
 ·cases hg
def spG4 (O : OO) (R : OB) (f : FuncId) : Option Sx.Spec := match f with
 | 4 => some (Sx.vspec g_small44)
 | f => spG3 O R f
theorem spG4_ok (I : Sx.Interp) (O : OO) (hO : O = oo) (R : OB) (hR : R = bO) : ∀ f s, spG4 O R f = some s → Sx.SpecOK I Tryd.prog f s := by
 intro f s h
 unfold spG4 at h
 split at h
 · cases h; exact ok_small44 I
 ·exact spG3_ok I O hO R hR _ s h
def g_gtorn (O : OO) (R : OB) (ds : List Dt) : Option (Bool × List Bool × (List Bool → Post)) := match ds with
 | [.rows l, .v (.int .i64 n)] => some ((l.all byB), [], fun _ => ⟨[.v (.bool true)], []⟩)
 | _ => none
theorem rows_byB {w : World} {a : Option Addr} {len cap : Nat} {z : List (List Int)} (hr : IsRow2 w a len cap z) : (z.take len).all byB = true := by
 rw [List.all_eq_true]
 intro x hx
 rw [byB_iff]
 exact row2_bytes hr x (List.mem_of_mem_take hx)