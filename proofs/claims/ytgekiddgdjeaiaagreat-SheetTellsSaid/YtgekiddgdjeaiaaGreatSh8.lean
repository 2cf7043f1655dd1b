/- Sheet: small, and what a law calls (printed by genSh.py; VCs by VcTool). -/
import Derived.Test.YtgekiddgdjeaiaaGreatRowS
import Derived.Test.YtgekiddgdjeaiaaGreatSh7
import Derived.Deep.Slices
namespace Go.Proofs.YtgekiddgdjeaiaaGreat
open Go.ChangeShapes Go.WideShapes Go.RowKit Go.Lib Ckp Cfd Cpd Sx
set_option linter.unusedVariables false
set_option linter.unusedSimpArgs false
set_option maxRecDepth 1000000
theorem a04 {I : Sx.Interp} {P : Program} {f : FuncId} {ps : List Pat} {g : List Dt → Option (Bool × List Bool × (List Bool → Post))} (h : ag I P f (au ps false g)) {w : World} (ss : List Value) (F : Nat → Nat → Prop) {cs : List Sx.af} {xs : List SV} {ds : List Dt} {ns : List Nm} {v : Value}
  (hr : ∀ i c, cs[i]? = some c → ql (F i) w (ss.getD i undef) c) (hF : ∀ i c b, cs[i]? = some c → F i b → b < w.heap.size) (hx : SV.idss (fun i => Nat.blt i 8) xs = true) (hc8 : cs.length ≤ 8) (hp : pms (roM cs) ps xs = some (ds, ns)) (hap : apN ns = true) (hg : g ds = some (true, [], fun _ => ⟨[.v v], []⟩)) (ha : a7e I w := by first | assumption | exact And.intro trivial (fun _ h => h.elim)) :
  Calls P f (SV.dens ⟨fun _ => 0, fun i => ss.getD i undef, F⟩ xs).toArray w fun e w' => e = .returned v ∧ Fr (fun _ => False) w w' := by
 have hM : ∀ i r, roM cs i = some r → ∃ c, cs[i]? = some c ∧ r = .ro c := fun i r hi => by
  unfold roM at hi
  split at hi
  ·rename_i c hc; exact ⟨c, hc, (Option.some.inj hi).symm⟩
  ·cases hi
 refine (h.calls ⟨fun _ => 0, fun i => ss.getD i undef, F⟩ (fun i => Nat.blt i 8) (roM cs) xs w 64 ⟨fun i r hi => ?_, fun i r b hi hb => ?_, fun i j ri rj b hij hi hj hm => ?_⟩ (fun i r hi => ?_) hx (fun i hi => ?_) ⟨ha, fun b hb i r hi hmu => by obtain ⟨c, _, rfl⟩ := hM i r hi; cases hmu⟩ ?_).mono ?_
 ·obtain ⟨c, hc, rfl⟩ := hM i r hi
  exact hr i c hc
 ·obtain ⟨c, hc, rfl⟩ := hM i r hi
  exact hF i c b hc hb
 ·obtain ⟨c, hc, rfl⟩ := hM i ri hi
  cases hm
 ·obtain ⟨c, hc, rfl⟩ := hM i r hi
  have := (List.getElem?_eq_some_iff.1 hc).1
  exact ⟨by rw [Nat.blt_eq]; omega, rfl⟩
 ·unfold fresh at hi
  simp only [zaT, Nat.ble_eq] at hi
  rw [Bool.eq_false_iff]
  intro e
  rw [Nat.blt_eq] at e
  omega
 ·simp only [au, hp, hap, hg, Bool.not_false, Bool.true_or, Bool.and_self]
 ·rintro e w' ⟨γ', he, _, _, _, hfr⟩
  have ho : ((au ps false g).out xs (roM cs) 64).1 = .v v := by simp [Sx.Spec.out, au, hp, hg, SV.rens, SV.ren, xk]
  refine ⟨by rw [he, ho]; simp [SV.den], hfr.mono fun x _ hx => ?_⟩
  obtain ⟨i, q, _, hq, hm, _⟩ := hx
  obtain ⟨c, _, rfl⟩ := hM i q hq
  cases hm
theorem a2b : ∀ (ks : List IntKind) (zs : List Int), zs.length = ks.length → wfs ks zs → aj8 ks (aql ks zs) = true
 | [], [], _, _ => rfl
 | k :: ks, z :: zs, hl, hw => by
  have ih := a2b ks zs (by simpa using hl) hw.2
  have h1 := hw.1
  show (decide (k = k) && (bif decide (k = .u64) then inU z 18446744073709551616 else bif decide (k = .i64) then iLe (-9223372036854775808) z && iLe z 9223372036854775807 else true) && aj8 ks (aql ks zs)) = true
  rw [ih, decide_eq_true rfl]
  by_cases hu : k = .u64
  ·subst hu
   obtain ⟨n, b, rfl⟩ := amu h1
   simp only [decide_true, cond_true, ako b, Bool.and_self]
  ·by_cases hi : k = .i64
   ·subst hi
    have := bounds_i64 h1
    simp only [show decide (IntKind.i64 = .u64) = false from rfl, decide_true, cond_true, cond_false]
    simp only [zaT, Bz, Sx.af.n, Bool.true_and, Bool.and_true]; exact this
   ·simp [hu, hi]
theorem bib {zs : List Int} (hl : zs.length = chK.length) (hw : wfs chK zs) : chB (aql chK zs).toArray = true := a2b chK zs hl hw
end Go.Proofs.YtgekiddgdjeaiaaGreat

namespace Go.Proofs.YtgekiddgdjeaiaaGreat
open Go.RowKit Go.Lib Ckp Cfd Cpd Sx
set_option linter.unusedVariables false
set_option linter.unusedSimpArgs false
set_option maxRecDepth 1000000
def I0 : Sx.Interp := ⟨fun _ _ _ _ _ => False, fun _ _ _ _ _ _ _ h => h, fun _ => True, fun _ => False, fun _ _ _ h => h⟩
def a9t (O : OO) (Y : OY) (f : FuncId) : Option Sx.Spec := match f with
 | 16 => some (au [.agg [.v, .v, .v, .roS [.i64, .i64, .i64, .u64, .i64], .v], .agg [.v, .v, .v, .roS [.i64, .i64, .i64, .u64, .i64], .v]] false (at6 O Y))
 | 5 => some (au [.agg [.v, .v, .v, .roS [.i64, .i64, .i64, .u64, .i64], .v]] false (a1h O Y))
 | 30 => some (bz (alx O Y))
 | f => a8m O Y f
theorem awd (I : Sx.Interp) (O : OO) (hO : O = oo) (Y : OY) (hY : Y = yO O) : ∀ f s, a9t O Y f = some s → ag I Tryz.prog f s := by
 intro f s h
 unfold a9t at h
 split at h
 · cases h; exact bf7 I O hO Y hY
 · cases h; exact bl9 I O hO Y hY
 · cases h; exact bcl I O hO Y hY
 ·exact aio I O hO Y hY _ s h
def aks (l : List Value) : Option (Bool × Value) := match l with
 | [] => some (true, .bool true)
 | _ => none
theorem aqh (w : World) : Calls Tryz.prog 4 (List.toArray []) w fun e w' => e = .returned (.bool true) ∧ Fr (fun _ => False) w w' :=
 aos (I := I0) (awd I0 oo rfl (yO oo) rfl) (by kernel_rfl) [] Tryz.func4 (by kernel_rfl) rfl Tryz.ntmps4 (by decide) (Eq.mpr (by kernel_rfl : _ = (Value.bool true = Value.bool true)) rfl) w
theorem azg (I : Sx.Interp) : ag I Tryz.prog 4 (bz aks) := by
 refine uj Tryz.func4 (by kernel_rfl) (by kernel_rfl) ?_
 intro l v hg w
 unfold aks at hg
 split at hg
 ·simp only [zsI, zpI, true_and] at hg
  subst hg
  exact aqh w
 ·cases hg
def bdd (O : OO) (Y : OY) (f : FuncId) : Option Sx.Spec := match f with
 | 4 => some (bz aks)
 | f => a9t O Y f
theorem apz (I : Sx.Interp) (O : OO) (hO : O = oo) (Y : OY) (hY : Y = yO O) : ∀ f s, bdd O Y f = some s → ag I Tryz.prog f s := by
 intro f s h
 unfold bdd at h
 split at h
 · cases h; exact azg I
 ·exact awd I O hO Y hY _ s h
end Go.Proofs.YtgekiddgdjeaiaaGreat
