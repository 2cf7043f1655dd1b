/- Sheet: a law's arguments: a channel, a state (with its slice of conditions), and the call of a law whose contract is one of patterns. -/
import Derived.Test.YtgekiddgdjeaiaaRowS
import Derived.Test.YtgekiddgdjeaiaaSh7
import Derived.Deep.Slices
namespace Go.Proofs.Ytgekiddgdjeaiaa
open Go.ChangeShapes Go.WideShapes Go.RowKit Go.Lib Ckp Cfd Cpd Sx
set_option linter.unusedVariables false
set_option linter.unusedSimpArgs false
set_option maxRecDepth 1000000
theorem calls_pats {I : Sx.Interp} {P : Program} {f : FuncId} {ps : List Pat} {g : List Dt → Option (Bool × List Bool × (List Bool → Post))} (h : Sx.SpecOK I P f (pspec ps false g)) {w : World} (ss : List Value) (F : Nat → Nat → Prop) {cs : List Sx.Cont} {xs : List SV} {ds : List Dt} {ns : List Nm} {v : Value}
  (hr : ∀ i c, cs[i]? = some c → ReadsC (F i) w (ss.getD i undef) c) (hF : ∀ i c b, cs[i]? = some c → F i b → b < w.heap.size) (hx : SV.idss (fun i => Nat.blt i 8) xs = true) (hc8 : cs.length ≤ 8) (hp : pms (roM cs) ps xs = some (ds, ns)) (hap : apN ns = true) (hg : g ds = some (true, [], fun _ => ⟨[.v v], []⟩)) (ha : AmbW I w := by first | assumption | exact And.intro trivial (fun _ h => h.elim)) :
  Calls P f (SV.dens ⟨fun _ => 0, fun i => ss.getD i undef, F⟩ xs).toArray w fun e w' => e = .returned v ∧ Fr (fun _ => False) w w' := by
 have hM : ∀ i r, roM cs i = some r → ∃ c, cs[i]? = some c ∧ r = .ro c := fun i r hi => by
  unfold roM at hi
  split at hi
  ·rename_i c hc; exact ⟨c, hc, (Option.some.inj hi).symm⟩
  ·cases hi
 refine (h.calls ⟨fun _ => 0, fun i => ss.getD i undef, F⟩ (fun i => Nat.blt i 8) (roM cs) xs w 64 ⟨fun i r hi => ?_, fun i r b hi hb => ?_, fun i j ri rj b hij hi hj hm => ?_⟩ (fun i r hi => ?_) hx (fun i hi => ?_) ⟨ha, fun b hb i r hi hmu => by obtain ⟨c, _, rfl⟩ := hM i r hi; cases hmu⟩ ?_).mono ?_
 ·obtain ⟨c, hc, rfl⟩ := hM i r hi
  exact hr i c hc
 ·obtain ⟨c, hc, rfl⟩ := hM i r hi
  exact hF i c b hc hb
 ·obtain ⟨c, hc, rfl⟩ := hM i ri hi
  cases hm
 ·obtain ⟨c, hc, rfl⟩ := hM i r hi
  have := (List.getElem?_eq_some_iff.1 hc).1
  exact ⟨by rw [Nat.blt_eq]; omega, rfl⟩
 ·unfold fresh at hi
  simp only [Bool.and_eq_true, Nat.ble_eq] at hi
  rw [Bool.eq_false_iff]
  intro e
  rw [Nat.blt_eq] at e
  omega
 ·simp only [pspec, hp, hap, hg, Bool.not_false, Bool.true_or, Bool.and_self]
 ·rintro e w' ⟨γ', he, _, _, _, hfr⟩
  have ho : ((pspec ps false g).out xs (roM cs) 64).1 = .v v := by simp [Sx.Spec.out, pspec, hp, hg, SV.rens, SV.ren, tupled]
  refine ⟨by rw [he, ho]; simp [SV.den], hfr.mono fun x _ hx => ?_⟩
  obtain ⟨i, q, _, hq, hm, _⟩ := hx
  obtain ⟨c, _, rfl⟩ := hM i q hq
  cases hm
theorem chk_zip : ∀ (ks : List IntKind) (zs : List Int), zs.length = ks.length → wfs ks zs → chkL ks (zipV ks zs) = true
 | [], [], _, _ => rfl
 | k :: ks, z :: zs, hl, hw => by
  have ih := chk_zip ks zs (by simpa using hl) hw.2
  have h1 := hw.1
  show (decide (k = k) && (bif decide (k = .u64) then inU z 18446744073709551616 else bif decide (k = .i64) then iLe (-9223372036854775808) z && iLe z 9223372036854775807 else true) && chkL ks (zipV ks zs)) = true
  rw [ih, decide_eq_true rfl]
  by_cases hu : k = .u64
  ·subst hu
   obtain ⟨n, b, rfl⟩ := nat_u64 h1
   simp only [decide_true, cond_true, inU_of b, Bool.and_self]
  ·by_cases hi : k = .i64
   ·subst hi
    have := bounds_i64 h1
    simp only [show decide (IntKind.i64 = .u64) = false from rfl, decide_true, cond_true, cond_false]
    simp only [Bool.and_eq_true, Sx.Bz, Sx.Cont.n, Bool.true_and, Bool.and_true]; exact this
   ·simp [hu, hi]
theorem chB_zip {zs : List Int} (hl : zs.length = chK.length) (hw : wfs chK zs) : chB (zipV chK zs).toArray = true := chk_zip chK zs hl hw
end Go.Proofs.Ytgekiddgdjeaiaa
