/- Sheet: a law's arguments: a channel, a state (with its slice of conditions), and the call of a law whose contract is one of patterns. -/
import Derived.Test.YtgekiddgdjeaiaaRowS
import Derived.Test.YtgekiddgdjeaiaaSh7
import Derived.Deep.Slices
namespace Go.Proofs.Ytgekiddgdjeaiaa
open Go.ChangeShapes Go.WideShapes Go.RowKit Go.Lib Ckp Cfd Cpd Sx
set_option linter.unusedVariables false
set_option linter.unusedSimpArgs false
set_option maxRecDepth 1000000
theorem calls_pats {I : Sx.Interp} {P : Program} {f : FuncId} {ps : List Pat} {g : List Dt → Option (Bool × List Bool × (List Bool → Post))} (h : Sx.SpecOK I P f (pspec ps false g)) {w : World} (ss : List Value) (F : Nat → Nat → Prop) {cs : List Sx.Cont} {xs : List SV} {ds : List Dt} {ns : List Nm} {v : Value}
    (hr : ∀ i c, cs[i]? = some c → ReadsC (F i) w (ss.getD i undef) c) (hF : ∀ i c b, cs[i]? = some c → F i b → b < w.heap.size) (hx : SV.idss (fun i => Nat.blt i 8) xs = true) (hc8 : cs.length ≤ 8) (hp : pms (roM cs) ps xs = some (ds, ns)) (hap : apN ns = true) (hg : g ds = some (true, [], fun _ => ⟨[.v v], []⟩)) :
    Calls P f (SV.dens ⟨fun _ => 0, fun i => ss.getD i undef, F⟩ xs).toArray w fun e w' => e = .returned v ∧ Fr (fun _ => False) w w' := by
  have hM : ∀ i r, roM cs i = some r → ∃ c, cs[i]? = some c ∧ r = .ro c := fun i r hi => by
    unfold roM at hi
    split at hi
    · rename_i c hc; exact ⟨c, hc, (Option.some.inj hi).symm⟩
    · cases hi
  refine (h.calls ⟨fun _ => 0, fun i => ss.getD i undef, F⟩ (fun i => Nat.blt i 8) (roM cs) xs w 64 ⟨fun i r hi => ?_, fun i r b hi hb => ?_, fun i j ri rj b hij hi hj hm => ?_⟩ (fun i r hi => ?_) hx (fun i hi => ?_) ?_).mono ?_
  · obtain ⟨c, hc, rfl⟩ := hM i r hi
    exact hr i c hc
  · obtain ⟨c, hc, rfl⟩ := hM i r hi
    exact hF i c b hc hb
  · obtain ⟨c, hc, rfl⟩ := hM i ri hi
    cases hm
  · obtain ⟨c, hc, rfl⟩ := hM i r hi
    have := (List.getElem?_eq_some_iff.1 hc).1
    exact ⟨by rw [Nat.blt_eq]; omega, rfl⟩
  · unfold fresh at hi
    simp only [Bool.and_eq_true, Nat.ble_eq] at hi
    rw [Bool.eq_false_iff]
    intro e
    rw [Nat.blt_eq] at e
    omega
  · simp only [pspec, hp, hap, hg, Bool.not_false, Bool.true_or, Bool.and_self]
  · rintro e w' ⟨γ', he, _, _, _, hfr⟩
    have ho : ((pspec ps false g).out xs (roM cs) 64).1 = .v v := by simp [Sx.Spec.out, pspec, hp, hg, SV.rens, SV.ren, tupled]
    refine ⟨by rw [he, ho]; simp [SV.den], hfr.mono fun x _ hx => ?_⟩
    obtain ⟨i, q, _, hq, hm, _⟩ := hx
    obtain ⟨c, _, rfl⟩ := hM i q hq
    cases hm
/-- A state: four numbers, and its conditions. -/
theorem open_state {H : Type} {enc : TypeId × Value → H} {P : Program} {w : World} {r : Reach} {base : Nat} {t l0 l3 e : TypeId} {fs : Array Field} {ks : List IntKind} {v : Value} {d : DataW H} {p : List MemPlace}
    (hu : P.underlying t = some (.struct fs)) (hc : P.cellsOf t = 5) (q0 : leafAt P 9 t 0 = some l0) (q1 : leafAt P 9 t 1 = some l0) (q2 : leafAt P 9 t 2 = some l0) (q4 : leafAt P 9 t 4 = some l0) (h0 : P.underlying l0 = some (.int .i64))
    (q3 : leafAt P 9 t 3 = some l3) (h3 : P.underlying l3 = some (.slice e)) (hk : Ckp.kindsOf P e = ks.map some) (ct : ∃ ts, P.cellTypes P.depth t = some ts ∧ ts.length = 5 ∧ ts[3]? = some l3)
    (hv : Value.okWide P w r base t v) (h : DataW.Trod enc P w base (fun _ => true) true t v d p) :
    ∃ (no h0 h1 rt : Int) (a : Option Addr) (len cap : Nat) (zss : List (List Int)), v = .agg #[.int .i64 no, .int .i64 h0, .int .i64 h1, .slice a len cap, .int .i64 rt] ∧ ((-9223372036854775808 ≤ no ∧ no ≤ 9223372036854775807) ∧ (-9223372036854775808 ≤ h0 ∧ h0 ≤ 9223372036854775807) ∧ (-9223372036854775808 ≤ h1 ∧ h1 ≤ 9223372036854775807) ∧ (-9223372036854775808 ≤ rt ∧ rt ≤ 9223372036854775807)) ∧ IsRowS ks w a len cap zss ∧ ∀ x, a = some x → x.spot = none ∧ x.block < w.heap.size := by
  obtain ⟨cs, rfl, hsz⟩ := okWide_struct hu hv
  have hv' := hv
  simp only [Value.okWide, hu] at hv'
  obtain ⟨cs', e', _, hrow⟩ := hv'
  injection e' with e'
  subst e'
  obtain ⟨fuel, hf⟩ := h
  obtain ⟨no, c0, w0⟩ := trod_int_at q0 h0 hf
  obtain ⟨a0, c1, w1⟩ := trod_int_at q1 h0 hf
  obtain ⟨a1, c2, w2⟩ := trod_int_at q2 h0 hf
  obtain ⟨rt, c4, w4⟩ := trod_int_at q4 h0 hf
  obtain ⟨s, m, y, c3, hy⟩ := trod_leaf 9 t 3 l3 fuel _ _ q3 hf
  obtain ⟨a, len, cap, rfl⟩ : ∃ a len cap, s = Value.slice a len cap := by
    rcases Go.Deep.open_slice h3 hy with ⟨e, _⟩ | ⟨a, len, cap, _, _, _, _, e, _⟩
    · exact ⟨none, 0, 0, by injection e⟩
    · exact ⟨some a, len, cap, by injection e⟩
  have ht : DataW.Trod enc P w base (fun _ => true) true l3 (.slice a len cap) y.1 y.2 := ⟨m, hy⟩
  obtain ⟨zss, hz⟩ := open_rowS h3 hk ht
  have ec : (Value.agg cs).cells.toList = cs.toList := rfl
  rw [ec] at c0 c1 c2 c3 c4
  have hl : cs.toList = [.int .i64 no, .int .i64 a0, .int .i64 a1, .slice a len cap, .int .i64 rt] := by
    have hl5 : cs.toList.length = 5 := by simpa [hc] using hsz
    revert c0 c1 c2 c3 c4
    generalize cs.toList = L at *
    match L, hl5 with
    | [x0, x1, x2, x3, x4], _ => intro c0 c1 c2 c3 c4; simp at c0 c1 c2 c3 c4; rw [c0, c1, c2, c3, c4]
  refine ⟨no, a0, a1, rt, a, len, cap, zss, ?_, ⟨bounds_i64 w0, bounds_i64 w1, bounds_i64 w2, bounds_i64 w4⟩, hz, ?_⟩
  · rw [← hl]
  · obtain ⟨ts, t1, t2, t3⟩ := ct
    obtain ⟨ts', t1', _, hcell⟩ := hrow
    rw [t1] at t1'
    injection t1' with t1'
    subst t1'
    obtain ⟨u, hu3, hok⟩ := hcell 3 (.slice a len cap) (by rw [← c3]; simp)
    rw [t2, t3] at hu3
    injection hu3 with hu3
    subst hu3
    refine okWide_has' (len := len) (cap := cap) h3 (w := w) (r := r) (base := base) ?_
    simp only [Value.okWide, h3]
    exact hok
theorem chk_zip : ∀ (ks : List IntKind) (zs : List Int), zs.length = ks.length → wfs ks zs → chkL ks (zipV ks zs) = true
  | [], [], _, _ => rfl
  | k :: ks, z :: zs, hl, hw => by
    have ih := chk_zip ks zs (by simpa using hl) hw.2
    have h1 := hw.1
    show (decide (k = k) && (bif decide (k = .u64) then inU z 18446744073709551616 else bif decide (k = .i64) then iLe (-9223372036854775808) z && iLe z 9223372036854775807 else true) && chkL ks (zipV ks zs)) = true
    rw [ih, decide_eq_true rfl]
    by_cases hu : k = .u64
    · subst hu
      obtain ⟨n, b, rfl⟩ := nat_u64 h1
      simp only [decide_true, cond_true, inU_of b, Bool.and_self]
    · by_cases hi : k = .i64
      · subst hi
        have := bounds_i64 h1
        simp only [show decide (IntKind.i64 = .u64) = false from rfl, decide_true, cond_true, cond_false]
        simp only [Bool.and_eq_true, Bool.and_eq_true, Bool.or_eq_true, Sx.iLt_t, Sx.iLt_f, Sx.iLe_t, Sx.iLe_f, Sx.iEq_t, Sx.iEq_f, Sx.iBeq_t, Sx.iBeq_f, Sx.iBne_t, Sx.iBne_f, Nat.ble_eq, Nat.beq_eq, Sx.Cont.n, Bool.true_and, Bool.and_true]; exact this
      · simp [hu, hi]
theorem chB_zip {zs : List Int} (hl : zs.length = chK.length) (hw : wfs chK zs) : chB (zipV chK zs).toArray = true := chk_zip chK zs hl hw
end Go.Proofs.Ytgekiddgdjeaiaa
