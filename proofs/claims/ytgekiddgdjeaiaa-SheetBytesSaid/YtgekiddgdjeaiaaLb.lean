/- Sheet: how a law is called. -/
import Derived.Test.YtgekiddgdjeaiaaSh8
import Derived.Deep.Slices
namespace Go.Proofs.Ytgekiddgdjeaiaa
open Go.ChangeShapes Go.WideShapes Go.RowKit Go.Lib Ckp Cfd Cpd Sx
set_option linter.unusedVariables false
set_option linter.unusedSimpArgs false
set_option maxRecDepth 1000000
/-- A state: four numbers, and its conditions. -/
theorem open_state2 {H : Type} {enc : TypeId × Value → H} {P : Program} {w : World} {r : Reach} {base base' : Nat} {t l0 l3 e : TypeId} {fs : Array Field} {ks : List IntKind} {v : Value} {d : DataW H} {p : List MemPlace}
  (hu : P.underlying t = some (.struct fs)) (hc : P.cellsOf t = 5) (q0 : leafAt P 9 t 0 = some l0) (q1 : leafAt P 9 t 1 = some l0) (q2 : leafAt P 9 t 2 = some l0) (q4 : leafAt P 9 t 4 = some l0) (h0 : P.underlying l0 = some (.int .i64))
  (q3 : leafAt P 9 t 3 = some l3) (h3 : P.underlying l3 = some (.slice e)) (hk : Ckp.kindsOf P e = ks.map some) (ct : ∃ ts, P.cellTypes P.depth t = some ts ∧ ts.length = 5 ∧ ts[3]? = some l3)
  (hv : Value.okWide P w r base' t v) (h : DataW.Trod enc P w base (fun _ => true) true t v d p) :
  ∃ (no h0 h1 rt : Int) (a : Option Addr) (len cap : Nat) (zss : List (List Int)), v = .agg #[.int .i64 no, .int .i64 h0, .int .i64 h1, .slice a len cap, .int .i64 rt] ∧ ((-9223372036854775808 ≤ no ∧ no ≤ 9223372036854775807) ∧ (-9223372036854775808 ≤ h0 ∧ h0 ≤ 9223372036854775807) ∧ (-9223372036854775808 ≤ h1 ∧ h1 ≤ 9223372036854775807) ∧ (-9223372036854775808 ≤ rt ∧ rt ≤ 9223372036854775807)) ∧ IsRowS ks w a len cap zss ∧ ∀ x, a = some x → x.spot = none ∧ x.block < w.heap.size := by
 obtain ⟨cs, rfl, hsz⟩ := okWide_struct hu hv
 have hv' := hv
 simp only [Value.okWide, hu] at hv'
 obtain ⟨cs', e', _, hrow⟩ := hv'
 injection e' with e'
 subst e'
 obtain ⟨fuel, hf⟩ := h
 obtain ⟨no, c0, w0⟩ := trod_int_at q0 h0 hf
 obtain ⟨a0, c1, w1⟩ := trod_int_at q1 h0 hf
 obtain ⟨a1, c2, w2⟩ := trod_int_at q2 h0 hf
 obtain ⟨rt, c4, w4⟩ := trod_int_at q4 h0 hf
 obtain ⟨s, m, y, c3, hy⟩ := trod_leaf 9 t 3 l3 fuel _ _ q3 hf
 obtain ⟨a, len, cap, rfl⟩ : ∃ a len cap, s = Value.slice a len cap := by
  rcases Go.Deep.open_slice h3 hy with ⟨e, _⟩ | ⟨a, len, cap, _, _, _, _, e, _⟩
  ·exact ⟨none, 0, 0, by injection e⟩
  ·exact ⟨some a, len, cap, by injection e⟩
 have ht : DataW.Trod enc P w base (fun _ => true) true l3 (.slice a len cap) y.1 y.2 := ⟨m, hy⟩
 obtain ⟨zss, hz⟩ := open_rowS h3 hk ht
 have ec : (Value.agg cs).cells.toList = cs.toList := rfl
 rw [ec] at c0 c1 c2 c3 c4
 have hl : cs.toList = [.int .i64 no, .int .i64 a0, .int .i64 a1, .slice a len cap, .int .i64 rt] := by
  have hl5 : cs.toList.length = 5 := by simpa [hc] using hsz
  revert c0 c1 c2 c3 c4
  generalize cs.toList = L at *
  match L, hl5 with
  | [x0, x1, x2, x3, x4], _ => intro c0 c1 c2 c3 c4; simp at c0 c1 c2 c3 c4; rw [c0, c1, c2, c3, c4]
 refine ⟨no, a0, a1, rt, a, len, cap, zss, ?_, ⟨bounds_i64 w0, bounds_i64 w1, bounds_i64 w2, bounds_i64 w4⟩, hz, ?_⟩
 ·rw [← hl]
 ·obtain ⟨ts, t1, t2, t3⟩ := ct
  obtain ⟨ts', t1', _, hcell⟩ := hrow
  rw [t1] at t1'
  injection t1' with t1'
  subst t1'
  obtain ⟨u, hu3, hok⟩ := hcell 3 (.slice a len cap) (by rw [← c3]; simp)
  rw [t2, t3] at hu3
  injection hu3 with hu3
  subst hu3
  refine okWide_has' (len := len) (cap := cap) h3 (w := w) (r := r) (base := base') ?_
  simp only [Value.okWide, h3]
  exact hok
/-- So many elements. -/
def nrm (n : Nat) (x : List Int) : List Int := (List.range n).map fun j => x.getD j 0
theorem nrm_at {n : Nat} {x : List Int} {j : Nat} (h : j < n) : (nrm n x).getD j 0 = x.getD j 0 := by
 unfold nrm
 rw [List.getD_eq_getElem?_getD, List.getElem?_map, List.getElem?_range h]; rfl
theorem ec_congr : ∀ (ks : List IntKind) (xs ys : List Int) (c : Nat), (∀ j, c ≤ j → j < c + ks.length → xs.getD j 0 = ys.getD j 0) → ecellsFrom xs ks c = ecellsFrom ys ks c
 | [], _, _, _, _ => rfl
 | k :: ks, xs, ys, c, h => by
  show Value.int k (xs.getD c 0) :: ecellsFrom xs ks (c + 1) = Value.int k (ys.getD c 0) :: ecellsFrom ys ks (c + 1)
  rw [h c (Nat.le_refl _) (by simp), ec_congr ks xs ys (c + 1) fun j h1 h2 => h j (by omega) (by simp only [List.length_cons]; omega)]
theorem rowS_nrm {ks : List IntKind} {w : World} {a : Option Addr} {len cap : Nat} {zss : List (List Int)} (h : IsRowS ks w a len cap zss) : IsRowS ks w a len cap (zss.map (nrm ks.length)) := by
 rcases h with ⟨rfl, rfl, rfl, rfl⟩ | ⟨x, rfl, hl, hm, hz, hc⟩
 ·exact .inl ⟨rfl, rfl, rfl, rfl⟩
 ·refine .inr ⟨x, rfl, hl, hm, by rw [List.length_map]; exact hz, fun i hi => ?_⟩
  have eg : (zss.map (nrm ks.length)).getD i [] = nrm ks.length (zss.getD i []) := by
   rw [List.getD_eq_getElem?_getD, List.getD_eq_getElem?_getD, List.getElem?_map, List.getElem?_eq_getElem (by omega)]; rfl
  have ee : ecells ks (nrm ks.length (zss.getD i [])) = ecells ks (zss.getD i []) := by
   unfold ecells
   rw [ec_congr ks (nrm ks.length (zss.getD i [])) (zss.getD i []) 0 fun j _ h => nrm_at (by omega)]
  rw [eg, ee]
  refine ⟨(hc i hi).1, fun j k hk => ?_⟩
  have hj : j < ks.length := (List.getElem?_eq_some_iff.1 hk).1
  rw [nrm_at hj]
  exact (hc i hi).2 j k hk
def KCl : List IntKind := [.i64, .i64, .i64, .u64, .i64]
theorem cnd_iffL {l : List (List Int)} : cnd l = true ↔ ∀ x ∈ l, (inU (x.getD 3 0) 18446744073709551616 && Nat.beq x.length 5) = true := by unfold cnd; exact List.all_eq_true
/-- A state's conditions. -/
def nl (z : List (List Int)) (len : Nat) : List (List Int) := (z.map (nrm 5)).take len
theorem nl_cnd {w : World} {a : Option Addr} {len cap : Nat} {z : List (List Int)} (h : IsRowS KCl w a len cap z) : cnd (nl z len) = true := by
 rw [cnd_iffL]
 intro x hx
 have hx5 : x.length = 5 := by
  have := List.mem_of_mem_take hx
  obtain ⟨y, _, rfl⟩ := List.mem_map.1 this
  unfold nrm; simp
 obtain ⟨i, hi, rfl⟩ := List.getElem_of_mem hx
 have h3 := rowS_ok (rowS_nrm h) i hi 3 .u64 rfl
 rw [show ((z.map (nrm KCl.length)).take len).getD i [] = (nl z len)[i] from getD_at hi] at h3
 obtain ⟨n, b, e⟩ := nat_u64 h3
 rw [e, inU_of b, hx5]; rfl
theorem nl_len {w : World} {a : Option Addr} {len cap : Nat} {z : List (List Int)} (h : IsRowS KCl w a len cap z) : Nat.ble (nl z len).length 9223372036854775807 = true := by
 have := rowS_len (rowS_nrm h)
 rw [show (nl z len).length = len from this.1]; exact this.2
/-- A law with a state among its arguments. -/
theorem calls_st {f : FuncId} {ps : List Pat} {g : List Dt → Option (Bool × List Bool × (List Bool → Post))} (h : Sx.SpecOK I0 Try.prog f (pspec ps false g)) {w : World} {a : Option Addr} {len cap : Nat} {z : List (List Int)} (hr : IsRowS KCl w a len cap z) (hs : ∀ x, a = some x → x.spot = none ∧ x.block < w.heap.size)
  {xs : List SV} {ds : List Dt} {ns : List Nm} {v : Value} (hx : SV.idss (fun i => Nat.blt i 8) xs = true) (hp : pms (roM [.structs KCl (nl z len)]) ps xs = some (ds, ns)) (hap : apN ns = true) (hg : g ds = some (true, [], fun _ => ⟨[.v v], []⟩)) :
  Calls Try.prog f (SV.dens ⟨fun _ => 0, fun i => [Value.slice a len cap].getD i undef, fun _ b => ∃ x, a = some x ∧ x.block = b⟩ xs).toArray w fun e w' => e = .returned v ∧ Kp w w' := by
 refine (calls_pats h [Value.slice a len cap] (fun _ b => ∃ x, a = some x ∧ x.block = b) (cs := [.structs KCl (nl z len)]) (fun i c hi => ?_) (fun i c b hi hb => ?_) hx (by simp) hp hap hg).mono fun _ _ ⟨he, hf⟩ => ⟨he, fr_below hf⟩
 ·cases i with
  | zero =>
   simp only [List.getElem?_cons_zero, Option.some.injEq] at hi
   subst hi
   exact rowS_reads (by decide) (rowS_nrm hr) hs
  | succ i => simp at hi
 ·obtain ⟨x, rfl, rfl⟩ := hb
  exact (hs x rfl).2
end Go.Proofs.Ytgekiddgdjeaiaa
