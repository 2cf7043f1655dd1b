/- A slice of structs that hold slices too, as a law's argument: opened to any depth; the call of a law by patterns with such arguments. No statement of the program itself. -/
import Derived.Test.YtaohpdhhbnempaaCq
namespace Go.Proofs.Ytaohpdhhbnempaa
open Go.ChangeShapes Go.WideShapes Go.RowKit Go.Lib Ckp Sx
set_option linter.unusedVariables false
set_option linter.unusedSimpArgs false
set_option maxRecDepth 1000000
def fitsD (P : Program) : Nat → TypeId → List DS → Bool
 | 0, _, _ => false
 | n + 1, e, fs => Nat.beq fs.length (P.cellsOf e) && Nat.blt 0 fs.length && (List.range fs.length).all fun j => match fs[j]?, leafAt P 9 e j with
  | some (.n k), some lt => (match P.underlying lt with | some (.int q) => decide (q = k) | _ => false)
  | some (.s gs), some lt => (match P.underlying lt with | some (.slice e') => fitsD P n e' gs | _ => false)
  | _, _ => false
def WfN : Nat → List DS → List (List DD) → Prop
 | 0, _, _ => True
 | d + 1, fs, l => ∀ k, k < l.length → (l.getD k []).length = fs.length ∧ ∀ (c : Nat) (f : DS), fs[c]? = some f → match f with
  | .n q => (Lit.int q (ddAt l k c).i).wf = true
  | .s gs => WfN d gs (ddAt l k c).l
section
variable {H : Type} {enc : TypeId × Value → H} {P : Program} {w : World} {base : Nat}
theorem getD_range_map {α : Type} (Z : Nat → α) {m i : Nat} {d : α} (hi : i < m) : ((List.range m).map Z).getD i d = Z i := by
 rw [List.getD_eq_getElem?_getD, List.getElem?_map, List.getElem?_range hi]; rfl
theorem open_deep : ∀ (n : Nat) (t e : TypeId) (fs : List DS) (fuel : Nat) (v : Value) (x : DataW H × List MemPlace), P.underlying t = some (.slice e) → fitsD P n e fs = true → DataW.trod enc P w base (fun _ => true) true fuel t [v] = some x →
  (∃ a len cap, v = .slice a len cap) ∧ ∃ l, DeepN (fun b => b < w.heap.size) w n fs v l ∧ WfN n fs l
 | 0, t, e, fs, fuel, v, x, ht, hf, h => by simp [fitsD] at hf
 | n + 1, t, e, fs, fuel, v, x, ht, hf, h => by
  unfold fitsD at hf
  simp only [zaT, Nat.blt_eq] at hf
  obtain ⟨⟨h1, h0⟩, hall⟩ := hf
  have hlen := zbE h1
  rw [List.all_eq_true] at hall
  rcases Go.Deep.open_slice ht h with ⟨hcs, _⟩ | ⟨a, len, cap, m, q, D, Pl, hcs, _, hl, hm, hmm, _, hx⟩
  ·simp only [List.cons.injEq, and_true] at hcs
   subst hcs
   exact ⟨⟨none, 0, 0, rfl⟩, [], ⟨[], ⟨by simp, .inl ⟨rfl, rfl⟩⟩, fun k c f hk => by simp at hk⟩, fun k hk => by simp at hk⟩
  ·simp only [List.cons.injEq, and_true] at hcs
   subst hcs
   refine ⟨⟨some a, len, cap, rfl⟩, ?_⟩
   simp only [_root_.if_true] at hmm
   subst hmm
   obtain ⟨Z, hZ⟩ := Go.Deep.choose_lt (α := List Value × List DD) (n := m) (p := fun i z => z.1.length = fs.length ∧ z.2.length = fs.length ∧ ∀ j, j < fs.length → w.cell? (a.add (i * fs.length + j)) = z.1[j]? ∧ ∀ f : DS, fs[j]? = some f → ∃ y, z.1[j]? = some y ∧ (match f with
     | .n k => y = .int k (z.2.getD j (.n 0)).i
     | .s gs => DeepN (fun b => b < w.heap.size) w n gs y (z.2.getD j (.n 0)).l) ∧ (match f with
     | .n k => (Lit.int k (z.2.getD j (.n 0)).i).wf = true
     | .s gs => WfN n gs (z.2.getD j (.n 0)).l)) (fun i hi => by
    obtain ⟨cs', c1, c2⟩ := hx i hi
    obtain ⟨_, c3, c4⟩ := World.cells?_some c1
    have cellj : ∀ j, j < fs.length → w.cell? (a.add (i * fs.length + j)) = cs'[j]? := fun j hj => by
     have := c4 j (by omega)
     rw [Go.Deep.add_add, ← hlen] at this
     exact this
    obtain ⟨Y, hY⟩ := Go.Deep.choose_lt (α := DD) (n := fs.length) (p := fun j dd => ∀ f : DS, fs[j]? = some f → ∃ y, cs'[j]? = some y ∧ (match f with
      | .n k => y = .int k dd.i
      | .s gs => DeepN (fun b => b < w.heap.size) w n gs y dd.l) ∧ (match f with
      | .n k => (Lit.int k dd.i).wf = true
      | .s gs => WfN n gs dd.l)) (fun j hj => by
     have hfit := hall j (List.mem_range.2 hj)
     rw [List.getElem?_eq_getElem hj] at hfit ⊢
     cases hfj : fs[j] with
     | n k =>
      rw [hfj] at hfit
      cases hlf : leafAt P 9 e j with
      | none => rw [hlf] at hfit; simp at hfit
      | some lt =>
       rw [hlf] at hfit
       simp only at hfit
       split at hfit
       ·rename_i k' hu
        have hk := of_decide_eq_true hfit
        subst hk
        obtain ⟨z, z1, z2⟩ := trod_int_at hlf hu c2
        refine ⟨.n z, fun f hf => ?_⟩
        simp only [zsI] at hf
        subst hf
        exact ⟨_, z1, rfl, z2⟩
       ·cases hfit
     | s gs =>
      rw [hfj] at hfit
      cases hlf : leafAt P 9 e j with
      | none => rw [hlf] at hfit; simp at hfit
      | some lt =>
       rw [hlf] at hfit
       simp only at hfit
       split at hfit
       ·rename_i e' hu
        obtain ⟨v', m', y, v1, v2⟩ := trod_leaf 9 e j lt q _ _ hlf c2
        obtain ⟨_, l', d1, d2⟩ := open_deep n lt e' gs m' v' y hu hfit v2
        refine ⟨.s l', fun f hf => ?_⟩
        simp only [zsI] at hf
        subst hf
        exact ⟨_, v1, d1, d2⟩
       ·cases hfit)
    refine ⟨(cs', (List.range fs.length).map Y), by rw [c3, hlen], by simp, fun j hj => ⟨cellj j hj, fun f hf => ?_⟩⟩
    rw [getD_range_map Y hj]
    exact hY j hj f hf)
   have hla : (((List.range m).map Z).map Prod.snd).length = m := by simp
   refine ⟨((List.range len).map fun i => (Z i).2), ⟨(List.range len).flatMap fun i => (Z i).1, ⟨?_, ?_⟩, fun k c f hk hf => ?_⟩, fun k hk => ?_⟩
   ·rw [flat_length (m := fs.length) _ fun i hi => (hZ i (by have := List.mem_range.1 hi; omega)).1]
    simp
   ·by_cases hc0 : m = 0
    ·have : len = 0 := by omega
     subst hc0; subst this
     exact .inr (.inr ⟨a, rfl, by simp⟩)
    ·have hc00 := (hZ 0 (by omega)).2.2 0 h0
     have hsome : ∃ v0, (Z 0).1[0]? = some v0 := by
      refine ⟨_, List.getElem?_eq_getElem (by rw [(hZ 0 (by omega)).1]; exact h0)⟩
     obtain ⟨v0, hv0⟩ := hsome
     rw [hv0] at hc00
     have hth := cell_there (w := w) (x := a) (by simpa using hc00.1)
     refine .inr (.inl ⟨a, m, by simp, hth.2, hth.1, by simpa using hl, hm, fun i u hu => ?_⟩)
     have hi : i < len * fs.length := by
      have := (List.getElem?_eq_some_iff.1 hu).1
      rw [flat_length (m := fs.length) _ fun i hi => (hZ i (by have := List.mem_range.1 hi; omega)).1] at this
      simpa using this
     obtain ⟨p, r, hp, hr, rfl⟩ : ∃ p r, p < len ∧ r < fs.length ∧ i = p * fs.length + r := ⟨i / fs.length, i % fs.length, (Nat.div_lt_iff_lt_mul h0).2 hi, Nat.mod_lt _ h0, (Nat.div_add_mod' i fs.length).symm⟩
     rw [flat_get (m := fs.length) _ p r p (fun i hi => (hZ i (by have := List.mem_range.1 hi; omega)).1) (List.getElem?_range hp) hr] at hu
     rw [((hZ p (by omega)).2.2 r hr).1]
     exact hu
   ·have hk : k < len := by simpa using hk
    have hc : c < fs.length := (List.getElem?_eq_some_iff.1 hf).1
    rw [flat_get (m := fs.length) _ k c k (fun i hi => (hZ i (by have := List.mem_range.1 hi; omega)).1) (List.getElem?_range hk) hc]
    obtain ⟨y, y1, y2, _⟩ := ((hZ k (by omega)).2.2 c hc).2 f hf
    refine ⟨y, y1, ?_⟩
    unfold ddAt
    rw [getD_range_map (fun i => (Z i).2) hk]
    exact y2
   ·have hk : k < len := by simpa using hk
    rw [getD_range_map (fun i => (Z i).2) hk]
    refine ⟨(hZ k (by omega)).2.1, fun c f hf => ?_⟩
    have hc : c < fs.length := (List.getElem?_eq_some_iff.1 hf).1
    obtain ⟨y, _, _, y3⟩ := ((hZ k (by omega)).2.2 c hc).2 f hf
    unfold ddAt
    rw [getD_range_map (fun i => (Z i).2) hk]
    exact y3
end
theorem calls_patsD {I : Sx.Interp} {P : Program} {f : FuncId} {ps : List Pat} {g : List Dt → Option (Bool × List Bool × (List Bool → Post))} {al : Bool} (h : Sx.SpecOK I P f (pspec ps al g)) {w : World} (ss : List Value) (F : Nat → Nat → Prop) (M : Nat → Option Res) {xs : List SV} {ds : List Dt} {ns : List Nm} {v : Value}
  (hr : ∀ i r, M i = some r → i < 8 ∧ r.mut = false ∧ (∀ p, r.ids p = true) ∧ ResOK I ⟨fun _ => 0, fun i => ss.getD i undef, F⟩ i w r ∧ ∀ b, r.foot ⟨fun _ => 0, fun i => ss.getD i undef, F⟩ i b → b < w.heap.size) (hx : SV.idss (fun i => Nat.blt i 8) xs = true) (hp : pms M ps xs = some (ds, ns)) (hap : (apN ns && (!al || frzOk M (readIds ns))) = true) (hg : g ds = some (true, [], fun _ => ⟨[.v v], []⟩)) (ha : AmbW I w := by first | assumption | exact And.intro trivial (fun _ h => h.elim)) :
  Calls P f (SV.dens ⟨fun _ => 0, fun i => ss.getD i undef, F⟩ xs).toArray w fun e w' => e = .returned v ∧ Fr (fun _ => False) w w' := by
 refine (h.calls ⟨fun _ => 0, fun i => ss.getD i undef, F⟩ (fun i => Nat.blt i 8) M xs w 64 ⟨fun i r hi => (hr i r hi).2.2.2.1, fun i r b hi hb => (hr i r hi).2.2.2.2 b hb, fun i j ri rj b hij hi hj hm => by rw [(hr i ri hi).2.1] at hm; cases hm⟩ (fun i r hi => ⟨by rw [Nat.blt_eq]; exact (hr i r hi).1, (hr i r hi).2.2.1 _⟩) hx (fun i hi => ?_) ⟨ha, fun b hb i r hi hmu => by rw [(hr i r hi).2.1] at hmu; cases hmu⟩ ?_).mono ?_
 ·unfold fresh at hi
  simp only [zaT, Nat.ble_eq] at hi
  rw [Bool.eq_false_iff]
  intro e
  rw [Nat.blt_eq] at e
  omega
 ·simp only [pspec, hp, hap, hg]
 ·rintro e w' ⟨γ', he, _, _, _, hfr⟩
  have ho : ((pspec ps al g).out xs M 64).1 = .v v := by simp [Sx.Spec.out, pspec, hp, hg, SV.rens, SV.ren, tupled]
  refine ⟨by rw [he, ho]; simp [SV.den], hfr.mono fun x _ hx => ?_⟩
  obtain ⟨i, q, _, hq, hm, _⟩ := hx
  rw [(hr i q hq).2.1] at hm
  cases hm
end Go.Proofs.Ytaohpdhhbnempaa
