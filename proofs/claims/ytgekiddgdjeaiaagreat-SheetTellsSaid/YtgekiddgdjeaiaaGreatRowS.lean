/- A slice of structs of integers that comes in as a law's argument; and a law with several slices among its arguments, for the symbolic machine. No statement of the program itself. -/
import Derived.Test.YtgekiddgdjeaiaaGreatSy
import Derived.Test.YtgekiddgdjeaiaaGreatLeaf
import Derived.Test.YtgekiddgdjeaiaaGreatArgs
import Derived.Deep.Slices
namespace Go.Proofs.YtgekiddgdjeaiaaGreat
open Go.ChangeShapes Go.WideShapes Go.RowKit Go.Lib Ckp Sx
set_option linter.unusedVariables false
set_option linter.unusedSimpArgs false
theorem bdz : ∀ (ks : List IntKind) (zs xs : List Int) (c : Nat), (∀ j, xs.getD (c + j) 0 = zs.getD j 0) → zs.length = ks.length → aql ks zs = gu xs ks c
 | [], zs, xs, c, _, _ => by cases zs <;> rfl
 | k :: ks, [], xs, c, _, hl => by simp at hl
 | k :: ks, z :: zs, xs, c, h, hl => by
  have h0 : xs.getD c 0 = z := h 0
  show Value.int k z :: aql ks zs = Value.int k (xs.getD c 0) :: gu xs ks (c + 1)
  rw [h0, bdz ks zs xs (c + 1) (fun j => by have := h (j + 1); rw [show c + 1 + j = c + (j + 1) by omega]; exact this) (by simpa using hl)]
theorem bez : ∀ (ks : List IntKind) (zs : List Int), wfs ks zs → zs.length = ks.length → ∀ j k, ks[j]? = some k → (Lit.int k (zs.getD j 0)).wf = true
 | [], _, _, _, j, k, h => by simp at h
 | q :: ks, [], _, hl, _, _, _ => by simp at hl
 | q :: ks, z :: zs, hw, hl, 0, k, h => by simp only [List.getElem?_cons_zero, zsI] at h; subst h; exact hw.1
 | q :: ks, z :: zs, hw, hl, j + 1, k, h => bez ks zs hw.2 (by simpa using hl) j k (by simpa using h)
def acf (ks : List IntKind) (w : World) (a : Option Addr) (len cap : Nat) (zss : List (List Int)) : Prop :=
 (a = none ∧ len = 0 ∧ cap = 0 ∧ zss = []) ∨
 ∃ x, a = some x ∧ len ≤ cap ∧ cap ≤ maxLen ∧ zss.length = cap ∧ ∀ i, i < cap → (∀ j v, (y7 ks (zss.getD i [])).toList[j]? = some v → w.cell? (x.add (i * ks.length + j)) = some v) ∧ ∀ j k, ks[j]? = some k → (Lit.int k ((zss.getD i []).getD j 0)).wf = true
theorem a6w {H : Type} {enc : TypeId × Value → H} {P : Program} {w : World} {base : Nat} {t e : TypeId} {ks : List IntKind} {a : Option Addr} {len cap : Nat} {d : DataW H} {p : List MemPlace}
  (ht : P.underlying t = some (.slice e)) (hk : Ckp.mf P e = ks.map some) (h : DataW.Trod enc P w base (fun _ => true) true t (.slice a len cap) d p) : ∃ zss, acf ks w a len cap zss := by
 obtain ⟨fuel, hf⟩ := h
 have hlen : ks.length = P.cellsOf e := by
  have := congrArg List.length hk
  simpa [Ckp.mf] using this.symm
 rcases Go.Deep.open_slice ht hf with ⟨hcs, _⟩ | ⟨x, l, c, m, n, D, Pl, hcs, _, hl, hm, hmm, _, hx⟩
 ·simp [Value.cells] at hcs
  obtain ⟨rfl, rfl, rfl⟩ := hcs
  exact ⟨[], .inl ⟨rfl, rfl, rfl, rfl⟩⟩
 ·simp [Value.cells] at hcs
  obtain ⟨rfl, rfl, rfl⟩ := hcs
  simp only [_root_.if_true] at hmm
  subst hmm
  obtain ⟨Z, hZ⟩ := Go.Deep.choose_lt (α := List Int) (n := m) (p := fun i zs => (∀ j v, (y7 ks zs).toList[j]? = some v → w.cell? (x.add (i * ks.length + j)) = some v) ∧ ∀ j k, ks[j]? = some k → (Lit.int k (zs.getD j 0)).wf = true) (fun i hi => by
   obtain ⟨cs', h1, h2⟩ := hx i hi
   obtain ⟨_, h3, h4⟩ := World.cells?_some h1
   obtain ⟨zs, z1, z2, z3⟩ := akt ks cs' (by rw [h3, hlen]) (fun j k hj => by
    have hj' : j < P.cellsOf e := by
     rw [← hlen]
     rcases Nat.lt_or_ge j ks.length with h | h
     ·exact h
     ·rw [List.getElem?_eq_none h] at hj; cases hj
    have e1 : (Ckp.mf P e)[j]? = some (some k) := by rw [hk]; simp [hj]
    have e2 : ap1 P e j = some k := by
     unfold Ckp.mf at e1
     simpa [hj'] using e1
    unfold ap1 at e2
    split at e2
    ·rename_i lt hlt
     split at e2
     ·rename_i k' hu
      injection e2 with e2
      subst e2
      exact aa0 hlt hu h2
     ·cases e2
    ·cases e2)
   refine ⟨zs, fun j v hv => ?_, bez ks zs z3 z1⟩
   have ez : cs' = (y7 ks zs).toList := by
    rw [z2, bdz ks zs zs 0 (fun j => by rw [Nat.zero_add]) z1]
    simp [y7]
   rw [← ez] at hv
   have hj : j < P.cellsOf e := by rw [← h3]; exact (List.getElem?_eq_some_iff.1 hv).1
   have := h4 j hj
   rw [Go.Deep.add_add, hv, ← hlen] at this
   exact this)
  refine ⟨(List.range m).map Z, .inr ⟨x, rfl, hl, hm, by simp, fun i hi => ?_⟩⟩
  have eg : ((List.range m).map Z).getD i [] = Z i := by
   rw [List.getD_eq_getElem?_getD, List.getElem?_map, List.getElem?_range hi]
   rfl
  rw [eg]
  exact hZ i hi
theorem ao1 {w : World} {ks : List IntKind} {a : Option Addr} {len cap : Nat} {zss : List (List Int)} (hk : 0 < ks.length) (h : acf ks w a len cap zss) (hs : ∀ x, a = some x → x.spot = none ∧ x.block < w.heap.size) :
  ql (fun b => ∃ x, a = some x ∧ x.block = b) w (.slice a len cap) (.structs ks (zss.take len)) := by
 refine ⟨af.cells_length _, ?_⟩
 rcases h with ⟨rfl, rfl, rfl, rfl⟩ | ⟨x, rfl, hl, hm, hz, hc⟩
 ·exact .inl ⟨rfl, rfl⟩
 ·have en : (zss.take len).length = len := by rw [List.length_take]; omega
  refine .inr (.inl ⟨x, cap, by simp only [af.n, en], ⟨x, rfl, rfl⟩, (hs x rfl).1, by simp only [af.n, en]; exact hl, hm, fun i u hu => ?_⟩)
  have hi : i < len * ks.length := by
   have := (List.getElem?_eq_some_iff.1 hu).1
   rw [af.cells_length] at this
   simpa only [af.n, af.sz, en] using this
  obtain ⟨q, r, hq, hr, rfl⟩ : ∃ q r, q < len ∧ r < ks.length ∧ i = q * ks.length + r := ⟨i / ks.length, i % ks.length, (Nat.div_lt_iff_lt_mul hk).2 hi, Nat.mod_lt _ hk, (Nat.div_add_mod' i ks.length).symm⟩
  have hcell := af.cell_get (.structs ks (zss.take len)) (i := q) (j := r) (by simp only [af.n, en]; exact hq) hr
  rw [show q * ks.length + r = q * (af.structs ks (zss.take len)).sz + r from rfl, hcell] at hu
  have eg : (zss.take len).getD q [] = zss.getD q [] := by
   rw [List.getD_eq_getElem?_getD, List.getD_eq_getElem?_getD, List.getElem?_take, if_pos hq]
  refine (hc q (by omega)).1 r u ?_
  simp only [af.at, eg] at hu
  simpa using hu
theorem ayp {w : World} {ks : List IntKind} {a : Option Addr} {len cap : Nat} {zss : List (List Int)} (h : acf ks w a len cap zss) : (zss.take len).length = len ∧ Nat.ble len 9223372036854775807 = true := by
 rcases h with ⟨rfl, rfl, rfl, rfl⟩ | ⟨x, rfl, hl, hm, hz, hc⟩
 ·exact ⟨rfl, rfl⟩
 ·have hm' : cap ≤ 9223372036854775807 := hm
  exact ⟨by rw [List.length_take]; omega, Nat.ble_eq_true_of_le (by omega)⟩
def okS (ks : List IntKind) (l : List (List Int)) : Prop := ∀ i, i < l.length → ∀ j k, ks[j]? = some k → (Lit.int k ((l.getD i []).getD j 0)).wf = true
theorem a2h {w : World} {ks : List IntKind} {a : Option Addr} {len cap : Nat} {zss : List (List Int)} (h : acf ks w a len cap zss) : okS ks (zss.take len) := by
 intro i hi j k hk
 have hl := (ayp h).1
 rw [hl] at hi
 rcases h with ⟨rfl, rfl, rfl, rfl⟩ | ⟨x, rfl, hl, hm, hz, hc⟩
 ·exact absurd hi (Nat.not_lt_zero _)
 ·have eg : (zss.take len).getD i [] = zss.getD i [] := by
   rw [List.getD_eq_getElem?_getD, List.getD_eq_getElem?_getD, List.getElem?_take, if_pos hi]
  rw [eg]
  exact (hc i (by omega)).2 j k hk
def roM (cs : List Sx.af) (i : Nat) : Option Res := match cs[i]? with
 | some c => some (.ro c)
 | none => none
theorem ak8 {P : Program} {w : World} {r : Reach} {base : Nat} {t e : TypeId} {a : Option Addr} {len cap : Nat} (ht : P.underlying t = some (.slice e)) (h : Value.okWide P w r base t (.slice a len cap)) : ∀ x, a = some x → x.spot = none ∧ x.block < w.heap.size := by
 rintro x rfl
 simp only [Value.okWide, ht, Cell.okWide, Cell.ok] at h
 obtain ⟨_, _, _, hs, row, cells, hsh, _⟩ := h
 refine ⟨hs, ?_⟩
 unfold World.shape? at hsh
 rcases Nat.lt_or_ge x.block w.heap.size with hlt | hge
 ·exact hlt
 ·rw [Array.getElem?_eq_none hge] at hsh
  cases hsh
end Go.Proofs.YtgekiddgdjeaiaaGreat
