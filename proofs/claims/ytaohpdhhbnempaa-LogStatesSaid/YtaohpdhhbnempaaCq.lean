/- A slice of slices of bytes that comes in as a law's argument, and the call of a law by patterns with such arguments. No statement of the program itself. -/
import Derived.Test.YtaohpdhhbnempaaRowS
namespace Go.Proofs.Ytaohpdhhbnempaa
open Go.ChangeShapes Go.WideShapes Go.RowKit Go.Lib Ckp Sx
set_option linter.unusedVariables false
set_option linter.unusedSimpArgs false
set_option maxRecDepth 1000000
/-- What a walk is told of a slice of slices of bytes that came in: its elements' bytes. -/
def IsRow2 (w : World) (a : Option Addr) (len cap : Nat) (zss : List (List Int)) : Prop :=
 (a = none ∧ len = 0 ∧ cap = 0 ∧ zss = []) ∨
 ∃ x, a = some x ∧ len ≤ cap ∧ cap ≤ maxLen ∧ zss.length = cap ∧ ∀ i, i < cap → ∃ b l c zs, w.cell? (x.add i) = some (.slice b l c) ∧ IsRow .u8 w b l c zs ∧ zss.getD i [] = zs.take l
theorem open_row2 {H : Type} {enc : TypeId × Value → H} {P : Program} {w : World} {base : Nat} {t e u : TypeId} {a : Option Addr} {len cap : Nat} {d : DataW H} {p : List MemPlace}
  (ht : P.underlying t = some (.slice e)) (he : P.underlying e = some (.slice u)) (hu : P.underlying u = some (.int .u8)) (hce : P.cellsOf e = 1) (hc : P.cellsOf u = 1) (h : DataW.Trod enc P w base (fun _ => true) true t (.slice a len cap) d p) : ∃ zss, IsRow2 w a len cap zss := by
 obtain ⟨fuel, hf⟩ := h
 rcases Go.Deep.open_slice1 ht hce hf with ⟨hcs, _⟩ | ⟨x, l, c, m, n, V, D, Pl, hcs, _, hl, hm, hmm, _, hx⟩
 ·simp [Value.cells] at hcs
  obtain ⟨rfl, rfl, rfl⟩ := hcs
  exact ⟨[], .inl ⟨rfl, rfl, rfl, rfl⟩⟩
 ·simp [Value.cells] at hcs
  obtain ⟨rfl, rfl, rfl⟩ := hcs
  simp only [_root_.if_true] at hmm
  subst hmm
  obtain ⟨Z, hZ⟩ := Go.Deep.choose_lt (α := List Int) (n := m) (p := fun i ys => ∃ b l c zs, w.cell? (x.add i) = some (.slice b l c) ∧ IsRow .u8 w b l c zs ∧ ys = zs.take l) (fun i hi => by
   obtain ⟨h1, h2⟩ := hx i hi
   obtain ⟨b, l, c, hv⟩ : ∃ b l c, V i = Value.slice b l c := by
    rcases Go.Deep.open_slice he h2 with ⟨e, _⟩ | ⟨b, l, c, _, _, _, _, e, _⟩
    ·exact ⟨none, 0, 0, by injection e⟩
    ·exact ⟨some b, l, c, by injection e⟩
   rw [hv] at h1 h2
   obtain ⟨zs, hz⟩ := open_row he hu hc ⟨n, h2⟩
   exact ⟨_, b, l, c, zs, h1, hz, rfl⟩)
  refine ⟨(List.range m).map Z, .inr ⟨x, rfl, hl, hm, by simp, fun i hi => ?_⟩⟩
  have eg : ((List.range m).map Z).getD i [] = Z i := by
   rw [List.getD_eq_getElem?_getD, List.getElem?_map, List.getElem?_range hi]
   rfl
  rw [eg]
  exact hZ i hi
theorem cell_there {w : World} {x : Addr} {v : Value} (h : w.cell? (x.add 0) = some v) : x.spot = none ∧ x.block < w.heap.size := by
 have h0 : x.add 0 = x := by unfold Addr.add; rw [if_pos rfl]
 rw [h0] at h
 unfold World.cell? at h
 split at h
 ·rename_i c t f hc
  refine ⟨?_, (Array.getElem?_eq_some_iff.1 hc).1⟩
  split at h
  ·cases h
  ·rename_i hs
   cases hx : x.spot with
   | none => rfl
   | some k => rw [hx] at hs; exact absurd rfl hs
 ·cases h
theorem row_readsK {k : IntKind} {w : World} {a : Option Addr} {len cap : Nat} {zs : List Int} (h : IsRow k w a len cap zs) : ReadsC (fun b => b < w.heap.size) w (.slice a len cap) (.ints k (zs.take len)) := by
 refine ⟨Cont.cells_length _, ?_⟩
 rcases h with ⟨rfl, rfl, rfl, rfl⟩ | ⟨x, rfl, hl, hm, hz, hc, hw⟩
 ·exact .inl ⟨rfl, rfl⟩
 ·have en : (zs.take len).length = len := by rw [List.length_take]; omega
  by_cases h0 : cap = 0
  ·have hl0 : len = 0 := by omega
   subst h0; subst hl0
   exact .inr (.inr ⟨x, rfl, by simp only [Cont.n, en]⟩)
  have hs := cell_there (hc 0 (by omega))
  refine .inr (.inl ⟨x, cap, by simp only [Cont.n, en], hs.2, hs.1, by simp only [Cont.n, en]; exact hl, hm, fun i u hu => ?_⟩)
  simp only [Cont.cells, List.getElem?_map, Option.map_eq_some_iff] at hu
  obtain ⟨y, hy, rfl⟩ := hu
  rw [List.getElem?_take] at hy
  split at hy
  ·obtain ⟨hi, rfl⟩ := List.getElem?_eq_some_iff.1 hy
   rw [hc i hi, List.getD_eq_getElem?_getD, List.getElem?_eq_getElem hi]
   rfl
  ·cases hy
theorem row_readsAny {w : World} {a : Option Addr} {len cap : Nat} {zs : List Int} (h : IsRow .u8 w a len cap zs) : ReadsC (fun b => b < w.heap.size) w (.slice a len cap) (.ints .u8 (zs.take len)) := row_readsK h
theorem row2_reads {w : World} {a : Option Addr} {len cap : Nat} {zss : List (List Int)} (h : IsRow2 w a len cap zss) (hs : ∀ x, a = some x → x.spot = none ∧ x.block < w.heap.size) :
  ReadsInN (fun b => b < w.heap.size) w (.slice a len cap) (zss.take len) := by
 rcases h with ⟨rfl, rfl, rfl, rfl⟩ | ⟨x, rfl, hl, hm, hz, hc⟩
 ·exact ⟨[], rfl, ⟨rfl, .inl ⟨rfl, rfl⟩⟩, fun i y xs hy _ => by simp at hy⟩
 ·have en : (zss.take len).length = len := by rw [List.length_take]; omega
  obtain ⟨V, hV⟩ := Go.Deep.choose_lt (α := Value) (n := cap) (p := fun i v => w.cell? (x.add i) = some v ∧ ∃ b l c zs, v = .slice b l c ∧ IsRow .u8 w b l c zs ∧ zss.getD i [] = zs.take l) (fun i hi => by
   obtain ⟨b, l, c, zs, h1, h2, h3⟩ := hc i hi
   exact ⟨_, h1, b, l, c, zs, rfl, h2, h3⟩)
  refine ⟨(List.range len).map V, by rw [List.length_map, List.length_range, en], ⟨by rw [List.length_map, List.length_range, en]; omega, .inr (.inl ⟨x, cap, by rw [en], (hs x rfl).2, (hs x rfl).1, by rw [en]; exact hl, hm, fun i u hu => ?_⟩)⟩, fun i y xs hy hx => ?_⟩
  ·rw [List.getElem?_map] at hu
   by_cases hi : i < len
   ·rw [List.getElem?_range hi] at hu
    cases hu
    exact (hV i (by omega)).1
   ·rw [List.getElem?_eq_none (by rw [List.length_range]; omega)] at hu; cases hu
  ·rw [List.getElem?_map] at hy
   by_cases hi : i < len
   ·rw [List.getElem?_range hi] at hy
    cases hy
    obtain ⟨_, b, l, c, zs, h1, h2, h3⟩ := hV i (by omega)
    rw [List.getElem?_take, if_pos hi] at hx
    have : zss.getD i [] = xs := by rw [List.getD_eq_getElem?_getD, hx]; rfl
    rw [h1, ← this, h3]
    exact row_readsAny h2
   ·rw [List.getElem?_eq_none (by rw [List.length_range]; omega)] at hy; cases hy
theorem row2_len {w : World} {a : Option Addr} {len cap : Nat} {zss : List (List Int)} (h : IsRow2 w a len cap zss) : (zss.take len).length = len ∧ Nat.ble len 9223372036854775807 = true := by
 rcases h with ⟨rfl, rfl, rfl, rfl⟩ | ⟨x, rfl, hl, hm, hz, hc⟩
 ·exact ⟨rfl, rfl⟩
 ·have hm' : cap ≤ 9223372036854775807 := hm
  exact ⟨by rw [List.length_take]; omega, Nat.ble_eq_true_of_le (by omega)⟩
/-- The elements are bytes. -/
theorem row2_bytes {w : World} {a : Option Addr} {len cap : Nat} {zss : List (List Int)} (h : IsRow2 w a len cap zss) : ∀ xs ∈ zss, ∀ x ∈ xs, 0 ≤ x ∧ x < 256 := by
 rcases h with ⟨rfl, rfl, rfl, rfl⟩ | ⟨x, rfl, hl, hm, hz, hc⟩
 ·intro xs hx; cases hx
 ·intro xs hx y hy
  obtain ⟨i, hi, rfl⟩ := List.mem_iff_getElem.1 hx
  obtain ⟨b, l, c, zs, _, h2, h3⟩ := hc i (by omega)
  have e : zss.getD i [] = zss[i] := by rw [List.getD_eq_getElem?_getD, List.getElem?_eq_getElem hi]; rfl
  rw [← e, h3] at hy
  have hy := List.mem_of_mem_take hy
  rcases h2 with ⟨_, _, _, rfl⟩ | ⟨_, _, _, _, _, _, hw⟩
  ·cases hy
  ·have := hw y hy
   have := bounds_u8 this
   omega
/-- The call of a law by patterns: its arguments' names are 0, 1, ..; each is a slice that nobody writes. -/
theorem calls_patsR {I : Sx.Interp} {P : Program} {f : FuncId} {ps : List Pat} {g : List Dt → Option (Bool × List Bool × (List Bool → Post))} {al : Bool} (h : Sx.SpecOK I P f (pspec ps al g)) {w : World} (ss : List Value) (F : Nat → Nat → Prop) (M : Nat → Option Res) {xs : List SV} {ds : List Dt} {ns : List Nm} {v : Value}
  (hr : ∀ i r, M i = some r → i < 8 ∧ ((∃ c, r = .ro c ∧ ReadsC (F i) w (ss.getD i undef) c) ∨ ∃ l, r = .ros l ∧ ReadsInN (F i) w (ss.getD i undef) l)) (hF : ∀ i b, F i b → b < w.heap.size) (hx : SV.idss (fun i => Nat.blt i 8) xs = true) (hp : pms M ps xs = some (ds, ns)) (hap : (apN ns && (!al || frzOk M (readIds ns))) = true) (hg : g ds = some (true, [], fun _ => ⟨[.v v], []⟩)) (ha : AmbW I w := by first | assumption | exact And.intro trivial (fun _ h => h.elim)) :
  Calls P f (SV.dens ⟨fun _ => 0, fun i => ss.getD i undef, F⟩ xs).toArray w fun e w' => e = .returned v ∧ Fr (fun _ => False) w w' := by
 have nomut : ∀ i r, M i = some r → r.mut = false := fun i r hi => by
  rcases (hr i r hi).2 with ⟨c, rfl, _⟩ | ⟨l, rfl, _⟩ <;> rfl
 refine (h.calls ⟨fun _ => 0, fun i => ss.getD i undef, F⟩ (fun i => Nat.blt i 8) M xs w 64 ⟨fun i r hi => ?_, fun i r b hi hb => ?_, fun i j ri rj b hij hi hj hm => ?_⟩ (fun i r hi => ?_) hx (fun i hi => ?_) ⟨ha, fun b hb i r hi hmu => by rw [nomut i r hi] at hmu; cases hmu⟩ ?_).mono ?_
 ·rcases (hr i r hi).2 with ⟨c, rfl, hc⟩ | ⟨l, rfl, hc⟩
  ·exact hc
  ·exact hc
 ·rcases (hr i r hi).2 with ⟨c, rfl, hc⟩ | ⟨l, rfl, hc⟩
  ·exact hF i b hb
  ·exact hF i b hb
 ·rw [nomut i ri hi] at hm; cases hm
 ·have h8 := (hr i r hi).1
  refine ⟨by rw [Nat.blt_eq]; exact h8, ?_⟩
  rcases (hr i r hi).2 with ⟨c, rfl, _⟩ | ⟨l, rfl, _⟩ <;> rfl
 ·unfold fresh at hi
  simp only [Bool.and_eq_true, Nat.ble_eq] at hi
  rw [Bool.eq_false_iff]
  intro e
  rw [Nat.blt_eq] at e
  omega
 ·simp only [pspec, hp, hap, hg]
 ·rintro e w' ⟨γ', he, _, _, _, hfr⟩
  have ho : ((pspec ps al g).out xs M 64).1 = .v v := by simp [Sx.Spec.out, pspec, hp, hg, SV.rens, SV.ren, tupled]
  refine ⟨by rw [he, ho]; simp [SV.den], hfr.mono fun x _ hx => ?_⟩
  obtain ⟨i, q, _, hq, hm, _⟩ := hx
  rw [nomut i q hq] at hm
  cases hm
end Go.Proofs.Ytaohpdhhbnempaa
