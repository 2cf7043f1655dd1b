/- A symbolic machine over the model, and that what it reckons is so: no statement of the program itself. -/
import Derived.Test.YtaohpdhhbnempaaSx
import Derived.Laws.IdiomStrings
import Derived.Lib.AppendZeros
import Derived.MapKept
set_option linter.unusedVariables false
set_option linter.unusedSimpArgs false
/- append; and all operations together. -/
namespace Sx
open Go
set_option linter.unusedVariables false
set_option linter.unusedSimpArgs false
section
variable {I : Interp} {P : Program} {sp : FuncId → Option Spec} {N : Nat} {w0 : World} {S0 : Ft} {γ : Vn} {D : Nat → Bool} {E : Nat → Option SV} {M : Nat → Option Res} {a : Act} {w : World} {b : Nat} {o : Oper} {Q : Exit → Act → World → Prop} {r : Rec}
theorem cont_reads (hs : MSat I γ M w) {k : IntKind} {x : SV} {l : List Int} {rd : List Nat} (h : contOf M k x = some (l, rd)) :
  (x.den γ = .slice none 0 0 ∧ l = []) ∨ ∃ (ad : Addr) (cap : Nat), x.den γ = .slice (some ad) l.length cap ∧ ∀ j u, (l.map (Value.int k))[j]? = some u → w.cell? (ad.add j) = some u := by
 have ofRow : ∀ (i : Nat), x = .row i → (M i = some (.ro (.ints k l)) ∨ ∃ e, M i = some (.own e (.ints k l))) → (x.den γ = .slice none 0 0 ∧ l = []) ∨ ∃ (ad : Addr) (cap : Nat), x.den γ = .slice (some ad) l.length cap ∧ ∀ j u, (l.map (Value.int k))[j]? = some u → w.cell? (ad.add j) = some u := by
  rintro i rfl hM
  rcases reads_shape (row_reads hs hM) with ⟨h1, h2⟩ | ⟨ad, cap, h1, _, _, _, _, h2⟩
  ·exact .inl ⟨by simp [SV.den, h1], List.eq_nil_of_length_eq_zero h2⟩
  ·exact .inr ⟨ad, cap, by simp [SV.den, h1, Cont.n], h2⟩
 unfold contOf at h
 split at h
 ·simp only [zsI, zpI] at h
  exact .inl ⟨by simp [SV.den], h.1.symm⟩
 ·rename_i i
  split at h
  ·rename_i q l' hM
   split at h
   ·rename_i hq
    have := of_decide_eq_true hq
    subst this
    simp only [zsI, zpI] at h
    rw [h.1] at hM
    exact ofRow i rfl (.inl hM)
   ·cases h
  ·rename_i e q l' hM
   split at h
   ·rename_i hq
    have := of_decide_eq_true hq
    subst this
    simp only [zsI, zpI] at h
    rw [h.1] at hM
    exact ofRow i rfl (.inr ⟨_, hM⟩)
   ·cases h
  ·cases h
 ·rename_i i off n cap
  split at h
  ·rename_i t cs hM
   split at h
   ·rename_i l' hb hl
    simp only [zaT] at hb
    have h1 := zbL hb.2
    simp only [zsI, zpI] at h
    obtain ⟨rfl, rfl⟩ := h
    have hden := ints?_den hl γ
    have hlen : l'.length = n := by
     have : (SV.dens γ ((cs.drop off).take n)).length = l'.length := by rw [hden]; simp
     rw [dens_length] at this
     simp only [List.length_take, List.length_drop] at this
     omega
    have hg := hs.ok i _ hM
    simp only [ResOK] at hg
    refine .inr ⟨⟨γ.blk i, off, none⟩, cap, by simp [SV.den, hlen], fun j u hu => ?_⟩
    rw [← hden, dens_take, dens_drop, List.getElem?_take] at hu
    split at hu
    ·rw [List.getElem?_drop] at hu
     rw [add_off, cell_of_row w _ _ _ _ _ hg]
     simpa using hu
    ·cases hu
   ·cases h
  ·rename_i t m arr hM
   split at h
   ·rename_i l' hb hl
    simp only [zaT] at hb
    have h1 := zbL hb.2
    simp only [zsI, zpI] at h
    obtain ⟨rfl, rfl⟩ := h
    obtain ⟨hm, hg⟩ := hs.ok i _ hM
    have hden := ints?_den hl γ
    rw [dens_map_v] at hden
    have hlen : l'.length = n := by
     have : ((arr.toList.drop off).take n).length = l'.length := by rw [hden]; simp
     simp only [List.length_take, List.length_drop, Array.length_toList] at this
     omega
    refine .inr ⟨⟨γ.blk i, off, none⟩, cap, by simp [SV.den, hlen], fun j u hu => ?_⟩
    rw [← hden, List.getElem?_take] at hu
    split at hu
    ·rw [List.getElem?_drop] at hu
     rw [add_off, cell_of_row w _ _ _ _ _ hg]
     simpa using hu
    ·cases hu
   ·cases h
  ·cases h
 ·cases h
theorem strI_len (s : ByteArray) : (strI s).length = s.size := by simp [strI]
theorem run_first_str (s : ByteArray) (w : World) : (Builtin.firstCells 1 s.size (.string s)).run P w = .ok ((strI s).map (Value.int .u8)).toArray w := by
 simp only [Builtin.firstCells, Sem.run_pure]
 congr 1
 have hx : (s.extract 0 s.size) = s := by
  apply ByteArray.ext; simp
 rw [hx]
 apply Array.ext'
 simp [strI, Function.comp_def]
theorem append_str_run {t u e : TypeId} {ti : TypeInfo} {z : Value} (hu : P.underlying t = some (.slice e)) (huu : P.underlying u = some .string) (hti : P.info? e = some ti) (hz : ti.zero = some z) (hz1 : z.cells.size = 1) (hsz : ti.size = 1) (ty : TypeId) {v : Value} {n : Nat} {xs : List Value} (hown : w.ownsRow 0 e 1 v n xs)
  (s : ByteArray) (hbytes : (n + s.size) * ti.bytes ≤ 140737488355328) (h63 : n + s.size ≤ 9223372036854775807) :
  ∃ v' w', (Builtin.append_ #[t, u] ty #[v, .string s]).run P w = .ok v' w' ∧ w'.ownsRow 0 e 1 v' (n + s.size) (xs ++ (strI s).map (Value.int .u8)) ∧ w.grownBy w' v.ownBlock ∧ (v'.ownBlock = v.ownBlock ∨ v'.ownBlock = some w.heap.size) := by
 have hnl : ((strI s).map (Value.int .u8)).length = s.size := by simp [strI_len]
 have hlen : (xs ++ (strI s).map (Value.int .u8)).length = (n + s.size) * 1 := by rw [zlA, hown.1, hnl]; omega
 have hone : ∀ u ∈ (strI s).map (Value.int .u8), u.oneCell' = true := by simp [Value.oneCell']
 have h63' : ¬ (9223372036854775807 < ((n : Int) + (s.size : Int))) := by omega
 have grown : ∀ (old : Nat), old < n + s.size → ∀ (row : Option Nat),
   (w.drew.alloc (.cells (xs.toArray ++ ((strI s).map (Value.int .u8)).toArray ++ Builtin.zeroCells z.cells (grownCap w (n + s.size) old e - (n + s.size))) e)).ownsRow 0 e 1
    (.slice (some ⟨w.heap.size, 0, none⟩) (n + s.size) (grownCap w (n + s.size) old e)) (n + s.size) (xs ++ (strI s).map (Value.int .u8)) ∧
   w.grownBy (w.drew.alloc (.cells (xs.toArray ++ ((strI s).map (Value.int .u8)).toArray ++ Builtin.zeroCells z.cells (grownCap w (n + s.size) old e - (n + s.size))) e)) row := by
  intro old ho row
  have hge := grownCap_ge w (n + s.size) old e
  have hcm : grownCap w (n + s.size) old e ≤ maxLen := grownCap_le_maxLen w (n + s.size) old e (by simp only [maxLen]; omega)
  refine ⟨⟨hlen, .inr ⟨w.heap.size, _, _, rfl, Nat.zero_le _, heap_alloc_new w.drew _, hge, hcm, ?_, ?_⟩⟩, ⟨rfl, rfl, rfl, by simp, fun k hk _ => (alloc_old w.drew _ hk : _)⟩⟩
  ·have := hown.1
   simp only [Array.size_append, List.size_toArray, size_zeroCells, hz1, hnl]
   omega
  ·simp only [Array.toList_append, List.append_assoc]
   rw [← List.append_assoc, ← hlen]
   exact List.take_left
 rcases hown.2 with ⟨rfl, rfl⟩ | ⟨g, cap, cur, rfl, hbg, hg, hnc, hcm, hcs, htake⟩
 ·have hx : xs = [] := List.eq_nil_of_length_eq_zero (by simpa using hown.1)
  subst hx
  by_cases hm : s.size = 0
  ·have hs0 : strI s = [] := List.eq_nil_of_length_eq_zero (by rw [strI_len]; exact hm)
   refine ⟨.slice none 0 0, w, ?_, by rw [hs0, hm]; simpa using World.ownsRow_nil w 0 e 1, ⟨rfl, rfl, rfl, Nat.le_refl _, fun _ _ _ => rfl⟩, .inl rfl⟩
   simp [Builtin.append_, run_underlying hu, run_underlying huu, Go.sizeOf, typeInfo, hti, Builtin.lenOf, hm, Builtin.firstCells, hsz]
  ·have hr : (Builtin.append_ #[t, u] ty #[.slice none 0 0, .string s]).run P w = .ok (.slice (some ⟨w.heap.size, 0, none⟩) s.size (grownCap w s.size 0 e)) (w.drew.alloc (.cells (((strI s).map (Value.int .u8)).toArray ++ Builtin.zeroCells z.cells (grownCap w s.size 0 e - s.size)) e)) := by
    have h48' : ¬ (281474976710656 < Builtin.nextslicecap s.size 0 * ti.bytes) := by rw [nextslicecap_zero (by omega)]; simp only [Nat.zero_add] at hbytes; omega
    have h63'' : ¬ (9223372036854775807 < (s.size : Int)) := by omega
    have hf := run_first_str (P := P) s w.drew
    simp [Builtin.append_, run_underlying hu, run_underlying huu, Go.sizeOf, typeInfo, zeroValue, hti, hz, Builtin.lenOf, hm, h63'', h48', Question.forced, newRow, grownCap, run_firstCells_none, hsz, hf]
   have hgr := grown 0 (by omega) (Value.ownBlock (.slice none 0 0))
   simp only [Nat.zero_add, List.nil_append, Array.empty_append] at hgr ⊢
   exact ⟨_, _, hr, hgr.1, hgr.2, .inr rfl⟩
 ·by_cases hroom : n + s.size ≤ cap
  ·have hfit : n + ((strI s).map (Value.int .u8)).length ≤ cur.size := by rw [hnl, hcs]; omega
   have hst := run_storeCells_at P g n e ((strI s).map (Value.int .u8)) 0 cur w hg (by simpa using hfit) hone
   simp only [Nat.add_zero] at hst
   have hf := run_first_str (P := P) s w
   have hr : (Builtin.append_ #[t, u] ty #[.slice (some ⟨g, 0, none⟩) n cap, .string s]).run P w = .ok (.slice (some ⟨g, 0, none⟩) (n + s.size) cap) (w.setRow g (cur.toList.take n ++ (strI s).map (Value.int .u8) ++ cur.toList.drop (n + ((strI s).map (Value.int .u8)).length)).toArray) := by
    simp [Builtin.append_, run_underlying hu, run_underlying huu, Go.sizeOf, typeInfo, hti, Builtin.lenOf, hroom, hf, Addr.add_lit, hst, hsz]
   refine ⟨_, _, hr, ⟨hlen, .inr ⟨g, cap, _, rfl, hbg, setRow_heap w g cur _ e _ hg, hroom, hcm, ?_, ?_⟩⟩, ⟨rfl, rfl, rfl, by simp, fun k _ hk => setRow_other w g k _ (fun e => hk (by simp [Value.ownBlock, e]))⟩, .inl rfl⟩
   ·simp only [List.size_toArray, zlA, List.length_take, List.length_drop, Array.length_toList]
    omega
   ·have htake' : cur.toList.take n = xs := by simpa using htake
    rw [htake', ← hlen]
    exact List.take_left
  ·have hfo := run_firstCells_some (P := P) w.drew 1 n ⟨g, 0, none⟩ n cap xs hown.1 (by simpa using hown.cells (g := g) rfl)
   have hf := run_first_str (P := P) s w.drew
   have h48' : ¬ (281474976710656 < Builtin.nextslicecap (n + s.size) cap * ti.bytes) := by have := growslice_fits (need := n + s.size) (old := cap) (by omega) hbytes; omega
   have hr : (Builtin.append_ #[t, u] ty #[.slice (some ⟨g, 0, none⟩) n cap, .string s]).run P w = .ok (.slice (some ⟨w.heap.size, 0, none⟩) (n + s.size) (grownCap w (n + s.size) cap e)) (w.drew.alloc (.cells (xs.toArray ++ ((strI s).map (Value.int .u8)).toArray ++ Builtin.zeroCells z.cells (grownCap w (n + s.size) cap e - (n + s.size))) e)) := by
    simp [Builtin.append_, run_underlying hu, run_underlying huu, Go.sizeOf, typeInfo, zeroValue, hti, hz, Builtin.lenOf, hroom, h63', h48', Question.forced, newRow, grownCap, hsz, hf, hfo]
    congr 2
    apply Array.ext'
    simp [List.append_assoc]
   have hgr := grown cap (by omega) (Value.ownBlock (.slice (some ⟨g, 0, none⟩) n cap))
   exact ⟨_, _, hr, hgr.1, hgr.2, .inr rfl⟩
def AppX (P : Program) (w : World) (t u : TypeId) (k : IntKind) (vx : Value) (l2 : List Int) : Prop :=
 (u = t ∧ ((vx = .slice none 0 0 ∧ l2 = []) ∨ ∃ (ad : Addr) (cap : Nat), vx = .slice (some ad) l2.length cap ∧ ∀ j u, (l2.map (Value.int k))[j]? = some u → w.cell? (ad.add j) = some u)) ∨
 (P.underlying u = some .string ∧ ∃ s, vx = .string s ∧ k = .u8 ∧ l2 = strI s)
theorem contApp_reads (hs : MSat I γ M w) {t u : TypeId} {k : IntKind} {x : SV} {l : List Int} {rd : List Nat} (ht : appTy P t u x = true) (h : contApp M k x = some (l, rd)) : AppX P w t u k (x.den γ) l := by
 unfold contApp at h
 split at h
 ·rename_i s
  split at h
  ·rename_i hk
   simp only [zsI, zpI] at h
   refine .inr ⟨?_, s, by simp [SV.den], of_decide_eq_true hk, h.1.symm⟩
   simp only [appTy, isStrT] at ht
   split at ht
   ·assumption
   ·cases ht
  ·cases h
 ·rename_i x hx
  refine .inl ⟨?_, cont_reads hs h⟩
  unfold appTy at ht
  split at ht
  ·rename_i s; exact absurd rfl (hx s)
  ·exact (zbE ht).symm
theorem append_own_run {t u e : TypeId} {ti : TypeInfo} {z : Value} {k : IntKind} (hu : P.underlying t = some (.slice e)) (hti : P.info? e = some ti) (hz : ti.zero = some z) (hz1 : z.cells.size = 1) (hsz : ti.size = 1) (ty : TypeId) {v : Value} {l1 : List Int} (hown : w.ownsRow 0 e 1 v l1.length (l1.map (Value.int k)))
  {vx : Value} {l2 : List Int} (hx : AppX P w t u k vx l2)
  (hbytes : (l1.length + l2.length) * ti.bytes ≤ 140737488355328) (h63 : l1.length + l2.length ≤ 9223372036854775807) :
  ∃ v' w', (Builtin.append_ #[t, u] ty #[v, vx]).run P w = .ok v' w' ∧ w'.ownsRow 0 e 1 v' (l1.length + l2.length) ((l1 ++ l2).map (Value.int k)) ∧ w.grownBy w' v.ownBlock ∧ (v'.ownBlock = v.ownBlock ∨ v'.ownBlock = some w.heap.size) := by
 rcases hx with ⟨rfl, ⟨rfl, rfl⟩ | ⟨ad, cap, rfl, hc⟩⟩ | ⟨huu, s, rfl, rfl, rfl⟩
 ·have := run_append_owned_none (P := P) w 0 u ty e ti 1 hu hti v l1.length _ hown
  exact ⟨v, w, this, by simpa using hown, ⟨rfl, rfl, rfl, Nat.le_refl _, fun _ _ _ => rfl⟩, .inl rfl⟩
 ·obtain ⟨v', w', h1, h2, h3, _, h5⟩ := run_append_own_at (P := P) w 0 u ty e ti z 1 ti.bytes hu hti hz hsz rfl hz1 (by omega) v l1.length _ hown ad l2.length cap (l2.map (Value.int k)) (by simp) hc (by simp [Value.oneCell']) (by simp only [maxLen]; omega) hbytes (Nat.zero_le _)
  exact ⟨v', w', h1, by rw [List.map_append]; exact h2, h3, h5⟩
 ·rw [strI_len] at hbytes h63 ⊢
  obtain ⟨v', w', h1, h2, h3, h5⟩ := append_str_run (P := P) hu huu hti hz hz1 hsz ty hown s hbytes h63
  exact ⟨v', w', h1, by rw [List.map_append]; exact h2, h3, h5⟩
theorem own_low {e : TypeId} {sz n : Nat} {v : Value} {xs : List Value} (h : w.ownsRow 0 e sz v n xs) : ∀ g, v.ownBlock = some g → g < w.heap.size := fun g hg => (World.ownsRow.lt h g hg).2
theorem cellsApp_reads (hs : MSat I γ M w) {x : SV} {l : List SV} {rd : List Nat} (h : cellsApp M x = some (l, rd)) :
  (∃ (ad : Addr) (cap : Nat), x.den γ = .slice (some ad) l.length cap ∧ ∀ j u, (SV.dens γ l)[j]? = some u → w.cell? (ad.add j) = some u) ∧ (∀ v ∈ SV.dens γ l, v.oneCell' = true) := by
 unfold cellsApp at h
 split at h
 ·rename_i i off n cap
  split at h
  ·rename_i t cs hM
   split at h
   ·rename_i hb
    simp only [zaT] at hb
    obtain ⟨⟨⟨b1, b2⟩, b3⟩, b4⟩ := hb
    have h1 := zbL b3
    simp only [zsI, zpI] at h
    obtain ⟨rfl, rfl⟩ := h
    have hlen : ((cs.drop off).take n).length = n := by simp; omega
    refine ⟨⟨⟨γ.blk i, off, none⟩, cap, by rw [hlen]; simp [SV.den], fun j u hu => ?_⟩, onesM_den hs _ b4⟩
    have hg := hs.ok i _ hM
    simp only [ResOK] at hg
    have hj : j < n := by have := (List.getElem?_eq_some_iff.1 hu).1; rw [dens_length, hlen] at this; exact this
    rw [add_off, cell_of_row _ _ _ _ _ _ hg]
    rw [dens_eq, List.getElem?_map, List.getElem?_take, if_pos hj, List.getElem?_drop] at hu
    simpa [dens_eq, Nat.add_comm] using hu
   ·cases h
  ·cases h
 ·cases h
theorem append_cells_run {t e : TypeId} {ti : TypeInfo} {z : Value} (hu : P.underlying t = some (.slice e)) (hti : P.info? e = some ti) (hz : ti.zero = some z) (hz1 : z.cells.size = 1) (hsz : ti.size = 1) (ty : TypeId) {v : Value} {l1 l2 : List Value} (hown : w.ownsRow 0 e 1 v l1.length l1)
  {vx : Value} {ad : Addr} {cap : Nat} (hx : vx = .slice (some ad) l2.length cap) (hc : ∀ j u, l2[j]? = some u → w.cell? (ad.add j) = some u) (hone : ∀ v ∈ l2, v.oneCell' = true)
  (hbytes : (l1.length + l2.length) * ti.bytes ≤ 140737488355328) (h63 : l1.length + l2.length ≤ 9223372036854775807) :
  ∃ v' w', (Builtin.append_ #[t, t] ty #[v, vx]).run P w = .ok v' w' ∧ w'.ownsRow 0 e 1 v' (l1.length + l2.length) (l1 ++ l2) ∧ w.grownBy w' v.ownBlock ∧ (v'.ownBlock = v.ownBlock ∨ v'.ownBlock = some w.heap.size) := by
 rw [hx]
 obtain ⟨v', w', h1, h2, h3, _, h5⟩ := run_append_own_at (P := P) w 0 t ty e ti z 1 ti.bytes hu hti hz hsz rfl hz1 (by omega) v l1.length _ hown ad l2.length cap l2 (Nat.mul_one _).symm hc hone (by simp only [maxLen]; omega) hbytes (Nat.zero_le _)
 exact ⟨v', w', h1, h2, h3, h5⟩
theorem appCells_sound {c : Call} (ho : o.op = .call c) (hc : c.callee = .builtin .append) {t e : TypeId} {ti : TypeInfo} {z : Value} {s x : SV} (hT : c.argTypes = #[t, t]) (hA : c.args.map a.eval = #[s.den γ, x.den γ]) (hu : P.underlying t = some (.slice e)) (hti : P.info? e = some ti) (hz : ti.zero = some z) (hz1 : z.cells.size = 1) (hsz' : ti.size = 1) (h : appCells M b some none e ti.bytes s x = some r)
  (hs : Sat I N w0 S0 γ D E M a w) (hb : ∀ i, fresh b i = true → D i = false) (hd : ∀ x, o.dst = some x → x < N) (hr : RecIn D b r) (hxid : ∀ l rd, cellsApp M x = some (l, rd) → SV.idss D l = true) : o.wp P a w (Done I N w0 S0 γ D E M b o.dst r) Q := by
 have hbD : D b = false := hb b (fresh_self b)
 unfold appCells at h
 split at h
 ·rename_i l2 rd hl2
  obtain ⟨⟨ad, cap, hxv, hcell⟩, hone⟩ := cellsApp_reads hs.mem hl2
  have hid2 := hxid _ _ hl2
  split at h
  ·split at h
   ·rename_i hbn
    simp only [zaT] at hbn
    have b1 := zbL hbn.1
    have b2 := zbL hbn.2
    simp only [zsI] at h
    subst h
    obtain ⟨v', w', h1, h2, h3, h4⟩ := append_cells_run (P := P) (w := w) (vx := x.den γ) (ad := ad) (cap := cap) (l1 := []) (l2 := SV.dens γ l2) hu hti hz hz1 hsz' o.type (by simpa using World.ownsRow_nil w 0 e 1) (by rw [dens_length]; exact hxv) hcell hone (by simpa [dens_length] using b1) (by simpa [dens_length] using b2)
    simp only [List.nil_append, List.length_nil, Nat.zero_add, dens_length] at h2
    have hv' : ∀ g, v'.ownBlock = some g → g = w.heap.size := fun g hg => by
     rcases h4 with h4 | h4
     ·rw [h4] at hg; simp [Value.ownBlock] at hg
     ·rw [h4] at hg; simpa using hg.symm
    have hγ : Agree (D · = true) γ (γ.row' b v' (fun g => v'.ownBlock = some g)) := row'_agree hbD
    have hfr : Fr S0.w w w' := ⟨h3.os, h3.tape, h3.output, h3.size, fun y hy _ => h3.block y hy (by simp [Value.ownBlock])⟩
    refine done_gen hs hd hr hγ ?_ (hs.fr.trans hfr) ?_ (builtin_run ho hc (fun consts => ?_))
    ·refine msat_add (R := fun _ => False) hs.mem hs.mids hγ hbD h3.size (fun y hy _ => h3.block y hy (by simp [Value.ownBlock])) (fun _ _ _ _ _ h => h) ?_ (fun y hy => ?_)
     ·simp only [ResOK, row'_val, row'_foot]
      rw [SV.dens_agree hγ l2 hid2]
      exact ⟨h2, fun g => by simp⟩
     ·simp only [Res.foot, row'_foot] at hy
      exact ⟨own_low h2 y hy, .inr (by rw [hv' y hy]; exact Nat.le_refl _)⟩
    ·intro j q y hj hy
     obtain ⟨rfl, rfl⟩ := look_one hj
     simp only [Res.foot, row'_foot] at hy
     rw [hv' y hy]
     exact .inl hs.fr.size
    ·rw [hT, hA]
     simp only [SV.den] at h1 ⊢
     simp only [builtin, Sem.run_bind, h1, Result.andThen_ok, Sem.run_pure, row'_val]
   ·cases h
  ·rename_i i
   split at h
   ·rename_i e' l1 hM
    split at h
    case h_2 => cases h
    rename_i hqe
    split at h
    ·rename_i hbn
     simp only [zaT] at hbn hqe
     have b1 := zbL hbn.1
     have b2 := zbL hbn.2
     obtain ⟨he', hni⟩ := hqe
     have he'' := zbE he'
     subst he''
     simp only [zsI] at h
     subst h
     obtain ⟨hown, hfoot⟩ := hs.mem.ok i _ hM
     have hid1 : SV.idss D l1 = true := (hs.mids i _ hM).2
     obtain ⟨v', w', h1, h2, h3, h4⟩ := append_cells_run (P := P) (w := w) (vx := x.den γ) (ad := ad) (cap := cap) (l2 := SV.dens γ l2) hu hti hz hz1 hsz' o.type (by rw [dens_length]; exact hown) (by rw [dens_length]; exact hxv) hcell hone (by simpa [dens_length] using b1) (by simpa [dens_length] using b2)
     rw [dens_length, dens_length] at h2
     have hγ : Agree (D · = true) γ (γ.row' b v' (fun g => v'.ownBlock = some g)) := row'_agree hbD
     have hm1 : MSat I γ (updM [(i, .gone)] M) w := msat_write hs.mem hM rfl (Nat.le_refl _) (fun _ _ _ => rfl) trivial (fun x hx => hx.elim)
     have hget : ∀ j r, updM [(i, .gone)] M j = some r → (j = i ∧ r = .gone) ∨ (j ≠ i ∧ M j = some r) := by
      intro j r hj
      unfold updM at hj
      rw [look_cons] at hj
      split at hj
      ·rename_i e; subst e; simp only [Option.some_or, zsI] at hj; exact .inl ⟨rfl, hj.symm⟩
      ·rename_i e; exact .inr ⟨Ne.symm e, hj⟩
     have hmids1 : ∀ j r, updM [(i, .gone)] M j = some r → D j = true ∧ r.ids D = true := by
      intro j r hj
      rcases hget j r hj with ⟨rfl, rfl⟩ | ⟨_, hj'⟩
      ·exact ⟨(hs.mids j _ hM).1, rfl⟩
      ·exact hs.mids j r hj'
     have hfun : updM [(b, .ownc e' (l1 ++ l2)), (i, .gone)] M = updM [(b, .ownc e' (l1 ++ l2))] (updM [(i, .gone)] M) := by
      funext j
      unfold updM
      rw [look_cons, look_cons, look_cons]
      by_cases hj : b = j
      ·rw [if_pos hj, if_pos hj]; rfl
      ·rw [if_neg hj, if_neg hj]; rfl
     have hRow : ∀ g, (γ.val i).ownBlock = some g → w0.heap.size ≤ g ∨ S0.w g := fun g hg => hs.ownm i _ g hM rfl ((hfoot g).2 hg)
     refine done_gen hs hd hr hγ ?_ (hs.fr.trans' (T := fun g => (γ.val i).ownBlock = some g) ⟨h3.os, h3.tape, h3.output, h3.size, fun y hy hn => h3.block y hy (fun e => hn e.symm)⟩ (fun x hx => (hRow x hx).symm)) ?_ (builtin_run ho hc (fun consts => ?_))
     ·show MSat I _ (updM [(b, .ownc e' (l1 ++ l2)), (i, .gone)] M) w'
      rw [hfun]
      refine msat_add (R := fun g => (γ.val i).ownBlock = some g) hm1 hmids1 hγ hbD h3.size (fun y hy hn => h3.block y hy (fun e => hn e.symm)) (fun j r y hj hy hR => ?_) ?_ (fun y hy => ?_)
      ·rcases hget j r hj with ⟨rfl, rfl⟩ | ⟨hne, hj'⟩
       ·exact hy
       ·exact hs.mem.apart i j _ r y (Ne.symm hne) hM hj' rfl ((hfoot y).2 hR) hy
      ·simp only [ResOK, row'_val, row'_foot]
       have hid : SV.idss D (l1 ++ l2) = true := by rw [idss_eq] at hid1 hid2 ⊢; rw [List.all_append, hid1, hid2]; rfl
       rw [SV.dens_agree hγ _ hid, dens_append, zlA]
       exact ⟨h2, fun g => by simp⟩
      ·simp only [Res.foot, row'_foot] at hy
       refine ⟨own_low h2 y hy, ?_⟩
       rcases h4 with h4 | h4
       ·rw [h4] at hy; exact .inl hy
       ·rw [h4] at hy; right; have : w.heap.size = y := by simpa using hy
        omega
     ·intro j q y hj hy
      rw [look_cons] at hj
      split at hj
      ·rename_i e
       subst e
       simp only [zsI] at hj
       subst hj
       simp only [Res.foot, row'_foot] at hy
       rcases h4 with h4 | h4
       ·rw [h4] at hy; exact lift2 (hRow y hy)
       ·rw [h4] at hy
        have : w.heap.size = y := by simpa using hy
        subst this
        exact .inl hs.fr.size
      ·obtain ⟨rfl, rfl⟩ := look_one hj
       exact hy.elim
     ·rw [hT, hA]
      simp only [SV.den] at h1 ⊢
      simp only [builtin, Sem.run_bind, h1, Result.andThen_ok, Sem.run_pure, row'_val]
    ·cases h
   ·cases h
  ·cases h
 ·cases h
theorem msat_shareU (hs : MSat I γ M w) (hm : ∀ i r, M i = some r → D i = true ∧ r.ids D = true) {γ' : Vn} (hγ : Agree (D · = true) γ γ') {b : Nat} (hb : D b = false) {res : Res} (h2 : res.mut = false)
  (hok : ResOK I γ' b w res) (hfoot : ∀ x, res.foot γ' b x → ∃ i ri, M i = some ri ∧ ri.mut = false ∧ ri.foot γ i x) : MSat I γ' (updM [(b, res)] M) w := by
 have old : ∀ i r, i ≠ b → updM [(b, res)] M i = some r → M i = some r := fun i r hi h => by
  unfold updM at h; rw [look_cons, if_neg (Ne.symm hi)] at h; exact h
 have new : ∀ r, updM [(b, res)] M b = some r → r = res := fun r h => by
  unfold updM at h; rw [look_cons, if_pos rfl] at h; exact (Option.some.inj h).symm
 have footM : ∀ i r x, M i = some r → (r.foot γ' i x ↔ r.foot γ i x) := fun i r x h => by rw [foot_agree hγ (hm i r h).1 r]
 refine ⟨fun j r h => ?_, fun j r x h hx => ?_, fun j k rj rk x hjk hj hk hmut hx hy => ?_⟩
 ·by_cases hj : j = b
  ·subst hj; rw [new r h]; exact hok
  ·have h' := old j r hj h
   exact resOK_agree hγ (hm j r h').1 r (hm j r h').2 (hs.ok j r h')
 ·by_cases hj : j = b
  ·subst hj; rw [new r h] at hx
   obtain ⟨i, ri, hi, _, hx⟩ := hfoot x hx
   exact hs.low i ri x hi hx
  ·have h' := old j r hj h
   exact hs.low j r x h' ((footM j r x h').1 hx)
 ·by_cases hjb : j = b
  ·subst hjb; rw [new rj hj] at hmut; rw [h2] at hmut; cases hmut
  ·have hj' := old j rj hjb hj
   by_cases hkb : k = b
   ·subst hkb
    rw [new rk hk] at hy
    obtain ⟨i, ri, hi, h1, hy⟩ := hfoot x hy
    have hji : j ≠ i := fun e => by subst e; rw [hi] at hj'; cases hj'; rw [h1] at hmut; cases hmut
    exact hs.apart j i rj ri x hji hj' hi hmut ((footM j rj x hj').1 hx) hy
   ·have hk' := old k rk hkb hk
    exact hs.apart j k rj rk x hjk hj' hk' hmut ((footM j rj x hj').1 hx) ((footM k rk x hk').1 hy)
theorem sat_thaw (hs : Sat I N w0 S0 γ D E M a w) {r n : Nat} {old res : Res} {F : Nat → Prop} {v : Value} (hn : D n = false) (hr : M r = some old) (hmut : old.mut = true) (h2 : res.mut = false) (hF : ∀ y, F y → old.foot γ r y ∨ ∃ q rq, M q = some rq ∧ rq.mut = false ∧ rq.foot γ q y)
  (hid : ∀ p, res.ids p = true) (hfe : ∀ γ j, res.foot γ j = γ.foot j) (hok : ResOK I (γ.row' n v F) n w res) : Sat I N w0 S0 (γ.row' n v F) (fun j => D j || Nat.beq j n) E (updM [(n, res), (r, .gone)] M) a w := by
 have hγ : Agree (D · = true) γ (γ.row' n v F) := row'_agree hn
 have hDD : ∀ j, D j = true → (D j || Nat.beq j n) = true := fun j hj => by rw [hj]; rfl
 have hrD := (hs.mids r _ hr).1
 have hrn : r ≠ n := fun e => by subst e; rw [hn] at hrD; cases hrD
 have get : ∀ j q, updM [(n, res), (r, .gone)] M j = some q → (j = n ∧ q = res) ∨ (j = r ∧ q = .gone) ∨ (j ≠ n ∧ j ≠ r ∧ M j = some q) := by
  intro j q hj
  unfold updM at hj
  rw [look_cons] at hj
  split at hj
  ·rename_i e; simp only [Option.some_or, zsI] at hj; exact .inl ⟨e.symm, hj.symm⟩
  ·rename_i e
   rw [look_cons] at hj
   split at hj
   ·rename_i e2; simp only [Option.some_or, zsI] at hj; exact .inr (.inl ⟨e2.symm, hj.symm⟩)
   ·rename_i e2; simp only [look, Option.none_or] at hj; exact .inr (.inr ⟨fun h => e h.symm, fun h => e2 h.symm, hj⟩)
 have footM : ∀ i q x, M i = some q → (q.foot (γ.row' n v F) i x ↔ q.foot γ i x) := fun i q x h => by rw [foot_agree hγ (hs.mids i q h).1 q]
 have hres : ∀ x, res.foot (γ.row' n v F) n x → F x := fun x hx => by rw [hfe, row'_foot] at hx; exact hx
 refine ⟨fun t x h => ?_, fun t x h => ?_, ⟨fun j q h => ?_, fun j q x h hx => ?_, fun j k rj rk x hjk hj hk hm hx hy => ?_⟩, fun j q h => ?_, hs.fr, fun j q x h hx => ?_, hs.size, hs.defers, hs.amb⟩
 ·rw [SV.den_agree hγ x (hs.eids t x h)]; exact hs.env t x h
 ·exact SV.ids_mono hDD x (hs.eids t x h)
 ·rcases get j q h with ⟨rfl, rfl⟩ | ⟨rfl, rfl⟩ | ⟨_, _, h3⟩
  ·exact hok
  ·trivial
  ·exact resOK_agree hγ (hs.mids j q h3).1 q (hs.mids j q h3).2 (hs.mem.ok j q h3)
 ·rcases get j q h with ⟨rfl, rfl⟩ | ⟨rfl, rfl⟩ | ⟨_, _, h3⟩
  ·rcases hF x (hres x hx) with h1 | ⟨i, ri, hi, _, h1⟩
   ·exact hs.mem.low r old x hr h1
   ·exact hs.mem.low i ri x hi h1
  ·exact hx.elim
  ·exact hs.mem.low j q x h3 ((footM j q x h3).1 hx)
 ·rcases get j rj hj with ⟨_, e⟩ | ⟨_, e⟩ | ⟨_, hjr, hj2⟩
  ·rw [e, h2] at hm; cases hm
  ·rw [e] at hm; cases hm
  ·have hx2 := (footM j rj x hj2).1 hx
   rcases get k rk hk with ⟨e1, e2⟩ | ⟨_, e2⟩ | ⟨_, _, hk2⟩
   ·rw [e1, e2] at hy
    rcases hF x (hres x hy) with h1 | ⟨i, ri, hi, h3, h1⟩
    ·exact hs.mem.apart j r rj old x hjr hj2 hr hm hx2 h1
    ·have hji : j ≠ i := fun e => by rw [e, hi] at hj2; cases hj2; rw [h3] at hm; cases hm
     exact hs.mem.apart j i rj ri x hji hj2 hi hm hx2 h1
   ·rw [e2] at hy; exact hy.elim
   ·exact hs.mem.apart j k rj rk x hjk hj2 hk2 hm hx2 ((footM k rk x hk2).1 hy)
 ·rcases get j q h with ⟨rfl, rfl⟩ | ⟨rfl, rfl⟩ | ⟨_, _, h3⟩
  ·exact ⟨by simp, hid _⟩
  ·exact ⟨hDD _ hrD, rfl⟩
  ·have := hs.mids j q h3
   exact ⟨hDD _ this.1, by cases q <;> first | exact SV.idss_mono hDD _ this.2 | rfl⟩
 ·rcases get j q h with ⟨rfl, rfl⟩ | ⟨rfl, rfl⟩ | ⟨_, _, h3⟩
  ·rcases hF x (hres x hx) with h1 | ⟨i, ri, hi, h3, h1⟩
   ·exact lift2 (hs.ownm r old x hr hmut h1)
   ·exact hs.share hi h1 h2
  ·exact hx.elim
  ·exact hs.own j q x h3 ((footM j q x h3).1 hx)
theorem done_thaw {γ1 : Vn} {D1 : Nat → Bool} {M1 : Nat → Option Res} {d : Option Tmp} {r1 r2 : Rec} {a' : Act} {w' : World} (h : Done I N w0 S0 γ1 D1 E M1 b d r1 a' w') (hγ : Agree (D · = true) γ γ1) (hDD : ∀ j, D j = true → D1 j = true)
  (hboth : both D1 b = both D b) (hM : updM r1.effs M1 = updM r2.effs M) (hv : r1.v = r2.v) : Done I N w0 S0 γ D E M b d r2 a' w' := by
 obtain ⟨γ', h1, h2⟩ := h
 refine ⟨γ', hγ.trans (h1.mono hDD), ?_⟩
 rw [← hboth, ← hM, ← hv]
 exact h2
theorem updM_app (l m : Mem) (M : Nat → Option Res) : updM (l ++ m) M = updM l (updM m M) := by
 funext i; unfold updM; rw [look_append, Option.or_assoc]
theorem updM_nil (M : Nat → Option Res) : updM [] M = M := by funext j; unfold updM; simp [look]
structure PoolX (I : Interp) (γ : Vn) (D : Nat → Bool) (M : Nat → Option Res) (w w0 : World) (S0 : Ft) (v : Value) (l : List (List Int)) (rd : List Nat) (fz : List (Nat × Res)) (vs : List Value) (F : Nat → Prop) : Prop where
 len : vs.length = l.length
 src : (v = .slice none 0 0 ∧ l = []) ∨ ∃ (ad : Addr) (cap : Nat), v = .slice (some ad) l.length cap ∧ ∀ j u, vs[j]? = some u → w.cell? (ad.add j) = some u
 reads : ∀ (k : Nat) (y : Value) (xs : List Int), vs[k]? = some y → l[k]? = some xs → ReadsC F w y (.ints .u8 xs)
 sat : MSat I γ (updM fz M) w
 ids : ∀ j r, updM fz M j = some r → D j = true ∧ r.ids D = true
 foot : ∀ y, F y → ∃ q rq, updM fz M q = some rq ∧ rq.mut = false ∧ rq.foot γ q y
 keep : ∀ q rq, M q = some rq → rq.mut = false → updM fz M q = some rq
 away : ∀ i, rd.any (Nat.beq i) = false → updM fz M i = M i
 share : ∀ y, F y → w0.heap.size ≤ y ∨ S0.w y ∨ S0.r y
 eff : ∀ j r y, look fz j = some r → r.foot γ j y → w0.heap.size ≤ y ∨ S0.w y ∨ (r.mut = false ∧ S0.r y)
theorem pool_nz {γ : Vn} {D : Nat → Bool} (hs : Sat I N w0 S0 γ D E M a w) {v : Value} {l : List (List Int)} {rd : List Nat} {vs : List Value} {q : Nat} {rq : Res} (hq : M q = some rq) (hm : rq.mut = false) (h1 : vs.length = l.length)
  (h2 : (v = .slice none 0 0 ∧ l = []) ∨ ∃ (ad : Addr) (cap : Nat), v = .slice (some ad) l.length cap ∧ ∀ j u, vs[j]? = some u → w.cell? (ad.add j) = some u)
  (h3 : ∀ (k : Nat) (y : Value) (xs : List Int), vs[k]? = some y → l[k]? = some xs → ReadsC (rq.foot γ q) w y (.ints .u8 xs)) : PoolX I γ D M w w0 S0 v l rd [] vs (rq.foot γ q) :=
 ⟨h1, h2, h3, by rw [updM_nil]; exact hs.mem, by rw [updM_nil]; exact hs.mids, fun y hy => ⟨q, rq, by rw [updM_nil]; exact hq, hm, hy⟩, fun q rq h _ => by rw [updM_nil]; exact h, fun i _ => by rw [updM_nil],
  fun y hy => by
   rcases hs.own q rq y hq hy with h | h | h
   ·exact .inl h
   ·exact .inr (.inl h)
   ·exact .inr (.inr h.2),
  fun j r y h => by simp [look] at h⟩
theorem poolOf_reads (hs : Sat I N w0 S0 γ D E M a w) {x : SV} {l : List (List Int)} {rd : List Nat} {fz : List (Nat × Res)} (h : poolOf M x = some (l, rd, fz)) : ∃ vs F, PoolX I γ D M w w0 S0 (x.den γ) l rd fz vs F := by
 unfold poolOf at h
 split at h
 ·rename_i q
  split at h
  ·rename_i xss hM
   simp only [zsI, zpI] at h
   obtain ⟨rfl, rfl, rfl⟩ := h
   obtain ⟨vs, h1, h2, h3⟩ := hs.mem.ok q _ hM
   refine ⟨vs, _, pool_nz (rq := .ros xss) hs hM rfl h1 ?_ (fun k y xs hy hx => h3 k y xs hy hx)⟩
   rcases reads_shape h2 with ⟨e, h0⟩ | ⟨ad, cap, e, _, _, _, _, hc⟩
   ·exact .inl ⟨by simp [SV.den, e], List.length_eq_zero_iff.1 h0⟩
   ·exact .inr ⟨ad, cap, by simp [SV.den, e], hc⟩
  ·rename_i e j hM
   split at h
   ·rename_i xss hP
    simp only [zsI, zpI] at h
    obtain ⟨rfl, rfl, rfl⟩ := h
    obtain ⟨_, h1, _, h2, h3⟩ := pool_reads hs.mem hM hP
    refine ⟨_, _, pool_nz (rq := .pool xss) hs hP rfl h1 ?_ (fun k y xs hy hx => h3 k y xs hy hx)⟩
    rcases reads_shape h2 with ⟨e, h0⟩ | ⟨ad, cap, e, _, _, _, _, hc⟩
    ·exact .inl ⟨by simp [SV.den, e], List.length_eq_zero_iff.1 h0⟩
    ·exact .inr ⟨ad, cap, by simp [SV.den, e], hc⟩
   ·cases h
  ·cases h
 ·rename_i q off n cap
  split at h
  ·rename_i t r hM
   split at h
   ·rename_i hb
    simp only [zaT] at hb
    obtain ⟨⟨b1, b2⟩, b3⟩ := hb
    obtain rfl := zbE b1
    obtain rfl := zbE b2
    obtain rfl := zbE b3
    have hg := hs.mem.ok q _ hM
    simp only [ResOK] at hg
    have hsrc : (SV.sl q 0 1 1).den γ = .slice (some ⟨γ.blk q, 0, none⟩) 1 1 ∧ ∀ j u, [γ.val r][j]? = some u → w.cell? ((⟨γ.blk q, 0, none⟩ : Addr).add j) = some u := by
     refine ⟨by simp [SV.den], fun j u hu => ?_⟩
     rw [add_off, cell_of_row _ _ _ _ _ _ hg]
     simpa [SV.dens, SV.den] using hu
    split at h
    ·rename_i l0 hR
     simp only [zsI, zpI] at h
     obtain ⟨rfl, rfl, rfl⟩ := h
     refine ⟨[γ.val r], _, pool_nz (rq := .ro (.ints .u8 l0)) hs hR rfl rfl (.inr ⟨_, _, hsrc.1, hsrc.2⟩) (fun k y xs hy hx => ?_)⟩
     obtain rfl : k = 0 := by have := (List.getElem?_eq_some_iff.1 hy).1; simpa using this
     simp only [List.getElem?_cons_zero, zsI] at hy hx
     subst hy hx
     exact row_reads hs.mem (.inl hR)
    ·rename_i e0 l0 hR
     simp only [zsI, zpI] at h
     obtain ⟨rfl, rfl, rfl⟩ := h
     have hget : ∀ j rj, updM [(r, .ro (.ints .u8 l0))] M j = some rj → (j = r ∧ rj = .ro (.ints .u8 l0)) ∨ (j ≠ r ∧ M j = some rj) := by
      intro j rj hj
      unfold updM at hj
      rw [look_cons] at hj
      split at hj
      ·rename_i e; subst e; simp only [Option.some_or, zsI] at hj; exact .inl ⟨rfl, hj.symm⟩
      ·rename_i e; exact .inr ⟨Ne.symm e, hj⟩
     have hne : ∀ j, j ≠ r → updM [(r, .ro (.ints .u8 l0))] M j = M j := fun j hj => by
      unfold updM; rw [look_cons, if_neg (Ne.symm hj)]; rfl
     have hself : updM [(r, .ro (.ints .u8 l0))] M r = some (.ro (.ints .u8 l0)) := by unfold updM; rw [look_cons, if_pos rfl]; rfl
     have hRR := row_reads hs.mem (.inr ⟨_, hR⟩)
     refine ⟨[γ.val r], γ.foot r, ⟨rfl, .inr ⟨_, _, hsrc.1, hsrc.2⟩, fun k y xs hy hx => ?_, msat_write hs.mem hR rfl (Nat.le_refl _) (fun _ _ _ => rfl) hRR (fun x hx => hx), fun j rj hj => ?_, fun y hy => ⟨r, _, hself, rfl, hy⟩, fun q' rq' hq' hm' => ?_, fun i hi => ?_, fun y hy => ?_, fun j rj y hj hy => ?_⟩⟩
     ·obtain rfl : k = 0 := by have := (List.getElem?_eq_some_iff.1 hy).1; simpa using this
      simp only [List.getElem?_cons_zero, zsI] at hy hx
      subst hy hx
      exact hRR
     ·rcases hget j rj hj with ⟨rfl, rfl⟩ | ⟨_, hj'⟩
      ·exact ⟨(hs.mids j _ hR).1, rfl⟩
      ·exact hs.mids j rj hj'
     ·rw [hne q' (fun e => by subst e; rw [hR] at hq'; cases hq'; cases hm')]; exact hq'
     ·refine hne i fun e => ?_
      subst e
      simp at hi
     ·rcases hs.own r _ y hR hy with h | h | h
      ·exact .inl h
      ·exact .inr (.inl h)
      ·cases h.1
     ·obtain ⟨rfl, rfl⟩ := look_one hj
      exact hs.share hR hy rfl
    ·cases h
   ·cases h
  ·cases h
 ·cases h
theorem appTo_sound {c : Call} (ho : o.op = .call c) (hc : c.callee = .builtin .append) {t e : TypeId} {ti : TypeInfo} {z : Value} {i : Nat} {x : SV} (hT : c.argTypes = #[t, t]) (hA : c.args.map a.eval = #[(SV.row i).den γ, x.den γ]) (hu : P.underlying t = some (.slice e)) (hti : P.info? e = some ti) (hz : ti.zero = some z) (hz1 : z.cells.size = 1) (hsz' : ti.size = 1)
  {e' : TypeId} {l1 : List (List Int)} {rd1 : List Nat} {p : List (List Int) × List Nat × List (Nat × Res)} (h : appTo b some none e ti.bytes i e' l1 rd1 p = some r) {res0 : Res} (hM : M i = some res0) (hmut : res0.mut = true) (hfoot : ∀ y, res0.foot γ i y ↔ (γ.val i).ownBlock = some y)
  {vs1 : List Value} {F1 : Nat → Prop} (hl1 : vs1.length = l1.length) (hown : w.ownsRow 0 e' 1 (γ.val i) vs1.length vs1) (hr1 : ∀ (k : Nat) (y : Value) (xs : List Int), vs1[k]? = some y → l1[k]? = some xs → ReadsC F1 w y (.ints .u8 xs))
  (hf1 : ∀ y, F1 y → ∃ q rq, M q = some rq ∧ rq.mut = false ∧ rq.foot γ q y) {vs2 : List Value} {F2 : Nat → Prop} (hp : PoolX I γ D M w w0 S0 (x.den γ) p.1 p.2.1 p.2.2 vs2 F2)
  (hs : Sat I N w0 S0 γ D E M a w) (hb : ∀ i, fresh b i = true → D i = false) (hd : ∀ x, o.dst = some x → x < N) (hr : RecIn D b r) : o.wp P a w (Done I N w0 S0 γ D E M b o.dst r) Q := by
 obtain ⟨l2, rd2, fz⟩ := p
 unfold appTo at h
 split at h
 case h_2 => cases h
 rename_i hqe
 split at h
 case h_2 => cases h
 rename_i hbn
 simp only [zaT, Bool.not_eq_true'] at hbn hqe
 have b1 := zbL hbn.1
 have b2 := zbL hbn.2
 obtain ⟨he', hni⟩ := hqe
 have he'' := zbE he'
 subst he''
 simp only [zsI] at h
 subst h
 have hbD : D b = false := hb b (fresh_self b)
 have hbD1 : D (b + 1) = false := hb (b + 1) (by simp [fresh])
 have hone : ∀ v ∈ vs2, v.oneCell' = true := fun v hv => by
  obtain ⟨k, hk, rfl⟩ := List.mem_iff_getElem.1 hv
  have hk2 : k < l2.length := by have := hp.len; simp only at this; omega
  have hx : l2[k]? = some l2[k] := List.getElem?_eq_getElem hk2
  rcases reads_shape (hp.reads k _ _ (List.getElem?_eq_getElem hk) hx) with ⟨e, _⟩ | ⟨_, _, e, _⟩ <;> rw [e] <;> rfl
 have hlen2 := hp.len
 have hrun : ∃ v' w', (Builtin.append_ #[t, t] o.type #[γ.val i, x.den γ]).run P w = .ok v' w' ∧ w'.ownsRow 0 e' 1 v' (vs1 ++ vs2).length (vs1 ++ vs2) ∧ w.grownBy w' (γ.val i).ownBlock ∧ (v'.ownBlock = (γ.val i).ownBlock ∨ v'.ownBlock = some w.heap.size) := by
  rcases hp.src with ⟨e1, e2⟩ | ⟨ad, cap, e1, hcell⟩
  ·have := run_append_owned_none (P := P) w 0 t o.type e' ti 1 hu hti (γ.val i) vs1.length _ hown
   have hv2 : vs2 = [] := List.length_eq_zero_iff.1 (by rw [hlen2]; simp [show l2 = [] from e2])
   rw [e1, hv2]
   exact ⟨γ.val i, w, this, by simpa using hown, ⟨rfl, rfl, rfl, Nat.le_refl _, fun _ _ _ => rfl⟩, .inl rfl⟩
  ·have e1' : x.den γ = .slice (some ad) vs2.length cap := by rw [e1, hlen2]
   obtain ⟨v', w', h1, h2, h3, h4⟩ := append_cells_run (P := P) (w := w) (vx := x.den γ) (ad := ad) (cap := cap) (l2 := vs2) hu hti hz hz1 hsz' o.type hown e1' hcell hone (by rw [hl1, hlen2]; exact b1) (by rw [hl1, hlen2]; exact b2)
   exact ⟨v', w', h1, by rw [zlA]; exact h2, h3, h4⟩
 obtain ⟨v', w', h1, h2, h3, h4⟩ := hrun
 have hMi : updM fz M i = some res0 := by rw [hp.away i hni]; exact hM
 let F : Nat → Prop := fun y => F1 y ∨ F2 y
 have hγ1 : Agree (D · = true) γ (γ.row' (b + 1) (.agg (vs1 ++ vs2).toArray) F) := row'_agree hbD1
 have hpl : ResOK I (γ.row' (b + 1) (.agg (vs1 ++ vs2).toArray) F) (b + 1) w (.pool (l1 ++ l2)) := by
  simp only [ResOK, row'_val, row'_foot]
  refine ⟨by simp [poolVs, hl1, hlen2], fun k y xs hy hx => ?_⟩
  simp only [poolVs] at hy
  by_cases hk : k < l1.length
  ·rw [List.getElem?_append_left (by rw [hl1]; exact hk)] at hy
   rw [List.getElem?_append_left hk] at hx
   refine ⟨(hr1 k y xs hy hx).1, ?_⟩
   rcases (hr1 k y xs hy hx).2 with h | ⟨ad, cap, e, hf, rest⟩ | h
   ·exact .inl h
   ·exact .inr (.inl ⟨ad, cap, e, .inl hf, rest⟩)
   ·exact .inr (.inr h)
  ·rw [List.getElem?_append_right (by rw [hl1]; omega), hl1] at hy
   rw [List.getElem?_append_right (by omega)] at hx
   refine ⟨(hp.reads _ y xs hy hx).1, ?_⟩
   rcases (hp.reads _ y xs hy hx).2 with h | ⟨ad, cap, e, hf, rest⟩ | h
   ·exact .inl h
   ·exact .inr (.inl ⟨ad, cap, e, .inr hf, rest⟩)
   ·exact .inr (.inr h)
 have hm1 : MSat I (γ.row' (b + 1) (.agg (vs1 ++ vs2).toArray) F) (updM [(b + 1, .pool (l1 ++ l2))] (updM fz M)) w := by
  refine msat_shareU hp.sat hp.ids hγ1 hbD1 rfl hpl (fun y hy => ?_)
  simp only [Res.foot, row'_foot] at hy
  rcases hy with hy | hy
  ·obtain ⟨q, rq, k1, k2, k3⟩ := hf1 y hy
   exact ⟨q, rq, hp.keep q rq k1 k2, k2, k3⟩
  ·exact hp.foot y hy
 have hib1 : i ≠ b + 1 := fun e => by subst e; have := (hs.mids _ _ hM).1; rw [hbD1] at this; cases this
 have hM1 : updM [(b + 1, .pool (l1 ++ l2))] (updM fz M) i = some res0 := by unfold updM at hMi ⊢; rw [look_cons, if_neg (Ne.symm hib1)]; exact hMi
 have hfoot1 : ∀ y, res0.foot (γ.row' (b + 1) (.agg (vs1 ++ vs2).toArray) F) i y ↔ (γ.val i).ownBlock = some y := fun y => by
  rw [foot_agree hγ1 (hs.mids i _ hM).1 res0]; exact hfoot y
 have hm2 := msat_write hm1 hM1 hmut (Nat.le_refl _) (fun _ _ _ => rfl) (res := .gone) trivial (fun x hx => hx.elim)
 have hget : ∀ j q, updM [(i, .gone)] (updM [(b + 1, .pool (l1 ++ l2))] (updM fz M)) j = some q → (j = i ∧ q = .gone) ∨ (j ≠ i ∧ updM [(b + 1, .pool (l1 ++ l2))] (updM fz M) j = some q) := by
  intro j q hj
  unfold updM at hj
  rw [look_cons] at hj
  split at hj
  ·rename_i e; subst e; simp only [Option.some_or, zsI] at hj; exact .inl ⟨rfl, hj.symm⟩
  ·rename_i e; exact .inr ⟨Ne.symm e, hj⟩
 have hget1 : ∀ j q, updM [(b + 1, .pool (l1 ++ l2))] (updM fz M) j = some q → (j = b + 1 ∧ q = .pool (l1 ++ l2)) ∨ updM fz M j = some q := by
  intro j q hj
  unfold updM at hj
  rw [look_cons] at hj
  split at hj
  ·rename_i e; subst e; simp only [Option.some_or, zsI] at hj; exact .inl ⟨rfl, hj.symm⟩
  ·exact .inr hj
 let D1 : Nat → Bool := fun j => D j || Nat.beq j (b + 1)
 have hDD : ∀ j, D j = true → D1 j = true := fun j hj => by show (D j || _) = true; rw [hj]; rfl
 have hmids2 : ∀ j q, updM [(i, .gone)] (updM [(b + 1, .pool (l1 ++ l2))] (updM fz M)) j = some q → D1 j = true ∧ q.ids D1 = true := by
  intro j q hj
  rcases hget j q hj with ⟨rfl, rfl⟩ | ⟨_, hj'⟩
  ·exact ⟨hDD _ (hs.mids _ _ hM).1, rfl⟩
  ·rcases hget1 j q hj' with ⟨rfl, rfl⟩ | hj''
   ·exact ⟨by show (_ || Nat.beq (b + 1) (b + 1)) = true; simp, rfl⟩
   ·have := hp.ids j q hj''
    exact ⟨hDD _ this.1, by cases q <;> first | exact SV.idss_mono hDD _ this.2 | rfl⟩
 have hD1b : D1 b = false := by
  show (D b || Nat.beq b (b + 1)) = false
  rw [hbD, Bool.false_or]
  cases hq : Nat.beq b (b + 1)
  ·rfl
  ·have := zbE hq; omega
 have hγ2 : Agree (D1 · = true) (γ.row' (b + 1) (.agg (vs1 ++ vs2).toArray) F) ((γ.row' (b + 1) (.agg (vs1 ++ vs2).toArray) F).row' b v' (fun g => v'.ownBlock = some g)) := row'_agree hD1b
 have hvb1 : ((γ.row' (b + 1) (.agg (vs1 ++ vs2).toArray) F).row' b v' (fun g => v'.ownBlock = some g)).val (b + 1) = .agg (vs1 ++ vs2).toArray := by simp [Vn.row']
 have hfb1 : ((γ.row' (b + 1) (.agg (vs1 ++ vs2).toArray) F).row' b v' (fun g => v'.ownBlock = some g)).foot (b + 1) = F := by simp [Vn.row']
 have hγ : Agree (D · = true) γ ((γ.row' (b + 1) (.agg (vs1 ++ vs2).toArray) F).row' b v' (fun g => v'.ownBlock = some g)) := hγ1.trans (hγ2.mono hDD)
 have hm3 : MSat I ((γ.row' (b + 1) (.agg (vs1 ++ vs2).toArray) F).row' b v' (fun g => v'.ownBlock = some g)) (updM [(b, .ownp e' (b + 1))] (updM [(i, .gone)] (updM [(b + 1, .pool (l1 ++ l2))] (updM fz M)))) w' := by
  refine msat_add (R := fun g => (γ.val i).ownBlock = some g) hm2 hmids2 hγ2 hD1b h3.size (fun y hy hn => h3.block y hy (fun e => hn e.symm)) (fun j q y hj hy hR => ?_) ?_ (fun y hy => ?_)
  ·rcases hget j q hj with ⟨rfl, rfl⟩ | ⟨hne, hj'⟩
   ·exact hy
   ·exact hm1.apart i j _ q y (Ne.symm hne) hM1 hj' hmut ((hfoot1 y).2 hR) hy
  ·simp only [ResOK, row'_val, row'_foot, hvb1, poolVs]
   exact ⟨h2, fun g => by simp⟩
  ·simp only [Res.foot, row'_foot] at hy
   refine ⟨own_low h2 y hy, ?_⟩
   rcases h4 with h4 | h4
   ·rw [h4] at hy; exact .inl hy
   ·rw [h4] at hy; right; have : w.heap.size = y := by simpa using hy
    omega
 have hfun : updM ((b, .ownp e' (b + 1)) :: (b + 1, .pool (l1 ++ l2)) :: (i, .gone) :: fz) M = updM [(b, .ownp e' (b + 1))] (updM [(i, .gone)] (updM [(b + 1, .pool (l1 ++ l2))] (updM fz M))) := by
  funext j
  unfold updM
  simp only [look_cons]
  by_cases hj : b = j
  ·simp [hj]
  ·by_cases hj1 : b + 1 = j
   ·have : ¬ i = j := fun e => hib1 (e.trans hj1.symm)
    simp [hj, hj1, this, look]
   ·by_cases hj2 : i = j
    ·simp [hj, hj1, hj2, look]
    ·simp [hj, hj1, hj2, look]
 have hRow : ∀ g, (γ.val i).ownBlock = some g → w0.heap.size ≤ g ∨ S0.w g := fun g hg => hs.ownm i _ g hM hmut ((hfoot g).2 hg)
 refine done_gen hs hd hr hγ (by rw [hfun]; exact hm3) (hs.fr.trans' (T := fun g => (γ.val i).ownBlock = some g) ⟨h3.os, h3.tape, h3.output, h3.size, fun y hy hn => h3.block y hy (fun e => hn e.symm)⟩ (fun x hx => (hRow x hx).symm)) (fun j q y hj hy => ?_) (builtin_run ho hc (fun consts => ?_))
 ·rw [look_cons] at hj
  split at hj
  ·rename_i e
   subst e
   simp only [zsI] at hj
   subst hj
   simp only [Res.foot, row'_foot] at hy
   rcases h4 with h4 | h4
   ·rw [h4] at hy; exact lift2 (hRow y hy)
   ·rw [h4] at hy
    have : w.heap.size = y := by simpa using hy
    subst this
    exact .inl hs.fr.size
  ·rw [look_cons] at hj
   split at hj
   ·rename_i e
    subst e
    simp only [zsI] at hj
    subst hj
    simp only [Res.foot, hfb1] at hy
    rcases hy with hy | hy
    ·obtain ⟨q', rq, k1, k2, k3⟩ := hf1 y hy
     exact hs.share k1 k3 rfl
    ·rcases hp.share y hy with h | h | h
     ·exact .inl h
     ·exact .inr (.inl h)
     ·exact .inr (.inr ⟨rfl, h⟩)
   ·rw [look_cons] at hj
    split at hj
    ·rename_i e
     subst e
     simp only [zsI] at hj
     subst hj
     exact hy.elim
    ·have hj' : updM fz M j = some q := by unfold updM; rw [hj]; rfl
     rw [foot_agree hγ (hp.ids j q hj').1 q] at hy
     exact hp.eff j q y hj hy
 ·rw [hT, hA]
  simp only [SV.den] at h1 ⊢
  simp only [builtin, Sem.run_bind, h1, Result.andThen_ok, Sem.run_pure, row'_val]
theorem appRows_sound {c : Call} (ho : o.op = .call c) (hc : c.callee = .builtin .append) {t e : TypeId} {ti : TypeInfo} {z : Value} {s x : SV} (hT : c.argTypes = #[t, t]) (hA : c.args.map a.eval = #[s.den γ, x.den γ]) (hu : P.underlying t = some (.slice e)) (hti : P.info? e = some ti) (hz : ti.zero = some z) (hz1 : z.cells.size = 1) (hsz' : ti.size = 1) (h : appRows M b some none e ti.bytes s x = some r)
  (hs : Sat I N w0 S0 γ D E M a w) (hb : ∀ i, fresh b i = true → D i = false) (hd : ∀ x, o.dst = some x → x < N) (hr : RecIn D b r) (hxid : ∀ l rd, cellsApp M x = some (l, rd) → SV.idss D l = true) : o.wp P a w (Done I N w0 S0 γ D E M b o.dst r) Q := by
 unfold appRows at h
 split at h
 ·rename_i i
  split at h
  ·rename_i e' j hM
   split at h
   ·rename_i l1 p hP hp
    obtain ⟨h1, h2, h3, h4, h5⟩ := pool_reads hs.mem hM hP
    obtain ⟨vs, F, hX⟩ := poolOf_reads hs (l := p.1) (rd := p.2.1) (fz := p.2.2) hp
    exact appTo_sound ho hc hT hA hu hti hz hz1 hsz' h hM rfl h3 h2 (by rw [h2]; exact h1) h5 (fun y hy => ⟨j, _, hP, rfl, hy⟩) hX hs hb hd hr
   ·cases h
  ·rename_i e' hM
   split at h
   ·rename_i q
    split at h
    ·rename_i p hp
     obtain ⟨h1, h2⟩ := hs.mem.ok i _ hM
     obtain ⟨vs, F, hX⟩ := poolOf_reads hs (l := p.1) (rd := p.2.1) (fz := p.2.2) hp
     exact appTo_sound ho hc hT hA hu hti hz hz1 hsz' h hM rfl (fun y => h2 y) (vs1 := []) (F1 := fun _ => False) rfl h1 (fun k y xs hy => by simp at hy) (fun y hy => hy.elim) hX hs hb hd hr
    ·exact appCells_sound ho hc hT hA hu hti hz hz1 hsz' h hs hb hd hr hxid
   ·exact appCells_sound ho hc hT hA hu hti hz hz1 hsz' h hs hb hd hr hxid
  ·exact appCells_sound ho hc hT hA hu hti hz hz1 hsz' h hs hb hd hr hxid
 ·exact appCells_sound ho hc hT hA hu hti hz hz1 hsz' h hs hb hd hr hxid
theorem cellsApp_ids {D : Nat → Bool} (hm : ∀ i r, M i = some r → D i = true ∧ r.ids D = true) {x : SV} {l : List SV} {rd : List Nat} (h : cellsApp M x = some (l, rd)) : SV.idss D l = true := by
 unfold cellsApp at h
 split at h
 ·rename_i i off n cap
  split at h
  ·rename_i t cs hM
   split at h
   ·simp only [zsI, zpI] at h
    obtain ⟨rfl, rfl⟩ := h
    have := (hm i _ hM).2
    simp only [Res.ids] at this
    rw [idss_eq, List.all_eq_true] at this ⊢
    exact fun y hy => this y (List.mem_of_mem_drop (List.mem_of_mem_take hy))
   ·cases h
  ·cases h
 ·cases h
theorem grpS_den (γ : Vn) (ks : List IntKind) : ∀ (n : Nat) (cs : List SV) (l : List (List Int)), grpS ks n cs = some l → l.length = n ∧ (SV.dens γ cs).take (n * ks.length) = (Cont.structs ks l).cells
 | 0, cs, l, h => by
  simp only [grpS, zsI] at h
  subst h
  exact ⟨rfl, by simp [Cont.cells]⟩
 | n + 1, cs, l, h => by
  simp only [grpS] at h
  split at h
  ·rename_i x r hx hr
   simp only [zsI] at h
   subst h
   obtain ⟨h1, h2⟩ := grpS_den γ ks n _ r hr
   obtain ⟨h3, h4⟩ := elS_den γ ks cs x [] hx
   refine ⟨by simp [h1], ?_⟩
   rw [dens_drop] at h2
   rw [Nat.succ_mul, Nat.add_comm, List.take_add, h2, h4]
   simp [Cont.cells, ecells]
  ·cases h
theorem contS_reads (hs : MSat I γ M w) {ks : List IntKind} {x : SV} {l : List (List Int)} {rd : List Nat} (h : contS M ks x = some (l, rd)) :
  (x.den γ = .slice none 0 0 ∧ l = []) ∨ ∃ (ad : Addr) (cap : Nat), x.den γ = .slice (some ad) l.length cap ∧ ∀ j u, (Cont.structs ks l).cells[j]? = some u → w.cell? (ad.add j) = some u := by
 have ofRow : ∀ (i : Nat), x = .row i → (M i = some (.ro (.structs ks l)) ∨ ∃ e, M i = some (.own e (.structs ks l))) → (x.den γ = .slice none 0 0 ∧ l = []) ∨ ∃ (ad : Addr) (cap : Nat), x.den γ = .slice (some ad) l.length cap ∧ ∀ j u, (Cont.structs ks l).cells[j]? = some u → w.cell? (ad.add j) = some u := by
  rintro i rfl hM
  rcases reads_shape (row_reads hs hM) with ⟨h1, h2⟩ | ⟨ad, cap, h1, _, _, _, _, h2⟩
  ·exact .inl ⟨by simp [SV.den, h1], List.eq_nil_of_length_eq_zero h2⟩
  ·exact .inr ⟨ad, cap, by simp [SV.den, h1, Cont.n], h2⟩
 unfold contS at h
 split at h
 ·simp only [zsI, zpI] at h
  exact .inl ⟨by simp [SV.den], h.1.symm⟩
 ·rename_i i
  split at h
  ·rename_i q l' hM
   split at h
   ·rename_i hq
    have := of_decide_eq_true hq
    subst this
    simp only [zsI, zpI] at h
    rw [h.1] at hM
    exact ofRow i rfl (.inl hM)
   ·cases h
  ·rename_i e q l' hM
   split at h
   ·rename_i hq
    have := of_decide_eq_true hq
    subst this
    simp only [zsI, zpI] at h
    rw [h.1] at hM
    exact ofRow i rfl (.inr ⟨_, hM⟩)
   ·cases h
  ·cases h
 ·rename_i i off n cap
  split at h
  ·rename_i t cs hM
   split at h
   ·rename_i l' hb hl
    simp only [zaT] at hb
    have h1 := zbL hb.2
    simp only [zsI, zpI] at h
    obtain ⟨rfl, rfl⟩ := h
    obtain ⟨hlen, hden⟩ := grpS_den γ ks n _ _ hl
    have hg := hs.ok i _ hM
    simp only [ResOK] at hg
    refine .inr ⟨⟨γ.blk i, off, none⟩, cap, by simp [SV.den, hlen], fun j u hu => ?_⟩
    rw [← hden, dens_drop, List.getElem?_take] at hu
    split at hu
    ·rw [List.getElem?_drop] at hu
     rw [add_off, cell_of_row w _ _ _ _ _ hg]
     simpa using hu
    ·cases hu
   ·cases h
  ·cases h
 ·cases h
theorem structs_one {ks : List IntKind} {l : List (List Int)} : ∀ v ∈ (Cont.structs ks l).cells, v.oneCell' = true := by
 have key : ∀ (xs : List Int) (ks : List IntKind) (c : Nat), ∀ v ∈ ecellsFrom xs ks c, v.oneCell' = true := by
  intro xs ks
  induction ks with
  | nil => intro c v hv; simp [ecellsFrom] at hv
  | cons k ks ih =>
   intro c v hv
   simp only [ecellsFrom, List.mem_cons] at hv
   rcases hv with rfl | hv
   ·simp [Value.oneCell']
   ·exact ih _ v hv
 intro v hv
 simp only [Cont.cells, List.mem_flatMap] at hv
 obtain ⟨xs, _, hv⟩ := hv
 exact key xs ks 0 v (by simpa [ecells] using hv)
theorem append_structs_run {t e : TypeId} {ti : TypeInfo} {z : Value} {ks : List IntKind} (hu : P.underlying t = some (.slice e)) (hti : P.info? e = some ti) (hz : ti.zero = some z) (hz1 : z.cells.size = ks.length) (hsz : ti.size = ks.length) (hk : 0 < ks.length) (ty : TypeId) {v : Value} {l1 l2 : List (List Int)} (hown : w.ownsRow 0 e ks.length v l1.length (Cont.structs ks l1).cells)
  {vx : Value} (hx : (vx = .slice none 0 0 ∧ l2 = []) ∨ ∃ (ad : Addr) (cap : Nat), vx = .slice (some ad) l2.length cap ∧ ∀ j u, (Cont.structs ks l2).cells[j]? = some u → w.cell? (ad.add j) = some u)
  (hbytes : (l1.length + l2.length) * ti.bytes ≤ 140737488355328) (h63 : l1.length + l2.length ≤ 9223372036854775807) :
  ∃ v' w', (Builtin.append_ #[t, t] ty #[v, vx]).run P w = .ok v' w' ∧ w'.ownsRow 0 e ks.length v' (l1.length + l2.length) (Cont.structs ks (l1 ++ l2)).cells ∧ w.grownBy w' v.ownBlock ∧ (v'.ownBlock = v.ownBlock ∨ v'.ownBlock = some w.heap.size) := by
 have happ : (Cont.structs ks (l1 ++ l2)).cells = (Cont.structs ks l1).cells ++ (Cont.structs ks l2).cells := by simp [Cont.cells]
 rcases hx with ⟨rfl, rfl⟩ | ⟨ad, cap, rfl, hc⟩
 ·have := run_append_owned_none (P := P) w 0 t ty e ti ks.length hu hti v l1.length _ hown
  exact ⟨v, w, this, by simpa using hown, ⟨rfl, rfl, rfl, Nat.le_refl _, fun _ _ _ => rfl⟩, .inl rfl⟩
 ·obtain ⟨v', w', h1, h2, h3, _, h5⟩ := run_append_own_at (P := P) w 0 t ty e ti z ks.length ti.bytes hu hti hz hsz rfl hz1 hk v l1.length _ hown ad l2.length cap (Cont.structs ks l2).cells (Cont.cells_length (.structs ks l2)) hc structs_one (by simp only [maxLen]; omega) hbytes (Nat.zero_le _)
  exact ⟨v', w', h1, by rw [happ]; exact h2, h3, h5⟩
theorem onto_own {c : Call} (ho : o.op = .call c) (hc : c.callee = .builtin .append) {t : TypeId} {s x : SV} (hT : c.argTypes = #[t, t]) (hA : c.args.map a.eval = #[s.den γ, x.den γ]) {e : TypeId} {ct : Cont} {i : Nat} {res0 : Res} {rd : List Nat} (hM : M i = some res0) (hmut : res0.mut = true) (hfoot : ∀ y, res0.foot γ i y ↔ (s.den γ).ownBlock = some y)
  {v' : Value} {w' : World} (h1 : (Builtin.append_ #[t, t] o.type #[s.den γ, x.den γ]).run P w = .ok v' w') (h2 : w'.ownsRow 0 e ct.sz v' ct.n ct.cells) (h3 : w.grownBy w' (s.den γ).ownBlock) (h4 : v'.ownBlock = (s.den γ).ownBlock ∨ v'.ownBlock = some w.heap.size)
  (hs : Sat I N w0 S0 γ D E M a w) (hb : ∀ i, fresh b i = true → D i = false) (hd : ∀ x, o.dst = some x → x < N) (hr : RecIn D b ⟨.row b, [(b, .own e ct), (i, .gone)], i :: rd⟩) :
  o.wp P a w (Done I N w0 S0 γ D E M b o.dst ⟨.row b, [(b, .own e ct), (i, .gone)], i :: rd⟩) Q := by
 have hbD : D b = false := hb b (fresh_self b)
 have hγ : Agree (D · = true) γ (γ.row' b v' (fun g => v'.ownBlock = some g)) := row'_agree hbD
 have hib : i ≠ b := fun e => by subst e; have := (hs.mids i _ hM).1; rw [hbD] at this; cases this
 have hm1 : MSat I γ (updM [(i, .gone)] M) w := msat_write hs.mem hM hmut (Nat.le_refl _) (fun _ _ _ => rfl) trivial (fun x hx => hx.elim)
 have hget : ∀ j r, updM [(i, .gone)] M j = some r → (j = i ∧ r = .gone) ∨ (j ≠ i ∧ M j = some r) := by
  intro j r hj
  unfold updM at hj
  rw [look_cons] at hj
  split at hj
  ·rename_i e; subst e; simp only [Option.some_or, zsI] at hj; exact .inl ⟨rfl, hj.symm⟩
  ·rename_i e; exact .inr ⟨Ne.symm e, hj⟩
 have hmids1 : ∀ j r, updM [(i, .gone)] M j = some r → D j = true ∧ r.ids D = true := by
  intro j r hj
  rcases hget j r hj with ⟨rfl, rfl⟩ | ⟨_, hj'⟩
  ·exact ⟨(hs.mids j _ hM).1, rfl⟩
  ·exact hs.mids j r hj'
 have hfun : updM [(b, .own e ct), (i, .gone)] M = updM [(b, .own e ct)] (updM [(i, .gone)] M) := by
  funext j
  unfold updM
  rw [look_cons, look_cons, look_cons]
  by_cases hj : b = j
  ·rw [if_pos hj, if_pos hj]; rfl
  ·rw [if_neg hj, if_neg hj]; rfl
 have hRow : ∀ g, (s.den γ).ownBlock = some g → w0.heap.size ≤ g ∨ S0.w g := fun g hg => hs.ownm i _ g hM hmut ((hfoot g).2 hg)
 refine done_gen hs hd hr hγ ?_ (hs.fr.trans' (T := fun g => (s.den γ).ownBlock = some g) ⟨h3.os, h3.tape, h3.output, h3.size, fun y hy hn => h3.block y hy (fun e => hn e.symm)⟩ (fun x hx => (hRow x hx).symm)) ?_ (builtin_run ho hc (fun consts => ?_))
 ·show MSat I _ (updM [(b, .own e ct), (i, .gone)] M) w'
  rw [hfun]
  refine msat_add (R := fun g => (s.den γ).ownBlock = some g) hm1 hmids1 hγ hbD h3.size (fun y hy hn => h3.block y hy (fun e => hn e.symm)) (fun j r y hj hy hR => ?_) ?_ (fun y hy => ?_)
  ·rcases hget j r hj with ⟨rfl, rfl⟩ | ⟨hne, hj'⟩
   ·exact hy
   ·exact hs.mem.apart i j _ r y (Ne.symm hne) hM hj' hmut ((hfoot y).2 hR) hy
  ·simp only [ResOK, row'_val, row'_foot]
   exact ⟨h2, fun g => by simp⟩
  ·simp only [Res.foot, row'_foot] at hy
   refine ⟨own_low h2 y hy, ?_⟩
   rcases h4 with h4 | h4
   ·rw [h4] at hy; exact .inl hy
   ·rw [h4] at hy; right; have : w.heap.size = y := by simpa using hy
    omega
 ·intro j q y hj hy
  rw [look_cons] at hj
  split at hj
  ·rename_i e
   subst e
   simp only [zsI] at hj
   subst hj
   simp only [Res.foot, row'_foot] at hy
   rcases h4 with h4 | h4
   ·rw [h4] at hy; exact lift2 (hRow y hy)
   ·rw [h4] at hy
    have : w.heap.size = y := by simpa using hy
    subst this
    exact .inl hs.fr.size
  ·obtain ⟨rfl, rfl⟩ := look_one hj
   exact hy.elim
 ·rw [hT, hA]
  simp only [builtin, Sem.run_bind, h1, Result.andThen_ok, Sem.run_pure]
  simp [SV.den, row'_val]
theorem appS_sound {c : Call} (ho : o.op = .call c) (hc : c.callee = .builtin .append) {t e : TypeId} {ti : TypeInfo} {z : Value} {ks : List IntKind} {s x : SV} (hT : c.argTypes = #[t, t]) (hA : c.args.map a.eval = #[s.den γ, x.den γ]) (hu : P.underlying t = some (.slice e)) (hti : P.info? e = some ti) (hz : ti.zero = some z) (hz1 : z.cells.size = ks.length) (hsz : ti.size = ks.length) (hk : 0 < ks.length) (h : appS M b some none e ti.bytes ks s x = some r)
  (hs : Sat I N w0 S0 γ D E M a w) (hb : ∀ i, fresh b i = true → D i = false) (hd : ∀ x, o.dst = some x → x < N) (hr : RecIn D b r) : o.wp P a w (Done I N w0 S0 γ D E M b o.dst r) Q := by
 have hbD : D b = false := hb b (fresh_self b)
 unfold appS at h
 split at h
 ·rename_i l2 rd hl2
  have hxr := contS_reads hs.mem hl2
  split at h
  ·split at h
   ·rename_i hbn
    simp only [zaT] at hbn
    have b1 := zbL hbn.1
    have b2 := zbL hbn.2
    simp only [zsI] at h
    subst h
    obtain ⟨v', w', h1, h2, h3, h4⟩ := append_structs_run (P := P) (l1 := []) hu hti hz hz1 hsz hk o.type (by simpa [Cont.cells] using World.ownsRow_nil w 0 e ks.length) hxr (by simpa using b1) (by simpa using b2)
    simp only [List.nil_append, List.length_nil, Nat.zero_add] at h2
    have hv' : ∀ g, v'.ownBlock = some g → g = w.heap.size := fun g hg => by
     rcases h4 with h4 | h4
     ·rw [h4] at hg; simp [Value.ownBlock] at hg
     ·rw [h4] at hg; simpa using hg.symm
    have hγ : Agree (D · = true) γ (γ.row' b v' (fun g => v'.ownBlock = some g)) := row'_agree hbD
    have hfr : Fr S0.w w w' := ⟨h3.os, h3.tape, h3.output, h3.size, fun y hy _ => h3.block y hy (by simp [Value.ownBlock])⟩
    refine done_gen hs hd hr hγ ?_ (hs.fr.trans hfr) ?_ (builtin_run ho hc (fun consts => ?_))
    ·refine msat_add (R := fun _ => False) hs.mem hs.mids hγ hbD h3.size (fun y hy _ => h3.block y hy (by simp [Value.ownBlock])) (fun _ _ _ _ _ h => h) ?_ (fun y hy => ?_)
     ·simp only [ResOK, row'_val, row'_foot]
      exact ⟨h2, fun g => by simp⟩
     ·simp only [Res.foot, row'_foot] at hy
      exact ⟨own_low h2 y hy, .inr (by rw [hv' y hy]; exact Nat.le_refl _)⟩
    ·intro j q y hj hy
     obtain ⟨rfl, rfl⟩ := look_one hj
     simp only [Res.foot, row'_foot] at hy
     rw [hv' y hy]
     exact .inl hs.fr.size
    ·rw [hT, hA]
     simp only [SV.den] at h1 ⊢
     simp only [builtin, Sem.run_bind, h1, Result.andThen_ok, Sem.run_pure, row'_val]
   ·cases h
  ·rename_i i
   split at h
   ·rename_i e' q l1 hM
    split at h
    case h_2 => cases h
    rename_i hqe
    split at h
    ·rename_i hbn
     simp only [zaT, decide_eq_true_eq] at hbn hqe
     have b1 := zbL hbn.1
     have b2 := zbL hbn.2
     obtain ⟨⟨rfl, he'⟩, hni⟩ := hqe
     have he'' := zbE he'
     subst he''
     simp only [zsI] at h
     subst h
     obtain ⟨hown, hfoot⟩ := hs.mem.ok i _ hM
     simp only [Cont.sz, Cont.n] at hown
     obtain ⟨v', w', h1, h2, h3, h4⟩ := append_structs_run (P := P) hu hti hz hz1 hsz hk o.type hown hxr b1 b2
     exact onto_own ho hc hT hA hM rfl (fun y => by simp only [SV.den]; exact hfoot y) (by simpa [SV.den] using h1) (by simpa [Cont.sz, Cont.n] using h2) (by simpa [SV.den] using h3) (by simpa [SV.den] using h4) hs hb hd hr
    ·cases h
   ·cases h
  ·rename_i i
   split at h
   ·rename_i e' hM
    split at h
    case h_2 => cases h
    rename_i hqe
    split at h
    ·rename_i hbn
     simp only [zaT] at hbn hqe
     have b1 := zbL hbn.1
     have b2 := zbL hbn.2
     have he'' := zbE hqe.1
     subst he''
     simp only [zsI] at h
     subst h
     have hg := hs.mem.ok i _ hM
     simp only [ResOK, SV.dens] at hg
     have hown : w.ownsRow 0 e' ks.length (.slice (some ⟨γ.blk i, 0, none⟩) 0 0) ([] : List (List Int)).length (Cont.structs ks []).cells :=
      ⟨by simp [Cont.cells], .inr ⟨γ.blk i, 0, #[], rfl, Nat.zero_le _, hg, Nat.le_refl _, Nat.zero_le _, by simp, by simp [Cont.cells]⟩⟩
     obtain ⟨v', w', h1, h2, h3, h4⟩ := append_structs_run (P := P) (l1 := []) hu hti hz hz1 hsz hk o.type hown hxr (by simpa using b1) (by simpa using b2)
     simp only [List.nil_append, List.length_nil, Nat.zero_add] at h2
     exact onto_own ho hc hT hA hM rfl (fun y => by simp [SV.den, Res.foot, Value.ownBlock, eq_comm]) (by simpa [SV.den] using h1) h2 (by simpa [SV.den] using h3) (by simpa [SV.den] using h4) hs hb hd hr
    ·cases h
   ·cases h
  ·cases h
 ·cases h
theorem ReadsIn.mono {F F' : Nat → Prop} {v : Value} {sz n : Nat} {xs : List Value} (hF : ∀ b, F b → F' b) (h : ReadsIn F w v sz n xs) : ReadsIn F' w v sz n xs := by
 refine ⟨h.1, ?_⟩
 rcases h.2 with h | ⟨ad, cap, e, hf, rest⟩ | h
 ·exact .inl h
 ·exact .inr (.inl ⟨ad, cap, e, hF _ hf, rest⟩)
 ·exact .inr (.inr h)
theorem DeepN.mono {F F' : Nat → Prop} (hF : ∀ b, F b → F' b) : ∀ (d : Nat) (fs : List DS) (v : Value) (l : List (List DD)), DeepN F w d fs v l → DeepN F' w d fs v l
 | 0, _, _, _, h => h
 | d + 1, fs, v, l, h => by
  obtain ⟨vs, h1, h2⟩ := h
  refine ⟨vs, ReadsIn.mono hF h1, fun k c f hk hf => ?_⟩
  obtain ⟨y, hy, hm⟩ := h2 k c f hk hf
  refine ⟨y, hy, ?_⟩
  cases f with
  | n q => exact hm
  | s gs => exact DeepN.mono hF d gs y _ hm
theorem DeepN.up {F : Nat → Prop} : ∀ (d : Nat) (fs : List DS) (v : Value) (l : List (List DD)), DeepN F w d fs v l → DeepN F w (d + 1) fs v l
 | 0, _, _, _, h => h.elim
 | d + 1, fs, v, l, h => by
  obtain ⟨vs, h1, h2⟩ := h
  refine ⟨vs, h1, fun k c f hk hf => ?_⟩
  obtain ⟨y, hy, hm⟩ := h2 k c f hk hf
  refine ⟨y, hy, ?_⟩
  cases f with
  | n q => exact hm
  | s gs => exact DeepN.up d gs y _ hm
theorem DeepN.le {F : Nat → Prop} {fs : List DS} {v : Value} {l : List (List DD)} {d : Nat} (h : DeepN F w d fs v l) : ∀ k, DeepN F w (d + k) fs v l
 | 0 => h
 | k + 1 => DeepN.up _ _ _ _ (DeepN.le h k)
structure DCells (γ : Vn) (M : Nat → Option Res) (w : World) (cs : List SV) (fs : List DS) (d : List DD) (F : Nat → Prop) (n : Nat) : Prop where
 len : fs.length = cs.length
 one : ∀ v ∈ SV.dens γ cs, v.oneCell' = true
 cell : ∀ (c : Nat) (f : DS), fs[c]? = some f → ∃ y, (SV.dens γ cs)[c]? = some y ∧ match f with
  | .n q => y = .int q (d.getD c (.n 0)).i
  | .s gs => DeepN F w n gs y (d.getD c (.n 0)).l
 foot : ∀ y, F y → ∃ q rq, M q = some rq ∧ rq.mut = false ∧ rq.foot γ q y
theorem DCells.cons {cs : List SV} {fs : List DS} {e : List DD} {F : Nat → Prop} {n : Nat} (ih : DCells γ M w cs fs e F n) (f : DS) (x : SV) (y : Value) (dd : DD) (F' : Nat → Prop) (n' : Nat) (hy : x.den γ = y) (h1 : y.oneCell' = true) (hF : ∀ b, F b → F' b) (hnn : n ≤ n')
  (h2 : match f with | .n q => y = .int q dd.i | .s gs => DeepN F' w n' gs y dd.l) (h3 : ∀ b, F' b → ∃ q rq, M q = some rq ∧ rq.mut = false ∧ rq.foot γ q b) : DCells γ M w (x :: cs) (f :: fs) (dd :: e) F' n' := by
 refine ⟨by simp [ih.len], fun v hv => ?_, fun c g hg => ?_, h3⟩
 ·simp only [SV.dens, List.mem_cons] at hv
  rcases hv with rfl | hv
  ·rw [hy]; exact h1
  ·exact ih.one v hv
 ·cases c with
  | zero =>
   simp only [List.getElem?_cons_zero, zsI] at hg
   subst hg
   refine ⟨y, by simp [SV.dens, hy], ?_⟩
   cases f <;> simpa using h2
  | succ c =>
   obtain ⟨y', hy', hm⟩ := ih.cell c g (by simpa using hg)
   refine ⟨y', by simpa [SV.dens] using hy', ?_⟩
   cases g with
   | n q => simpa using hm
   | s gs =>
    obtain ⟨k, rfl⟩ : ∃ k, n' = n + k := ⟨n' - n, by omega⟩
    exact DeepN.mono hF _ _ _ _ (by simpa using DeepN.le hm k)
theorem dsCells_spec (hs : MSat I γ M w) : ∀ (fs : List DS) (cs : List SV) {d : List DD} {rs : List Nat} {a : Bool}, dsCells M fs cs = some (d, rs, a) → (∃ F n, DCells γ M w cs fs d F n) ∧ (a = true → ∀ (c : Nat) (gs : List DS), fs[c]? = some (DS.s gs) → (SV.dens γ cs)[c]? = some (Value.slice none 0 0))
 | [], [], d, rs, a, h => by
  simp only [dsCells, zsI, zpI] at h
  obtain ⟨rfl, rfl, rfl⟩ := h
  exact ⟨⟨fun _ => False, 0, rfl, fun v hv => by simp [SV.dens] at hv, fun c f h => by simp at h, fun y h => h.elim⟩, fun _ c gs h => by simp at h⟩
 | [], _ :: _, d, rs, a, h => by simp [dsCells] at h
 | _ :: _, [], d, rs, a, h => by simp [dsCells] at h
 | f :: fs, x :: cs, d, rs, a, h => by
  unfold dsCells at h
  split at h
  ·rename_i e rt a' hq
   obtain ⟨⟨F, n, ih⟩, hn⟩ := dsCells_spec hs fs cs hq
   split at h
   ·rename_i p
    split at h
    ·rename_i q m
     split at h
     ·rename_i hd
      simp only [zsI, zpI] at h
      obtain ⟨rfl, rfl, rfl⟩ := h
      have hd := of_decide_eq_true hd
      subst hd
      refine ⟨⟨F, n, ih.cons _ _ (.int q m) (.n m) F n (by simp [SV.den]) rfl (fun _ h => h) (Nat.le_refl _) rfl ih.foot⟩, fun ha c gs hc => ?_⟩
      cases c with
      | zero => simp at hc
      | succ c => simpa [SV.dens] using hn ha c gs (by simpa using hc)
     ·cases h
    ·cases h
   ·rename_i gs
    split at h
    ·simp only [zsI, zpI] at h
     obtain ⟨rfl, rfl, rfl⟩ := h
     refine ⟨⟨F, n + 1, ih.cons _ _ (.slice none 0 0) (.s []) F (n + 1) (by simp [SV.den]) rfl (fun _ h => h) (Nat.le_succ _) ⟨[], ⟨by simp [DD.l], .inl ⟨rfl, rfl⟩⟩, fun k c f hk => by simp [DD.l] at hk⟩ ih.foot⟩, fun ha c gs hc => ?_⟩
     cases c with
     | zero => simp [SV.dens, SV.den]
     | succ c => simpa [SV.dens] using hn ha c gs (by simpa using hc)
    ·rename_i r
     split at h
     ·rename_i hgs l hr
      split at h
      ·rename_i hbq
       simp only [zsI, zpI] at h
       obtain ⟨rfl, rfl, rfl⟩ := h
       have hbq := DS.beqs_eq _ _ hbq
       subst hbq
       obtain ⟨k, hk⟩ := hs.ok r _ hr
       have hone : (γ.val r).oneCell' = true := by
        obtain ⟨vs, hR⟩ := deep_reads (hs.ok r _ hr)
        rcases reads_shape hR with ⟨e, _⟩ | ⟨_, _, e, _⟩ <;> rw [e] <;> rfl
       have h2 := DeepN.le hk n
       rw [Nat.add_comm] at h2
       refine ⟨⟨fun y => F y ∨ γ.foot r y, n + k, ih.cons _ _ (γ.val r) (.s l) _ (n + k) (by simp [SV.den]) hone (fun _ h => .inl h) (Nat.le_add_right _ _) (DeepN.mono (fun y hy => .inr hy) _ _ _ _ h2) (fun y hy => ?_)⟩, fun ha => by cases ha⟩
       rcases hy with hy | hy
       ·exact ih.foot y hy
       ·exact ⟨r, _, hr, rfl, hy⟩
      ·cases h
     ·cases h
    ·cases h
  ·cases h
theorem onto_pool {c : Call} (ho : o.op = .call c) (hc : c.callee = .builtin .append) {t : TypeId} {i sz : Nat} {x : SV} (hT : c.argTypes = #[t, t]) (hA : c.args.map a.eval = #[(SV.row i).den γ, x.den γ]) {e : TypeId} {res0 pr : Res} {rd : List Nat}
  (hM : M i = some res0) (hmut : res0.mut = true) (hfoot : ∀ y, res0.foot γ i y ↔ (γ.val i).ownBlock = some y) {xs : List Value} {F : Nat → Prop} (hf1 : ∀ y, F y → ∃ q rq, M q = some rq ∧ rq.mut = false ∧ rq.foot γ q y)
  (hpm : pr.mut = false) (hpf : ∀ γ j, pr.foot γ j = γ.foot j) (hpl : ResOK I (γ.row' (b + 1) (.agg xs.toArray) F) (b + 1) w pr) (hpi : ∀ p, pr.ids p = true)
  {v' : Value} {w' : World} (h1 : (Builtin.append_ #[t, t] o.type #[γ.val i, x.den γ]).run P w = .ok v' w') (h2 : w'.ownsRow 0 e sz v' (xs.length / sz) xs) (h3 : w.grownBy w' (γ.val i).ownBlock) (h4 : v'.ownBlock = (γ.val i).ownBlock ∨ v'.ownBlock = some w.heap.size)
  (hs : Sat I N w0 S0 γ D E M a w) (hbD : D b = false) (hbD1 : D (b + 1) = false) (hd : ∀ x, o.dst = some x → x < N) (hr : RecIn D b ⟨.row b, [(b, .ownq e sz (b + 1)), (b + 1, pr), (i, .gone)], rd⟩) :
  o.wp P a w (Done I N w0 S0 γ D E M b o.dst ⟨.row b, [(b, .ownq e sz (b + 1)), (b + 1, pr), (i, .gone)], rd⟩) Q := by
 have hγ1 : Agree (D · = true) γ (γ.row' (b + 1) (.agg xs.toArray) F) := row'_agree hbD1
 have hm1 : MSat I (γ.row' (b + 1) (.agg xs.toArray) F) (updM [(b + 1, pr)] M) w := by
  refine msat_shareU hs.mem hs.mids hγ1 hbD1 hpm hpl (fun y hy => ?_)
  rw [hpf, row'_foot] at hy
  exact hf1 y hy
 have hib1 : i ≠ b + 1 := fun e => by subst e; have := (hs.mids _ _ hM).1; rw [hbD1] at this; cases this
 have hM1 : updM [(b + 1, pr)] M i = some res0 := by unfold updM; rw [look_cons, if_neg (Ne.symm hib1)]; simp [look, hM]
 have hfoot1 : ∀ y, res0.foot (γ.row' (b + 1) (.agg xs.toArray) F) i y ↔ (γ.val i).ownBlock = some y := fun y => by
  rw [foot_agree hγ1 (hs.mids i _ hM).1 res0]; exact hfoot y
 have hm2 := msat_write hm1 hM1 hmut (Nat.le_refl _) (fun _ _ _ => rfl) (res := .gone) trivial (fun x hx => hx.elim)
 have hget : ∀ j q, updM [(i, .gone)] (updM [(b + 1, pr)] M) j = some q → (j = i ∧ q = .gone) ∨ (j ≠ i ∧ updM [(b + 1, pr)] M j = some q) := by
  intro j q hj
  unfold updM at hj
  rw [look_cons] at hj
  split at hj
  ·rename_i e; subst e; simp only [Option.some_or, zsI] at hj; exact .inl ⟨rfl, hj.symm⟩
  ·rename_i e; exact .inr ⟨Ne.symm e, hj⟩
 have hget1 : ∀ j q, updM [(b + 1, pr)] M j = some q → (j = b + 1 ∧ q = pr) ∨ M j = some q := by
  intro j q hj
  unfold updM at hj
  rw [look_cons] at hj
  split at hj
  ·rename_i e; subst e; simp only [Option.some_or, zsI] at hj; exact .inl ⟨rfl, hj.symm⟩
  ·exact .inr hj
 let D1 : Nat → Bool := fun j => D j || Nat.beq j (b + 1)
 have hDD : ∀ j, D j = true → D1 j = true := fun j hj => by show (D j || _) = true; rw [hj]; rfl
 have hmids2 : ∀ j q, updM [(i, .gone)] (updM [(b + 1, pr)] M) j = some q → D1 j = true ∧ q.ids D1 = true := by
  intro j q hj
  rcases hget j q hj with ⟨rfl, rfl⟩ | ⟨_, hj'⟩
  ·exact ⟨hDD _ (hs.mids _ _ hM).1, rfl⟩
  ·rcases hget1 j q hj' with ⟨rfl, rfl⟩ | hj''
   ·exact ⟨by show (_ || Nat.beq (b + 1) (b + 1)) = true; simp, hpi _⟩
   ·have := hs.mids j q hj''
    exact ⟨hDD _ this.1, by cases q <;> first | exact SV.idss_mono hDD _ this.2 | rfl⟩
 have hD1b : D1 b = false := by
  show (D b || Nat.beq b (b + 1)) = false
  rw [hbD, Bool.false_or]
  cases hq : Nat.beq b (b + 1)
  ·rfl
  ·have := zbE hq; omega
 have hγ2 : Agree (D1 · = true) (γ.row' (b + 1) (.agg xs.toArray) F) ((γ.row' (b + 1) (.agg xs.toArray) F).row' b v' (fun g => v'.ownBlock = some g)) := row'_agree hD1b
 have hvb1 : ((γ.row' (b + 1) (.agg xs.toArray) F).row' b v' (fun g => v'.ownBlock = some g)).val (b + 1) = .agg xs.toArray := by simp [Vn.row']
 have hfb1 : ((γ.row' (b + 1) (.agg xs.toArray) F).row' b v' (fun g => v'.ownBlock = some g)).foot (b + 1) = F := by simp [Vn.row']
 have hγ : Agree (D · = true) γ ((γ.row' (b + 1) (.agg xs.toArray) F).row' b v' (fun g => v'.ownBlock = some g)) := hγ1.trans (hγ2.mono hDD)
 have hm3 : MSat I ((γ.row' (b + 1) (.agg xs.toArray) F).row' b v' (fun g => v'.ownBlock = some g)) (updM [(b, .ownq e sz (b + 1))] (updM [(i, .gone)] (updM [(b + 1, pr)] M))) w' := by
  refine msat_add (R := fun g => (γ.val i).ownBlock = some g) hm2 hmids2 hγ2 hD1b h3.size (fun y hy hn => h3.block y hy (fun e => hn e.symm)) (fun j q y hj hy hR => ?_) ?_ (fun y hy => ?_)
  ·rcases hget j q hj with ⟨rfl, rfl⟩ | ⟨hne, hj'⟩
   ·exact hy
   ·exact hm1.apart i j _ q y (Ne.symm hne) hM1 hj' hmut ((hfoot1 y).2 hR) hy
  ·simp only [ResOK, row'_val, row'_foot, hvb1, poolVs]
   exact ⟨h2, fun g => by simp⟩
  ·simp only [Res.foot, row'_foot] at hy
   refine ⟨own_low h2 y hy, ?_⟩
   rcases h4 with h4 | h4
   ·rw [h4] at hy; exact .inl hy
   ·rw [h4] at hy; right; have : w.heap.size = y := by simpa using hy
    omega
 have hfun : updM [(b, .ownq e sz (b + 1)), (b + 1, pr), (i, .gone)] M = updM [(b, .ownq e sz (b + 1))] (updM [(i, .gone)] (updM [(b + 1, pr)] M)) := by
  funext j
  unfold updM
  simp only [look_cons]
  by_cases hj : b = j
  ·simp [hj]
  ·by_cases hj1 : b + 1 = j
   ·have : ¬ i = j := fun e => hib1 (e.trans hj1.symm)
    simp [hj, hj1, this, look]
   ·by_cases hj2 : i = j
    ·simp [hj, hj1, hj2, look]
    ·simp [hj, hj1, hj2, look]
 have hRow : ∀ g, (γ.val i).ownBlock = some g → w0.heap.size ≤ g ∨ S0.w g := fun g hg => hs.ownm i _ g hM hmut ((hfoot g).2 hg)
 refine done_gen hs hd hr hγ (by rw [hfun]; exact hm3) (hs.fr.trans' (T := fun g => (γ.val i).ownBlock = some g) ⟨h3.os, h3.tape, h3.output, h3.size, fun y hy hn => h3.block y hy (fun e => hn e.symm)⟩ (fun x hx => (hRow x hx).symm)) (fun j q y hj hy => ?_) (builtin_run ho hc (fun consts => ?_))
 ·rw [look_cons] at hj
  split at hj
  ·rename_i e
   subst e
   simp only [zsI] at hj
   subst hj
   simp only [Res.foot, row'_foot] at hy
   rcases h4 with h4 | h4
   ·rw [h4] at hy; exact lift2 (hRow y hy)
   ·rw [h4] at hy
    have : w.heap.size = y := by simpa using hy
    subst this
    exact .inl hs.fr.size
  ·rw [look_cons] at hj
   split at hj
   ·rename_i e
    subst e
    simp only [zsI] at hj
    subst hj
    rw [hpf, hfb1] at hy
    obtain ⟨q', rq, k1, k2, k3⟩ := hf1 y hy
    exact hs.share k1 k3 hpm
   ·obtain ⟨rfl, rfl⟩ := look_one hj
    exact hy.elim
 ·rw [hT, hA]
  simp only [SV.den] at h1 ⊢
  simp only [builtin, Sem.run_bind, h1, Result.andThen_ok, Sem.run_pure, row'_val]
end
end Sx

/- Pools of cells that hold slices; append; and all operations together. -/
namespace Sx
open Go
set_option linter.unusedVariables false
set_option linter.unusedSimpArgs false
section
variable {I : Interp} {P : Program} {sp : FuncId → Option Spec} {N : Nat} {w0 : World} {S0 : Ft} {γ : Vn} {D : Nat → Bool} {E : Nat → Option SV} {M : Nat → Option Res} {a : Act} {w : World} {b : Nat} {o : Oper} {Q : Exit → Act → World → Prop} {r : Rec}
theorem contD_deep {F : Nat → Prop} {v : Value} {ct : Cont} {gs : List DS} {dl : List (List DD)} (h : contD gs ct = some dl) (hR : ReadsC F w v ct) : DeepIn F w v gs dl := by
 unfold contD at h
 split at h
 ·rename_i ks k l hk
  split at h
  ·rename_i he
   have he := of_decide_eq_true he
   subst he
   have hg := kindsD_eq hk
   subst hg
   simp only [zsI] at h
   subst h
   refine ⟨1, _, by simpa [ReadsC, Cont.n, Cont.sz] using hR, fun i c f hi hf => ?_⟩
   cases c with
   | zero =>
    simp only [List.map_cons, List.map_nil, List.getElem?_cons_zero, zsI] at hf
    subst hf
    simp only [List.length_map] at hi
    refine ⟨.int k (l.getD i 0), by simp [Cont.cells, hi], ?_⟩
    simp [ddAt, List.getD, hi, DD.i]
   | succ c => simp at hf
  ·cases h
 ·rename_i ks qs l hk
  split at h
  ·rename_i he
   have he := of_decide_eq_true he
   subst he
   have hg := kindsD_eq hk
   subst hg
   simp only [zsI] at h
   subst h
   refine ⟨1, _, by simpa [ReadsC, Cont.n, Cont.sz] using hR, fun i c f hi hf => ?_⟩
   simp only [List.length_map] at hi
   rw [List.getElem?_map] at hf
   cases hc : ks[c]? with
   | none => rw [hc] at hf; cases hf
   | some q =>
    rw [hc] at hf
    simp only [Option.map_some, zsI] at hf
    subst hf
    have hcl : c < ks.length := (List.getElem?_eq_some_iff.1 hc).1
    have hg := Cont.cell_get (.structs ks l) (i := i) (j := c) hi hcl
    simp only [Cont.sz] at hg
    refine ⟨_, by rw [List.length_map, hg]; simp only [Cont.at, ecells, List.getElem?_toArray]; exact ecellsFrom_get _ _ _ _ _ hc, ?_⟩
    simp only [Nat.zero_add, ddAt]
    have : (List.map (fun x => List.map DD.n x) l).getD i [] = (l.getD i []).map DD.n := by
     simp [List.getD, hi]
    rw [this]
    have h2 : ∀ (x : List Int), ((x.map DD.n).getD c (.n 0)).i = x.getD c 0 := by
     intro x
     simp only [List.getD, List.getElem?_map]
     cases x[c]? <;> rfl
    rw [h2]
  ·cases h
 ·cases h
theorem frz_sat : ∀ (fs : List DS) (cs : List SV) (n : Nat), Sat I N w0 S0 γ D E M a w → (∀ i, n ≤ i → i < n + fs.length → D i = false) → SV.idss D cs = true →
  ∃ γ1 D1, Agree (D · = true) γ γ1 ∧ (∀ j, D j = true → D1 j = true) ∧ (∀ j, D1 j = true → D j = true ∨ (n ≤ j ∧ j < n + fs.length)) ∧ Sat I N w0 S0 γ1 D1 E (updM (frzC M fs cs n).2.1 M) a w ∧ SV.dens γ1 (frzC M fs cs n).1 = SV.dens γ cs ∧ SV.idss D1 (frzC M fs cs n).1 = true
 | [], cs, n, hs, _, hcs => ⟨γ, D, Agree.refl _ _, fun _ h => h, fun _ h => .inl h, by rw [show (frzC M [] cs n).2.1 = [] from rfl, updM_nil]; exact hs, rfl, hcs⟩
 | _ :: _, [], n, hs, _, hcs => ⟨γ, D, Agree.refl _ _, fun _ h => h, fun _ h => .inl h, by rw [show (frzC M (_ :: _) [] n).2.1 = [] from rfl, updM_nil]; exact hs, rfl, hcs⟩
 | f :: fs, x :: cs, n, hs, hn, hcs => by
  simp only [SV.idss, zaT] at hcs
  obtain ⟨γ1, D1, k1, k2, k3, k4, k5, k6⟩ := frz_sat fs cs (n + 1) hs (fun i h1 h2 => hn i (by omega) (by simp only [List.length_cons]; omega)) hcs.2
  have keep : ∀ rd, frzC M (f :: fs) (x :: cs) n = (x :: (frzC M fs cs (n + 1)).1, (frzC M fs cs (n + 1)).2.1, rd) →
    ∃ γ1 D1, Agree (D · = true) γ γ1 ∧ (∀ j, D j = true → D1 j = true) ∧ (∀ j, D1 j = true → D j = true ∨ (n ≤ j ∧ j < n + (f :: fs).length)) ∧ Sat I N w0 S0 γ1 D1 E (updM (frzC M (f :: fs) (x :: cs) n).2.1 M) a w ∧ SV.dens γ1 (frzC M (f :: fs) (x :: cs) n).1 = SV.dens γ (x :: cs) ∧ SV.idss D1 (frzC M (f :: fs) (x :: cs) n).1 = true := by
   intro rd e
   rw [e]
   refine ⟨γ1, D1, k1, k2, fun j hj => (k3 j hj).imp id (fun h => ⟨by omega, by simp only [List.length_cons]; omega⟩), k4, ?_, ?_⟩
   ·simp only [SV.dens]; rw [k5, SV.den_agree k1 x hcs.1]
   ·simp only [SV.idss, SV.ids_mono k2 x hcs.1, k6, Bool.and_self]
  have hD1n : D1 n = false := by
   cases hd : D1 n with
   | false => rfl
   | true =>
    rcases k3 n hd with h | h
    ·rw [hn n (Nat.le_refl _) (by simp)] at h; cases h
    ·omega
  have thaw : ∀ (r : Nat) (gs : List DS) (dl : List (List DD)) (old : Res) (F : Nat → Prop) (rd : List Nat), x = .row r → frzC M (f :: fs) (x :: cs) n = (.row n :: (frzC M fs cs (n + 1)).1, (n, .deep gs dl) :: (r, .gone) :: (frzC M fs cs (n + 1)).2.1, rd) →
    updM (frzC M fs cs (n + 1)).2.1 M r = some old → old.mut = true → (∀ y, F y → old.foot γ1 r y ∨ ∃ q rq, updM (frzC M fs cs (n + 1)).2.1 M q = some rq ∧ rq.mut = false ∧ rq.foot γ1 q y) → DeepIn F w (γ1.val r) gs dl →
    ∃ γ1 D1, Agree (D · = true) γ γ1 ∧ (∀ j, D j = true → D1 j = true) ∧ (∀ j, D1 j = true → D j = true ∨ (n ≤ j ∧ j < n + (f :: fs).length)) ∧ Sat I N w0 S0 γ1 D1 E (updM (frzC M (f :: fs) (x :: cs) n).2.1 M) a w ∧ SV.dens γ1 (frzC M (f :: fs) (x :: cs) n).1 = SV.dens γ (x :: cs) ∧ SV.idss D1 (frzC M (f :: fs) (x :: cs) n).1 = true := by
   intro r gs dl old F rd hx e hr hmut hF hok
   subst hx
   rw [e]
   have hA : Agree (D1 · = true) γ1 (γ1.row' n (γ1.val r) F) := row'_agree hD1n
   have hr0 : γ1.val r = γ.val r := k1.val r (by simpa [SV.ids] using hcs.1)
   refine ⟨γ1.row' n (γ1.val r) F, fun j => D1 j || Nat.beq j n, k1.trans (hA.mono k2), fun j hj => by show (D1 j || _) = true; rw [k2 j hj]; rfl, fun j hj => ?_, ?_, ?_, ?_⟩
   ·simp only [Bool.or_eq_true] at hj
    rcases hj with hj | hj
    ·exact (k3 j hj).imp id (fun h => ⟨by omega, by simp only [List.length_cons]; omega⟩)
    ·have := zbE hj; subst this
     exact .inr ⟨Nat.le_refl _, by simp⟩
   ·rw [show ((n, Res.deep gs dl) :: (r, Res.gone) :: (frzC M fs cs (n + 1)).2.1 : Mem) = [(n, Res.deep gs dl), (r, Res.gone)] ++ (frzC M fs cs (n + 1)).2.1 from rfl, updM_app]
    refine sat_thaw k4 hD1n hr hmut rfl hF (fun _ => rfl) (fun _ _ => rfl) ?_
    simp only [ResOK, row'_val, row'_foot]
    exact hok
   ·simp only [SV.dens]
    rw [SV.dens_agree hA _ k6, k5]
    simp only [SV.den, row'_val, hr0]
   ·simp only [SV.idss, SV.ids, zaT]
    refine ⟨by simp, ?_⟩
    exact SV.idss_mono (fun j hj => by rw [hj]; rfl) _ k6
  have old_of : ∀ r, (look (frzC M fs cs (n + 1)).2.1 r).isNone = true → updM (frzC M fs cs (n + 1)).2.1 M r = M r := by
   intro r h
   unfold updM
   cases hl : look (frzC M fs cs (n + 1)).2.1 r with
   | none => rfl
   | some q => rw [hl] at h; cases h
  cases f with
  | n k =>
   cases x with
   | row r => exact keep _ rfl
   | _ => exact keep _ rfl
  | s gs =>
   cases x with
   | row r =>
    cases hMr : M r with
    | none => exact keep _ (by simp only [frzC, hMr] <;> rfl)
    | some q =>
     cases q with
     | own e ct =>
      cases hc : contD gs ct with
      | none => exact keep _ (by simp only [frzC, hMr, hc] <;> rfl)
      | some dl =>
       cases hl : (look (frzC M fs cs (n + 1)).2.1 r).isNone with
       | false => exact keep _ (by simp only [frzC, hMr, hc, hl] <;> rfl)
       | true =>
        have hr := (old_of r hl).trans hMr
        refine thaw r gs dl _ (γ1.foot r) _ rfl (by simp only [frzC, hMr, hc, hl]; rfl) hr rfl (fun y hy => .inl hy) (contD_deep hc ?_)
        exact row_reads k4.mem (.inr ⟨e, hr⟩)
     | ownq e z j =>
      cases hMj : M j with
      | none => exact keep _ (by simp only [frzC, hMr, hMj] <;> rfl)
      | some q2 =>
       cases q2 with
       | dpool hs2 l zz =>
        cases hb : (DS.beqs hs2 gs && Nat.beq z hs2.length && Nat.blt 0 z && (look (frzC M fs cs (n + 1)).2.1 r).isNone && (look (frzC M fs cs (n + 1)).2.1 j).isNone) with
        | false => exact keep _ (by simp only [frzC, hMr, hMj, hb] <;> rfl)
        | true =>
         have e2 : frzC M (.s gs :: fs) (.row r :: cs) n = (.row n :: (frzC M fs cs (n + 1)).1, (n, .deep gs l) :: (r, .gone) :: (frzC M fs cs (n + 1)).2.1, r :: j :: (frzC M fs cs (n + 1)).2.2) := by simp only [frzC, hMr, hMj, hb]
         simp only [zaT] at hb
         obtain ⟨⟨⟨⟨b1, b2⟩, b3⟩, b4⟩, b5⟩ := hb
         have b1 := DS.beqs_eq _ _ b1
         subst b1
         have hr := (old_of r b4).trans hMr
         have hj := (old_of j b5).trans hMj
         obtain ⟨_, _, o3, _, _, d, o5⟩ := dpool_reads k4.mem hr hj (zbE b2) (zbL b3)
         refine thaw r _ l _ (fun y => γ1.foot r y ∨ γ1.foot j y) _ rfl e2 hr rfl (fun y hy => hy.imp id (fun h => ⟨j, _, hj, rfl, h⟩)) ⟨d + 1, _, ReadsIn.mono (fun y hy => .inl hy) o3, fun k c f hk hf => ?_⟩
         obtain ⟨y, hy, hm⟩ := o5 k c f hk hf
         refine ⟨y, hy, ?_⟩
         cases f with
         | n q => exact hm
         | s gs => exact DeepN.mono (fun y hy => .inr hy) _ _ _ _ hm
       | _ => exact keep _ (by simp only [frzC, hMr, hMj] <;> rfl)
     | _ => exact keep _ (by simp only [frzC, hMr] <;> rfl)
   | _ => exact keep _ rfl
theorem memM_eq (fz : Mem) (M : Nat → Option Res) : memM fz M = updM fz M := by
 funext i; unfold memM updM; cases look fz i <;> rfl
theorem appQ_sound {c : Call} (ho : o.op = .call c) (hc : c.callee = .builtin .append) {t e : TypeId} {ti : TypeInfo} {z : Value} {s x : SV} (hT : c.argTypes = #[t, t]) (hA : c.args.map a.eval = #[s.den γ, x.den γ]) (hu : P.underlying t = some (.slice e)) (hti : P.info? e = some ti) (hz : ti.zero = some z) (hz1 : z.cells.size = ti.size) (h : appQ M b some none e ti.bytes ti.size s x = some r)
  (hs : Sat I N w0 S0 γ D E M a w) (hb : ∀ i, fresh b i = true → D i = false) (hd : ∀ x, o.dst = some x → x < N) (hr : RecIn D b r) : o.wp P a w (Done I N w0 S0 γ D E M b o.dst r) Q := by
 unfold appQ at h
 split at h
 ·rename_i q i
  split at h
  ·rename_i t' cs e' zz j hq hi
   split at h
   ·rename_i gs l zz hj
    simp only at h
    split at h
    case h_2 => cases h
    rename_i d rs al hcs
    split at h
    ·rename_i h1
     simp only [zaT] at h1
     obtain ⟨⟨⟨⟨⟨⟨⟨g2, g3⟩, g4⟩, g5⟩, g6⟩, ni⟩, nj⟩, nq⟩ := h1
     have g2 := zbE g2
     subst g2
     have g3 := zbE g3
     subst g3
     have g4 := zbE g4
     have g5 : 0 < ti.size := zbL g5
     have g6 := zbL g6
     split at h
     ·rename_i hbn
      simp only [zaT] at hbn
      have b1 := zbL hbn.1
      have b2 := zbL hbn.2
      simp only [zsI] at h
      subst h
      have hnew : ∀ n, b + 2 ≤ n → n < b + 2 + gs.length → fresh b n = true := fun n h1 h2 => by
       simp only [fresh, zaT]
       exact ⟨Nat.ble_eq_true_of_le (by omega), Nat.ble_eq_true_of_le (by omega)⟩
      obtain ⟨γ1, D1, k1, k2, k3, k4, k5, k6⟩ := frz_sat gs cs (b + 2) hs (fun n h1 h2 => hb n (hnew n h1 h2)) (hs.mids q _ hq).2
      have old_of : ∀ m, (look (frzC M gs cs (b + 2)).2.1 m).isNone = true → updM (frzC M gs cs (b + 2)).2.1 M m = M m := by
       intro m hm
       unfold updM
       cases hl : look (frzC M gs cs (b + 2)).2.1 m with
       | none => rfl
       | some q => rw [hl] at hm; cases hm
      have hi1 := (old_of i ni).trans hi
      have hj1 := (old_of j nj).trans hj
      have hq1 := (old_of q nq).trans hq
      rw [memM_eq] at hcs
      generalize hfz : (frzC M gs cs (b + 2)).2.1 = fz at *
      generalize hcs' : (frzC M gs cs (b + 2)).1 = cs' at *
      have hboth : both D1 b = both D b := by
       funext m
       show (D1 m || fresh b m) = (D m || fresh b m)
       cases hf : fresh b m with
       | true => simp
       | false =>
        rw [Bool.or_false, Bool.or_false]
        cases hD : D m with
        | true => exact k2 m hD
        | false =>
         cases hD1 : D1 m with
         | false => rfl
         | true =>
          rcases k3 m hD1 with h | h
          ·rw [hD] at h; cases h
          ·rw [hnew m h.1 h.2] at hf; cases hf
      have hD1 : ∀ n, n < b + 2 → D n = false → D1 n = false := by
       intro n hn hDn
       cases h : D1 n with
       | false => rfl
       | true =>
        rcases k3 n h with h | h
        ·rw [hDn] at h; cases h
        ·omega
      have hA1 : c.args.map a.eval = #[(SV.row i).den γ1, (SV.sl q 0 1 1).den γ1] := by
       rw [hA, SV.den_agree k1 (.row i) (by simpa [SV.ids] using (hs.mids i _ hi).1), SV.den_agree k1 (.sl q 0 1 1) (by simpa [SV.ids] using (hs.mids q _ hq).1)]
      obtain ⟨⟨F, n, hD⟩, hnil⟩ := dsCells_spec k4.mem gs cs' hcs
      obtain ⟨o1, o2, _, o4, o0, m, o5⟩ := dpool_reads k4.mem hi1 hj1 g4.symm g5
      have hg := k4.mem.ok q _ hq1
      simp only [ResOK] at hg
      rw [SV.dens_agree k1 cs (hs.mids q _ hq).2, ← k5] at hg
      have hx : (SV.sl q 0 1 1).den γ1 = .slice (some ⟨γ1.blk q, 0, none⟩) 1 1 := by simp [SV.den]
      have hlen : (SV.dens γ1 cs').length = ti.size := by rw [dens_length, ← hD.len, g4]
      rw [g4] at o1
      obtain ⟨v', w', r1, r2, r3, _, r5⟩ := run_append_own_at (P := P) w 0 t o.type e' ti z ti.size ti.bytes hu hti hz rfl rfl hz1 g5 (γ1.val i) l.length _ o1 ⟨γ1.blk q, 0, none⟩ 1 1 (SV.dens γ1 cs') (by rw [hlen, Nat.one_mul])
       (fun k u hk => by rw [add_off, cell_of_row _ _ _ _ _ _ hg]; simpa using hk) hD.one (by simp only [maxLen]; omega) b1 (Nat.zero_le _)
      have hpl : (poolVs (γ1.val j) ++ SV.dens γ1 cs').length = (l.length + 1) * ti.size := by rw [zlA, o4, hlen, g4, Nat.succ_mul]
      have hr1 : ∀ rd, RecIn D1 b ⟨.row b, [(b, .ownq e' ti.size (b + 1)), (b + 1, .dpool gs (l ++ [d]) (nilZ al zz)), (i, .gone)], rd⟩ := fun rd => by
       refine ⟨by rw [hboth]; exact hr.v, fun m y hm => ?_⟩
       rw [hboth]
       refine hr.effs m y ?_
       show look ([(b, Res.ownq e' ti.size (b + 1)), (b + 1, .dpool gs (l ++ [d]) (nilZ al zz)), (i, .gone)] ++ fz) m = some y
       rw [look_append]
       simp only at hm
       rw [hm]; rfl
      refine Oper.wp_mono (fun a' w' h => done_thaw (r1 := ⟨.row b, [(b, .ownq e' ti.size (b + 1)), (b + 1, .dpool gs (l ++ [d]) (nilZ al zz)), (i, .gone)], []⟩) h k1 k2 hboth (updM_app _ _ _).symm rfl) ?_
      refine onto_pool (xs := poolVs (γ1.val j) ++ SV.dens γ1 cs') (F := fun y => γ1.foot j y ∨ F y) ho hc hT hA1 hi1 rfl o2 (fun y hy => ?_) rfl (fun _ _ => rfl) ?_ (fun _ => rfl) (by rw [hx]; exact r1) (by rw [hpl, Nat.mul_div_cancel _ g5]; exact r2) r3 r5 k4 (hD1 b (by omega) (hb b (fresh_self b))) (hD1 (b + 1) (by omega) (hb (b + 1) (by simp [fresh]))) hd (hr1 _)
      ·rcases hy with hy | hy
       ·exact ⟨j, _, hj1, rfl, hy⟩
       ·exact hD.foot y hy
      ·simp only [ResOK, row'_val, row'_foot]
       have hpv : poolVs (.agg (poolVs (γ1.val j) ++ SV.dens γ1 cs').toArray) = poolVs (γ1.val j) ++ SV.dens γ1 cs' := rfl
       unfold DPoolIn
       rw [hpv]
       refine ⟨by rw [hpl, zlA, g4]; rfl, fun q' k c hs' hz' hqk hk hf => ?_, m + n, fun k c f hk hf => ?_⟩
       ·unfold nilZ at hz'
        split at hz'
        ·by_cases hkl : k < l.length
         ·have h3 := o0 q' k c hs' hz' hqk hkl hf
          rw [List.getElem?_append_left (List.getElem?_eq_some_iff.1 h3).1]; exact h3
         ·have hk1 : k = l.length := by simp at hk; omega
          subst hk1
          rw [← o4, List.getElem?_append_right (Nat.le_add_right _ _), Nat.add_sub_cancel_left]
          exact hnil rfl c hs' hf
        ·cases hz'
       by_cases hkl : k < l.length
       ·obtain ⟨y, hy, hm⟩ := o5 k c f hkl hf
        refine ⟨y, by rw [List.getElem?_append_left (List.getElem?_eq_some_iff.1 hy).1]; exact hy, ?_⟩
        have ed : ddAt (l ++ [d]) k c = ddAt l k c := by unfold ddAt; congr 1; rw [List.getD_eq_getElem?_getD, List.getD_eq_getElem?_getD, List.getElem?_append_left hkl]
        rw [ed]
        cases f with
        | n q => exact hm
        | s gs => exact DeepN.mono (fun y hy => .inl hy) _ _ _ _ (DeepN.le hm n)
       ·have hk1 : k = l.length := by simp at hk; omega
        subst hk1
        obtain ⟨y, hy, hm⟩ := hD.cell c f hf
        refine ⟨y, ?_, ?_⟩
        ·rw [← o4, List.getElem?_append_right (Nat.le_add_right _ _), Nat.add_sub_cancel_left]; exact hy
        have ed : ddAt (l ++ [d]) l.length c = d.getD c (.n 0) := by unfold ddAt; congr 1; rw [List.getD_eq_getElem?_getD, List.getElem?_append_right (Nat.le_refl _), Nat.sub_self]; rfl
        rw [ed]
        cases f with
        | n q => exact hm
        | s gs =>
         have h2 := DeepN.le hm m
         rw [Nat.add_comm] at h2
         exact DeepN.mono (fun y hy => .inr hy) _ _ _ _ h2
     ·cases h
    ·cases h
   ·cases h
  ·cases h
 ·cases h
theorem app_sound {c : Call} (ho : o.op = .call c) (hc : c.callee = .builtin .append) {t u : TypeId} {s x : SV} (ht : c.argTypes.toList = [t, u]) (hx : evs E c.args.toList = some [s, x]) (h : appStep P M b some none t u s x = some r)
  (hs : Sat I N w0 S0 γ D E M a w) (hb : ∀ i, fresh b i = true → D i = false) (hd : ∀ x, o.dst = some x → x < N) (hr : RecIn D b r) : o.wp P a w (Done I N w0 S0 γ D E M b o.dst r) Q := by
 have hT : c.argTypes = #[t, u] := by apply Array.ext'; simpa using ht
 have hA : c.args.map a.eval = #[s.den γ, x.den γ] := by
  have := (evals_of hs hx).1
  apply Array.ext'; simpa [SV.dens] using this
 have hbD : D b = false := hb b (fresh_self b)
 unfold appStep at h
 split at h
 ·rename_i e hu htu
  split at h
  ·rename_i ti hti
   split at h
   ·rename_i z hz
    split at h
    ·rename_i k hk hsz
     have hsz' := zbE hsz
     have hz1 : z.cells.size = 1 := by
      unfold kindOf0 at hk
      split at hk
      ·simp [Value.cells]
      ·cases hk
     split at h
     ·rename_i l2 rd hl2
      have hxr := contApp_reads (P := P) hs.mem htu hl2
      split at h
      ·-- onto nil
       split at h
       ·rename_i hbn
        simp only [zaT] at hbn
        have b1 := zbL hbn.1
        have b2 := zbL hbn.2
        simp only [zsI] at h
        subst h
        obtain ⟨v', w', h1, h2, h3, h4⟩ := append_own_run (P := P) (l1 := []) hu hti hz hz1 hsz' o.type (by simpa using World.ownsRow_nil w 0 e 1) hxr (by simpa using b1) (by simpa using b2)
        simp only [List.nil_append, List.length_nil, Nat.zero_add] at h2
        have hv' : ∀ g, v'.ownBlock = some g → g = w.heap.size := fun g hg => by
         rcases h4 with h4 | h4
         ·rw [h4] at hg; simp [Value.ownBlock] at hg
         ·rw [h4] at hg; simpa using hg.symm
        have hγ : Agree (D · = true) γ (γ.row' b v' (fun g => v'.ownBlock = some g)) := row'_agree hbD
        have hfr : Fr S0.w w w' := ⟨h3.os, h3.tape, h3.output, h3.size, fun y hy _ => h3.block y hy (by simp [Value.ownBlock])⟩
        refine done_gen hs hd hr hγ ?_ (hs.fr.trans hfr) ?_ (builtin_run ho hc (fun consts => ?_))
        ·refine msat_add (R := fun _ => False) hs.mem hs.mids hγ hbD h3.size (fun y hy _ => h3.block y hy (by simp [Value.ownBlock])) (fun _ _ _ _ _ h => h) ?_ (fun y hy => ?_)
         ·simp only [ResOK, row'_val, row'_foot]
          exact ⟨by simpa [Cont.sz, Cont.n, Cont.cells] using h2, fun g => by simp⟩
         ·simp only [Res.foot, row'_foot] at hy
          exact ⟨own_low h2 y hy, .inr (by rw [hv' y hy]; exact Nat.le_refl _)⟩
        ·intro j q y hj hy
         obtain ⟨rfl, rfl⟩ := look_one hj
         simp only [Res.foot, row'_foot] at hy
         rw [hv' y hy]
         exact .inl hs.fr.size
        ·rw [hT, hA]
         simp only [SV.den] at h1 ⊢
         simp only [builtin, Sem.run_bind, h1, Result.andThen_ok, Sem.run_pure, row'_val]
       ·cases h
      ·-- onto a slice of its own
       rename_i i
       split at h
       ·rename_i e' q l1 hM
        split at h
        case h_2 => cases h
        rename_i hqe
        split at h
        ·rename_i hbn
         simp only [zaT, decide_eq_true_eq] at hbn hqe
         have b1 := zbL hbn.1
         have b2 := zbL hbn.2
         obtain ⟨⟨rfl, he'⟩, hni⟩ := hqe
         have he'' := zbE he'
         subst he''
         simp only [zsI] at h
         subst h
         obtain ⟨hown, hfoot⟩ := hs.mem.ok i _ hM
         simp only [Cont.sz, Cont.n, Cont.cells] at hown
         obtain ⟨v', w', h1, h2, h3, h4⟩ := append_own_run (P := P) hu hti hz hz1 hsz' o.type hown hxr b1 b2
         have hγ : Agree (D · = true) γ (γ.row' b v' (fun g => v'.ownBlock = some g)) := row'_agree hbD
         have hib : i ≠ b := fun e => by subst e; have := (hs.mids i _ hM).1; rw [hbD] at this; cases this
         have hm1 : MSat I γ (updM [(i, .gone)] M) w := msat_write hs.mem hM rfl (Nat.le_refl _) (fun _ _ _ => rfl) trivial (fun x hx => hx.elim)
         have hget : ∀ j r, updM [(i, .gone)] M j = some r → (j = i ∧ r = .gone) ∨ (j ≠ i ∧ M j = some r) := by
          intro j r hj
          unfold updM at hj
          rw [look_cons] at hj
          split at hj
          ·rename_i e; subst e; simp only [Option.some_or, zsI] at hj; exact .inl ⟨rfl, hj.symm⟩
          ·rename_i e; exact .inr ⟨Ne.symm e, hj⟩
         have hmids1 : ∀ j r, updM [(i, .gone)] M j = some r → D j = true ∧ r.ids D = true := by
          intro j r hj
          rcases hget j r hj with ⟨rfl, rfl⟩ | ⟨_, hj'⟩
          ·exact ⟨(hs.mids j _ hM).1, rfl⟩
          ·exact hs.mids j r hj'
         have hfun : updM [(b, .own e' (.ints q (l1 ++ l2))), (i, .gone)] M = updM [(b, .own e' (.ints q (l1 ++ l2)))] (updM [(i, .gone)] M) := by
          funext j
          unfold updM
          rw [look_cons, look_cons, look_cons]
          by_cases hj : b = j
          ·rw [if_pos hj, if_pos hj]; rfl
          ·rw [if_neg hj, if_neg hj]; rfl
         have hRow : ∀ g, (γ.val i).ownBlock = some g → w0.heap.size ≤ g ∨ S0.w g := fun g hg => hs.ownm i _ g hM rfl ((hfoot g).2 hg)
         refine done_gen hs hd hr hγ ?_ (hs.fr.trans' (T := fun g => (γ.val i).ownBlock = some g) ⟨h3.os, h3.tape, h3.output, h3.size, fun y hy hn => h3.block y hy (fun e => hn e.symm)⟩ (fun x hx => (hRow x hx).symm)) ?_ (builtin_run ho hc (fun consts => ?_))
         ·show MSat I _ (updM [(b, .own e' (.ints q (l1 ++ l2))), (i, .gone)] M) w'
          rw [hfun]
          refine msat_add (R := fun g => (γ.val i).ownBlock = some g) hm1 hmids1 hγ hbD h3.size (fun y hy hn => h3.block y hy (fun e => hn e.symm)) (fun j r y hj hy hR => ?_) ?_ (fun y hy => ?_)
          ·rcases hget j r hj with ⟨rfl, rfl⟩ | ⟨hne, hj'⟩
           ·exact hy
           ·exact hs.mem.apart i j _ r y (Ne.symm hne) hM hj' rfl ((hfoot y).2 hR) hy
          ·simp only [ResOK, row'_val, row'_foot]
           exact ⟨by simpa [Cont.sz, Cont.n, Cont.cells] using h2, fun g => by simp⟩
          ·simp only [Res.foot, row'_foot] at hy
           refine ⟨own_low h2 y hy, ?_⟩
           rcases h4 with h4 | h4
           ·rw [h4] at hy; exact .inl hy
           ·rw [h4] at hy; right; have : w.heap.size = y := by simpa using hy
            omega
         ·intro j q y hj hy
          rw [look_cons] at hj
          split at hj
          ·rename_i e
           subst e
           simp only [zsI] at hj
           subst hj
           simp only [Res.foot, row'_foot] at hy
           rcases h4 with h4 | h4
           ·rw [h4] at hy; exact lift2 (hRow y hy)
           ·rw [h4] at hy
            have : w.heap.size = y := by simpa using hy
            subst this
            exact .inl hs.fr.size
          ·obtain ⟨rfl, rfl⟩ := look_one hj
           exact hy.elim
         ·rw [hT, hA]
          simp only [SV.den] at h1 ⊢
          simp only [builtin, Sem.run_bind, h1, Result.andThen_ok, Sem.run_pure, row'_val]
        ·cases h
       ·cases h
      ·cases h
     ·cases h
    ·rename_i hk hsz
     split at h
     ·rename_i hb2
      simp only [zaT] at hb2
      have htu' := zbE hb2.1
      subst htu'
      exact appRows_sound ho hc hT hA hu hti hz (zbE hb2.2) (zbE hsz) h hs hb hd hr fun l rd hl => cellsApp_ids hs.mids hl
     ·cases h
    ·split at h
     ·rename_i ks htu2 _
      split at h
      ·rename_i hb2
       simp only [zaT] at hb2
       have htu' := zbE htu2
       subst htu'
       exact appS_sound ho hc hT hA hu hti hz (zbE hb2.1.2) (zbE hb2.1.1) (zbL hb2.2) h hs hb hd hr
      ·cases h
     ·rename_i htu2 _
      split at h
      ·rename_i hb2
       have htu' := zbE htu2
       subst htu'
       exact appQ_sound ho hc hT hA hu hti hz (zbE hb2) h hs hb hd hr
      ·cases h
     ·cases h
   ·cases h
  ·cases h
 ·cases h
theorem fn_of {f : SV} {g : FuncId} {caps : List SV} (h : fnOf f = some (g, caps)) (γ : Vn) : f.den γ = .func (.func g) #[] (SV.dens γ caps).toArray := by
 unfold fnOf at h
 split at h
 ·simp only [zsI, zpI] at h; obtain ⟨rfl, rfl⟩ := h; simp [SV.den, SV.dens]
 ·simp only [zsI, zpI] at h; obtain ⟨rfl, rfl⟩ := h; simp [SV.den]
 ·cases h
theorem fn_ids {f : SV} {g : FuncId} {caps : List SV} (h : fnOf f = some (g, caps)) {p : Nat → Bool} (hf : f.ids p = true) : SV.idss p caps = true := by
 unfold fnOf at h
 split at h
 ·simp only [zsI, zpI] at h; obtain ⟨rfl, rfl⟩ := h; simp [SV.idss]
 ·simp only [zsI, zpI] at h; obtain ⟨rfl, rfl⟩ := h; simpa [SV.ids] using hf
 ·cases h
theorem call_sound {f : Operand} {fv : SV} {g : FuncId} {caps : List SV} {c : Call} {args : List SV} (hsp : ∀ f s, sp f = some s → SpecOK I P f s) (ho : o.op = .call c) (hc : c.callee = .value f) (hf : ev E f = some fv) (hfn : fnOf fv = some (g, caps)) (hargs : evs E c.args.toList = some args) (h : callStep sp M b some none g (args ++ caps) = some r)
  (hs : Sat I N w0 S0 γ D E M a w) (hb : ∀ i, fresh b i = true → D i = false) (hd : ∀ x, o.dst = some x → x < N) (hr : RecIn D b r) : o.wp P a w (Done I N w0 S0 γ D E M b o.dst r) Q := by
 unfold callStep at h
 split at h
 ·rename_i s hg
  split at h
  ·rename_i hfit
   rw [selK_eq] at h
   simp only [zsI] at h
   obtain ⟨h1, h2⟩ := evals_of hs hargs
   have hids : SV.idss D (args ++ caps) = true := by
    have h3 := fn_ids hfn (ids_of hs hf)
    rw [idss_eq] at h2 h3 ⊢
    rw [List.all_append, h2, h3]; rfl
   refine done_call hs hb hd (hsp g s hg) hids hfit h.symm hr ?_
   have he : c.args.map a.eval = (SV.dens γ args).toArray := by rw [← h1]; apply Array.ext'; simp
   have hfe := eval_of hs hf
   rw [fn_of hfn] at hfe
   have := (hsp g s hg).enters ((SV.dens γ args).toArray ++ (SV.dens γ caps).toArray) w
   have hcat : (SV.dens γ args).toArray ++ (SV.dens γ caps).toArray = (SV.dens γ (args ++ caps)).toArray := by
    rw [dens_append]; apply Array.ext'; simp
   rw [hcat] at this
   unfold execOp
   simp only [ho, resolve, hc, Deferred.ofValue, hfe, Sem.run_bind, Sem.run_pure, Result.andThen_ok, invoke, he, Array.empty_append, hcat, this]
  ·cases h
 ·cases h
theorem conv_run {s d : TypeId} {x : Operand} (ho : o.op = .convert s d x) {v : Value} {w' : World} (h : (convert s d (a.eval x)).run P w = .ok v w') : (execOp a.eval o).run P w = .ok (.value v) w' := by
 unfold execOp; simp [ho, h]
theorem u8_of {e : TypeId} (h : isU8 P e = true) : P.underlying e = some (.int .u8) := by
 unfold isU8 at h
 split at h
 ·assumption
 ·cases h
theorem strOf_run {s d e : TypeId} (hs' : P.underlying s = some (.slice e)) (hd' : P.underlying d = some .string) (he : P.underlying e = some (.int .u8)) (hs : MSat I γ M w) {x : SV} {l : List Int} {rd : List Nat} (h : contOf M .u8 x = some (l, rd)) : (convert s d (x.den γ)).run P w = .ok (.string (strOfNums l)) w := by
 rcases cont_reads hs h with ⟨h1, rfl⟩ | ⟨ad, cap, h1, h2⟩
 ·rw [h1, run_convert_bytes_nil w s e hs' he 0 0 d hd']; rfl
 ·rw [h1, run_convert_bytes_string w s d e _ _ _ hs' he hd']
  have hl := run_loadCells_list (P := P) w ad (l.map (Value.int .u8)) (fun j v hv => h2 j v hv)
  rw [List.length_map] at hl
  rw [run_bytesToString w ad _ cap l hl, foldl_push_bytes]
  congr 2
  simp [strOfNums]
theorem freeze_fr (w : World) (g n : Nat) : Fr (fun x => x = g) w (w.freeze ⟨g, n, none⟩ 1) := by
 unfold World.freeze
 rw [if_neg (by decide)]
 refine ⟨rfl, rfl, rfl, by simp, fun x hx hn => ?_⟩
 simp only [Array.getElem?_modify]
 rw [if_neg (fun e => hn e.symm)]
theorem freeze_heap (w : World) (g : Nat) (cs : Array Value) (e : TypeId) (n : Nat) (hg : w.heap[g]? = some (.cells cs e (0, 0))) : (w.freeze ⟨g, n, none⟩ 1).heap[g]? = some (.cells cs e (n, n + 1)) := by
 unfold World.freeze
 rw [if_neg (by decide)]
 simp only [Array.getElem?_modify, if_true, hg]
 rfl
theorem conv_sound {s d : TypeId} {x : Operand} {u : SV} (ho : o.op = .convert s d x) (hx : ev E x = some u) (h : convStep P o E M b some none s d u = some r)
  (hs : Sat I N w0 S0 γ D E M a w) (hb : ∀ i, fresh b i = true → D i = false) (hd : ∀ x, o.dst = some x → x < N) (hr : RecIn D b r) : o.wp P a w (Done I N w0 S0 γ D E M b o.dst r) Q := by
 have ex := eval_of hs hx
 have tos : ∀ (e : TypeId) (y : SV), u = y → P.underlying s = some (.slice e) → P.underlying d = some .string → toStr P M some none e y = some r → o.wp P a w (Done I N w0 S0 γ D E M b o.dst r) Q := by
  intro e y hy h1 h2 h3
  subst hy
  unfold toStr at h3
  split at h3
  ·rename_i l rd h4 h5
   simp only [zsI] at h3
   subst h3
   refine done_val hs hd hr (conv_run ho ?_)
   rw [ex, strOf_run h1 h2 (u8_of h4) hs.mem h5]
   simp [SV.den]
  ·cases h3
 unfold convStep at h
 split at h
 ·rename_i e y h1 h2
  split at h
  ·rename_i he
   simp only [zaT] at he
   have hlen : y.size ≤ maxLen := zbL he.2
   have he := he.1
   simp only [zsI] at h
   subst h
   have hbD : D b = false := hb b (fresh_self b)
   have hrun := run_bytes_of_string (P := P) w s d e y h1 h2 (u8_of he)
   have hγ : Agree (D · = true) γ (γ.row' b (.slice (some ⟨w.heap.size, 0, none⟩) y.size (grownCap w y.size 0 e)) (fun x => x = w.heap.size)) := row'_agree hbD
   have hfr : ∀ S, Fr S w (w.drew.alloc (.cells (bytesRow y (grownCap w y.size 0 e)) e ((bytesRow y (grownCap w y.size 0 e)).size, (bytesRow y (grownCap w y.size 0 e)).size + 1))) := fun S =>
    ⟨rfl, rfl, rfl, by simp, fun k hk _ => alloc_old w.drew _ hk⟩
   have hsz : y.size = (strI y).length := (strI_len y).symm
   have hget : (w.drew.alloc (.cells (bytesRow y (grownCap w y.size 0 e)) e ((bytesRow y (grownCap w y.size 0 e)).size, (bytesRow y (grownCap w y.size 0 e)).size + 1))).heap[w.heap.size]? = some (.cells (bytesRow y (grownCap w y.size 0 e)) e ((bytesRow y (grownCap w y.size 0 e)).size, (bytesRow y (grownCap w y.size 0 e)).size + 1)) := alloc_new w.drew _
   refine done_gen hs hd hr hγ ?_ (hs.fr.trans (hfr _)) ?_ (conv_run ho (by rw [ex]; simp only [SV.den]; rw [hrun]; simp [row'_val]))
   ·refine msat_add (R := fun _ => False) hs.mem hs.mids hγ hbD (hfr (fun _ => False)).size (fun x hx _ => (hfr (fun _ => False)).same x hx (fun h => h)) (fun _ _ _ _ _ h => h) ?_ (fun x hx => ?_)
    ·simp only [ResOK, row'_val, row'_foot]
     refine ⟨Cont.cells_length _, ?_⟩
     refine .inr (.inl ⟨⟨w.heap.size, 0, none⟩, grownCap w y.size 0 e, by simp [Cont.n, strI_len], rfl, rfl, by simp only [Cont.n, strI_len]; exact grownCap_ge w _ 0 e, grownCap_le_maxLen w y.size 0 e hlen, fun i u hu => ?_⟩)
     rw [add_off, cell_of_row _ _ _ _ _ _ hget]
     simp only [Nat.zero_add]
     have hi : i < y.size := by
      have := (List.getElem?_eq_some_iff.1 hu).1
      simpa [Cont.cells, strI_len] using this
     simp only [Cont.cells, strI, List.map_map] at hu
     unfold bytesRow
     rw [Array.getElem?_append_left (by simpa using hi)]
     simpa using hu
    ·simp only [Res.foot, row'_foot] at hx
     subst hx
     exact ⟨by simp, .inr (Nat.le_refl _)⟩
   ·intro i x y hi hy
    obtain ⟨rfl, rfl⟩ := look_one hi
    simp only [Res.foot, row'_foot] at hy
    subst hy
    exact .inl hs.fr.size
  ·cases h
 ·rename_i e i h1 h2; exact tos e _ rfl h1 h2 h
 ·rename_i e i f l c h1 h2; exact tos e _ rfl h1 h2 h
 ·rename_i e0 e i h1 h2
  split at h
  ·rename_i e' q l hM
   split at h
   ·rename_i hc
    simp only [zaT, decide_eq_true_eq] at hc
    obtain ⟨⟨⟨hsd, hu⟩, hq⟩, hlt⟩ := hc
    subst hq
    have hsd' := zbE hsd
    subst hsd'
    have hlt' : 0 < l.length := zbL hlt
    simp only [zsI] at h
    subst h
    obtain ⟨hown, hfoot⟩ := hs.mem.ok i _ hM
    obtain ⟨hlen, hsh⟩ := hown
    rcases hsh with ⟨_, h0⟩ | ⟨g, cap, cur, e1, hg0, hg, hcap, hm, hcs, htk⟩
    ·simp only [Cont.n] at h0; omega
    ·simp only [Cont.n, Cont.sz, Cont.cells, Nat.mul_one] at hcap hcs htk e1
     simp only [SV.den] at ex
     have hF : γ.foot i g := (hfoot g).2 (by simp [e1, Value.ownBlock])
     have hrun : (convert s s (γ.val i)).run P w = .ok (γ.val i) (w.freeze ⟨g, cur.size, none⟩ 1) := by
      have hsh : w.shape? g = some (e', cur.size) := by unfold World.shape?; rw [hg]
      rw [e1]
      simp [convert, Go.run_underlying h2, Go.run_underlying (u8_of hu), markStringish, hsh]
     have hownS : w0.heap.size ≤ g ∨ S0.w g := hs.ownm i _ g hM rfl hF
     have hone : ∀ x, γ.foot i x → x = g := fun x hx => by
      have := (hfoot x).1 hx
      simp only [e1, Value.ownBlock, zsI] at this
      exact this.symm
     refine done_gen hs hd hr (Agree.refl _ _) ?_ (hs.fr.trans' (freeze_fr w g cur.size) (fun x hx => by subst hx; exact hownS.symm)) ?_ (conv_run ho (by rw [ex]; simp only [SV.den]; exact hrun))
     ·refine msat_write hs.mem hM rfl (freeze_fr w g cur.size).size (fun x hx hn => (freeze_fr w g cur.size).same x hx (fun e => hn (by subst e; exact hF))) ?_ (fun x hx => hx)
      refine ⟨Cont.cells_length _, .inr (.inl ⟨⟨g, 0, none⟩, cap, e1, hF, rfl, hcap, hm, fun j u hu => ?_⟩)⟩
      rw [add_off, cell_of_row _ _ _ _ _ _ (freeze_heap w g cur e' cur.size hg)]
      simp only [Nat.zero_add]
      simp only [Cont.cells] at hu
      rw [← htk, List.getElem?_take] at hu
      split at hu
      ·simpa using hu
      ·cases hu
     ·intro j x y hj hyy
      rw [look_cons] at hj
      split at hj
      ·rename_i hji
       subst hji
       simp only [zsI] at hj
       subst hj
       simp only [Res.foot] at hyy
       rw [hone y hyy]
       exact lift2 hownS
      ·cases hj
   ·cases h
  ·cases h
 ·exact pure_sound (by simp [ho]) h hs hd hr
end
end Sx

/- Further operations: the beginning of a slice put in its place, zeros appended to nothing, copies into an array. -/
namespace Sx
open Go
set_option linter.unusedVariables false
set_option linter.unusedSimpArgs false
section
variable {I : Interp} {P : Program} {sp : FuncId → Option Spec} {N : Nat} {w0 : World} {S0 : Ft} {γ : Vn} {D : Nat → Bool} {E : Nat → Option SV} {M : Nat → Option Res} {a : Act} {w : World} {b : Nat} {o : Oper} {Q : Exit → Act → World → Prop} {r : Rec}
theorem sub_cells {c : Cont} {h : Nat} : (c.sub 0 h).cells = c.cells.take (h * c.sz) := by
 cases c with
 | ints k l => simp [Cont.sub, Cont.cells, Cont.sz, List.map_take]
 | structs ks l =>
  simp only [Cont.sub, Cont.cells, Cont.sz, List.drop_zero, Nat.sub_zero]
  exact (flat_take l h fun x => by simp [ecells_size]).symm
theorem gone_get {i : Nat} {old : Res} (hM : M i = some old) : ∀ j r, updM [(i, .gone)] M j = some r → (j = i ∧ r = .gone) ∨ (j ≠ i ∧ M j = some r) := by
 intro j r hj
 unfold updM at hj
 rw [look_cons] at hj
 split at hj
 ·rename_i e; subst e; simp only [Option.some_or, zsI] at hj; exact .inl ⟨rfl, hj.symm⟩
 ·rename_i e; exact .inr ⟨Ne.symm e, hj⟩
theorem cut_sound {t : TypeId} {x : Operand} {lo hi : Option Operand} {u : SV} (ho : o.op = .slice t x lo hi none) (hx : ev E x = some u) (h : cutStep P o E M b some none t u lo hi = some r)
  (hs : Sat I N w0 S0 γ D E M a w) (hb : ∀ i, fresh b i = true → D i = false) (hd : ∀ x, o.dst = some x → x < N) (hr : RecIn D b r) : o.wp P a w (Done I N w0 S0 γ D E M b o.dst r) Q := by
 have ex := eval_of hs hx
 have hbD : D b = false := hb b (fresh_self b)
 unfold cutStep at h
 split at h
 ·split at h
  ·rename_i e i hu
   simp only [SV.den] at ex
   split at h
   ·rename_i ti e' c hti hM
    split at h
    ·rename_i h' hsz hh
     split at h
     ·rename_i hc
      simp only [zaT, decide_eq_true_eq] at hc
      obtain ⟨h0, h2⟩ := hc
      simp only [zsI] at h
      subst h
      obtain ⟨hown, hfoot⟩ := hs.mem.ok i _ hM
      obtain ⟨s1, s2, _⟩ := sub_get (c := c) (l := 0) (h := h'.toNat) (Nat.zero_le _) (by omega)
      rw [Nat.sub_zero] at s1
      obtain ⟨base, cap, e1, hcap, key⟩ : ∃ (base : Option Addr) (cap : Nat), γ.val i = .slice base c.n cap ∧ c.n ≤ cap ∧ (w.ownsRow 0 e' c.sz (.slice base h'.toNat cap) h'.toNat (c.sub 0 h'.toNat).cells ∧ (∀ g, (Value.slice base h'.toNat cap).ownBlock = some g ↔ (γ.val i).ownBlock = some g) ∧ (if cap = 0 then base else base.map (·.add (0 * c.sz))) = base) := by
       rcases hown.2 with ⟨hv, hn⟩ | ⟨g, cap, cur, hv, hb0, hg, hc1, hc2, hc3, hc4⟩
       ·have e0 : h'.toNat = 0 := by omega
        refine ⟨none, 0, by rw [hv, hn], by omega, ?_, fun g => by rw [hv]; simp [Value.ownBlock], by simp⟩
        rw [e0]
        have : (c.sub 0 0).cells = [] := by rw [sub_cells]; simp
        rw [this]; exact World.ownsRow_nil w 0 e' _
       ·refine ⟨some ⟨g, 0, none⟩, cap, hv, hc1, ⟨by rw [Cont.cells_length, s1, s2], .inr ⟨g, cap, cur, rfl, hb0, hg, by omega, hc2, hc3, ?_⟩⟩, fun k => by rw [hv]; simp [Value.ownBlock], ?_⟩
        ·rw [sub_cells, ← hc4, List.take_take]
         congr 1
         have : h'.toNat * c.sz ≤ c.n * c.sz := Nat.mul_le_mul_right _ (by omega)
         omega
        ·split
         ·rfl
         ·simp [add_off]
      obtain ⟨k1, k2, k3⟩ := key
      have hrun := sliceAt_run (P := P) (base := base) (lo := none) (l := 0) (h := h') hs hu hti rfl hh (Int.le_refl _) h0 h2 hcap
      rw [zbE hsz] at hrun
      have hv : (Instr.sliceAt t (γ.val i) none (hi.map a.eval) none).run P w = .ok (.slice base h'.toNat cap) w := by
       rw [e1]
       simpa only [Option.map_none, Int.toNat_zero, Nat.sub_zero, k3] using hrun
      have hγ : Agree (D · = true) γ (γ.row' b (.slice base h'.toNat cap) (fun g => (Value.slice base h'.toNat cap).ownBlock = some g)) := row'_agree hbD
      have hm1 : MSat I γ (updM [(i, .gone)] M) w := msat_write hs.mem hM rfl (Nat.le_refl _) (fun _ _ _ => rfl) trivial (fun x hx => hx.elim)
      have hmids1 : ∀ j r, updM [(i, .gone)] M j = some r → D j = true ∧ r.ids D = true := by
       intro j r hj
       rcases gone_get hM j r hj with ⟨rfl, rfl⟩ | ⟨_, hj'⟩
       ·exact ⟨(hs.mids j _ hM).1, rfl⟩
       ·exact hs.mids j r hj'
      have hfun : updM [(b, .own e' (c.sub 0 h'.toNat)), (i, .gone)] M = updM [(b, .own e' (c.sub 0 h'.toNat))] (updM [(i, .gone)] M) := by
       funext j
       unfold updM
       rw [look_cons, look_cons, look_cons]
       by_cases hj : b = j
       ·rw [if_pos hj, if_pos hj]; rfl
       ·rw [if_neg hj, if_neg hj]; rfl
      have hRow : ∀ g, (γ.val i).ownBlock = some g → w0.heap.size ≤ g ∨ S0.w g := fun g hg => hs.ownm i _ g hM rfl ((hfoot g).2 hg)
      refine done_gen hs hd hr hγ ?_ hs.fr ?_ (slice_run ho ex ?_)
      ·show MSat I _ (updM [(b, .own e' (c.sub 0 h'.toNat)), (i, .gone)] M) w
       rw [hfun]
       refine msat_add (R := fun g => (γ.val i).ownBlock = some g) hm1 hmids1 hγ hbD (Nat.le_refl _) (fun _ _ _ => rfl) (fun j r y hj hy hR => ?_) ?_ (fun y hy => ?_)
       ·rcases gone_get hM j r hj with ⟨rfl, rfl⟩ | ⟨hne, hj'⟩
        ·exact hy
        ·exact hs.mem.apart i j _ r y (Ne.symm hne) hM hj' rfl ((hfoot y).2 hR) hy
       ·simp only [ResOK, row'_val, row'_foot]
        rw [s1, s2]
        exact ⟨k1, fun g => by simp⟩
       ·simp only [Res.foot, row'_foot] at hy
        have hy' := (k2 y).1 hy
        exact ⟨own_low hown y hy', .inl hy'⟩
      ·intro j q y hj hy
       rw [look_cons] at hj
       split at hj
       ·rename_i e
        subst e
        simp only [zsI] at hj
        subst hj
        simp only [Res.foot, row'_foot] at hy
        exact lift2 (hRow y ((k2 y).1 hy))
       ·obtain ⟨rfl, rfl⟩ := look_one hj
        exact hy.elim
      ·rw [show (none : Option Operand).map a.eval = none from rfl, hv]
       simp only [SV.den, row'_val]
     ·cases h
    ·cases h
   ·exact slice_sound ho hx h hs hb hd hr
  ·exact slice_sound ho hx h hs hb hd hr
 ·exact slice_sound ho hx h hs hb hd hr
theorem zeros_sound {c : Call} (ho : o.op = .call c) (hc : c.callee = .builtin .append) {t u : TypeId} {s x : SV} (ht : c.argTypes.toList = [t, u]) (hx : evs E c.args.toList = some [s, x]) (hi : isIntT P u = true) (h : zerosStep P b some none t s x = some r)
  (hs : Sat I N w0 S0 γ D E M a w) (hb : ∀ i, fresh b i = true → D i = false) (hd : ∀ x, o.dst = some x → x < N) (hr : RecIn D b r) : o.wp P a w (Done I N w0 S0 γ D E M b o.dst r) Q := by
 have hbD : D b = false := hb b (fresh_self b)
 have hT : c.argTypes = #[t, u] := by apply Array.ext'; simpa using ht
 have hA : c.args.map a.eval = #[s.den γ, x.den γ] := by
  apply Array.ext'
  have := (evals_of hs hx).1
  simpa [SV.dens] using this
 unfold zerosStep at h
 split at h
 ·rename_i e k m hu
  split at h
  ·rename_i ti hti
   split at h
   ·rename_i z hz
    split at h
    ·rename_i kd hkd hsz
     split at h
     ·rename_i hall
      simp only [zaT, decide_eq_true_eq, Nat.ble_eq] at hall
      obtain ⟨⟨h0, h63⟩, hbytes⟩ := hall
      simp only [zsI] at h
      subst h
      have hsz' := zbE hsz
      have hzv : z = .int kd 0 := by
       unfold kindOf0 at hkd
       split at hkd
       ·simp only [zsI] at hkd; subst hkd; rfl
       ·cases hkd
      obtain ⟨kn, hui⟩ : ∃ kn, P.underlying u = some (.int kn) := by
       unfold isIntT at hi
       split at hi
       ·rename_i kn hk; exact ⟨kn, hk⟩
       ·cases hi
      have em : (m.toNat : Int) = m := Int.toNat_of_nonneg (by omega)
      have hrun := Lib.run_append_nil_zeros (P := P) w t u o.type e ti z k kn hu hui hti hz m.toNat (by omega) (by omega) (by omega) (by omega)
      rw [em] at hrun
      have hG := grownCap_ge w m.toNat 0 e
      have hG63 := grownCap_le_maxLen w m.toNat 0 e (by unfold maxLen; omega)
      generalize grownCap w m.toNat 0 e = G at hrun hG hG63
      have hlow : (w.drew).heap.size = w.heap.size := rfl
      have hown : (w.drew.alloc (.cells (Builtin.zeroCells z.cells m.toNat ++ Builtin.zeroCells z.cells (G - m.toNat)) e)).ownsRow 0 e 1 (.slice (some ⟨w.heap.size, 0, none⟩) m.toNat G) m.toNat ((List.replicate m.toNat (0 : Int)).map (Value.int kd)) := by
       refine ⟨by simp, .inr ⟨w.heap.size, G, _, rfl, Nat.zero_le _, alloc_new w.drew _, hG, hG63, ?_, ?_⟩⟩
       ·subst hzv; simp [Builtin.zeroCells, Value.cells]; omega
       ·subst hzv
        rw [Array.toList_append, List.take_append_of_le_length (by simp [Builtin.zeroCells, Value.cells])]
        simp only [Builtin.zeroCells, Value.cells, List.map_replicate]
        apply List.ext_getElem?
        intro i
        by_cases hi : i < m.toNat
        ·simp [List.getElem?_take, hi, List.getElem?_replicate, Nat.mod_one]
        ·simp [List.getElem?_take, hi, List.getElem?_replicate]
      have hγ : Agree (D · = true) γ (γ.row' b (.slice (some ⟨w.heap.size, 0, none⟩) m.toNat G) (fun g => g = w.heap.size)) := row'_agree hbD
      have hfr : ∀ S : Nat → Prop, Fr S w (w.drew.alloc (.cells (Builtin.zeroCells z.cells m.toNat ++ Builtin.zeroCells z.cells (G - m.toNat)) e)) := fun S => ⟨rfl, rfl, rfl, by show _ ≤ (w.heap.push _).size; simp, fun y hy _ => alloc_old w.drew _ hy⟩
      refine done_gen hs hd hr hγ ?_ (hs.fr.trans (hfr S0.w)) ?_ (builtin_run ho hc (fun consts => ?_))
      ·refine msat_add (R := fun _ => False) hs.mem hs.mids hγ hbD (hfr fun _ => False).size (fun y hy _ => alloc_old w.drew _ hy) (fun _ _ _ _ _ h => h) ?_ (fun y hy => ?_)
       ·simp only [ResOK, row'_val, row'_foot]
        refine ⟨by simpa [Cont.n, Cont.sz, Cont.cells] using hown, fun g => ?_⟩
        simp [Value.ownBlock, eq_comm]
       ·simp only [Res.foot, row'_foot] at hy
        subst hy
        exact ⟨by show _ < (w.heap.push _).size; simp, .inr (Nat.le_refl _)⟩
      ·intro j q y hj hy
       obtain ⟨rfl, rfl⟩ := look_one hj
       simp only [Res.foot, row'_foot] at hy
       subst hy
       exact .inl hs.fr.size
      ·rw [hT, hA]
       simp only [SV.den]
       simp only [builtin, Sem.run_bind, hrun, Result.andThen_ok, Sem.run_pure, row'_val]
     ·cases h
    ·cases h
   ·cases h
  ·cases h
 ·cases h
theorem cpGo_get (l0 : List Int) (off n : Nat) (l : List Int) : ∀ (m j i : Nat), (cpGo l0 off n l m j)[i]? = if i < m then some (bif Nat.ble off (j + i) && Nat.blt (j + i) (off + n) && Nat.blt (j + i - off) l.length then l.getD (j + i - off) 0 else l0.getD (j + i) 0) else none
 | 0, j, i => by simp [cpGo]
 | m + 1, j, 0 => by simp [cpGo]
 | m + 1, j, i + 1 => by
  rw [cpGo, List.getElem?_cons_succ, cpGo_get l0 off n l m (j + 1) i, show j + 1 + i = j + (i + 1) by omega]
  simp only [Nat.add_lt_add_iff_right]
theorem cpGo_eq {l0 : List Int} {off n : Nat} {l : List Int} {m : Nat} (h0 : l0.length = m) (hf : off + n ≤ m) : cpGo l0 off n l m 0 = l0.take off ++ l.take n ++ l0.drop (off + Nat.min l.length n) := by
 apply List.ext_getElem?
 intro i
 rw [cpGo_get, Nat.zero_add]
 have e1 : (l0.take off).length = off := by simp; omega
 have e2 : (l0.take off ++ l.take n).length = off + Nat.min l.length n := by simp only [zlA, e1, List.length_take, Nat.min_def]; split <;> split <;> omega
 have hmin : Nat.min l.length n = if l.length ≤ n then l.length else n := Nat.min_def
 by_cases h1 : i < m
 ·rw [if_pos h1]
  by_cases h2 : i < off
  ·have : Nat.ble off i = false := by cases h : Nat.ble off i with | false => rfl | true => exact absurd (zbL h) (by omega)
   rw [this, List.append_assoc, List.getElem?_append_left (by omega), List.getElem?_take, if_pos h2]
   simp [List.getD, show i < l0.length by omega]
  ·have hb : Nat.ble off i = true := Nat.ble_eq_true_of_le (by omega)
   by_cases h3 : i - off < Nat.min l.length n
   ·have ha : i - off < l.length ∧ i - off < n := by rw [hmin] at h3; split at h3 <;> omega
    have hc : Nat.blt i (off + n) = true := Nat.ble_eq_true_of_le (by omega)
    have hd : Nat.blt (i - off) l.length = true := Nat.ble_eq_true_of_le (by omega)
    rw [hb, hc, hd, List.getElem?_append_left (by rw [e2]; omega), List.getElem?_append_right (by omega), e1, List.getElem?_take, if_pos ha.2]
    simp [List.getD, ha.1]
   ·have hcd : (Nat.blt i (off + n) && Nat.blt (i - off) l.length) = false := by
     cases hq : (Nat.blt i (off + n) && Nat.blt (i - off) l.length) with
     | false => rfl
     | true =>
      simp only [zaT] at hq
      have q1 : i < off + n := zbL hq.1
      have q2 : i - off < l.length := zbL hq.2
      exfalso; rw [hmin] at h3; split at h3 <;> omega
    rw [Bool.and_assoc, hcd, Bool.and_false, List.getElem?_append_right (by rw [e2]; omega), e2, List.getElem?_drop, show off + Nat.min l.length n + (i - (off + Nat.min l.length n)) = i by omega]
    simp [List.getD, show i < l0.length by omega]
 ·rw [if_neg h1, List.getElem?_eq_none]
  simp only [zlA, List.length_drop, e1, List.length_take]
  rw [hmin]
  split <;> simp only [Nat.min_def] <;> split <;> omega
theorem copy_sound {c : Call} (ho : o.op = .call c) (hc : c.callee = .builtin .copy) {t u : TypeId} {d x : SV} (ht : c.argTypes.toList = [t, u]) (hx : evs E c.args.toList = some [d, x]) (h : copyStep P M some none t d x = some r)
  (hs : Sat I N w0 S0 γ D E M a w) (hb : ∀ i, fresh b i = true → D i = false) (hd : ∀ x, o.dst = some x → x < N) (hr : RecIn D b r) : o.wp P a w (Done I N w0 S0 γ D E M b o.dst r) Q := by
 have hT : c.argTypes = #[t, u] := by apply Array.ext'; simpa using ht
 have hA : c.args.map a.eval = #[d.den γ, x.den γ] := by
  apply Array.ext'
  have := (evals_of hs hx).1
  simpa [SV.dens] using this
 unfold copyStep at h
 split at h
 ·rename_i e i off n cap hu
  split at h
  ·rename_i ti et m arr hti hM
   split at h
   ·rename_i l0 l rd hsz hl0 hl
    split at h
    ·rename_i hni
     simp only [zaT] at hsz
     have hs1 := zbE hsz.1
     have hof := zbL hsz.2
     simp only [zsI] at h
     subst h
     obtain ⟨hm, hg⟩ := hs.mem.ok i _ hM
     have hden := ints?_den hl0 γ
     rw [dens_map_v] at hden
     have hlen0 : l0.length = m := by
      have := congrArg List.length hden
      simp only [Array.length_toList, List.length_map] at this
      omega
     have hrun : (Builtin.copy_ #[t, u] o.type #[.slice (some ⟨γ.blk i, off, none⟩) n cap, x.den γ]).run P w = .ok (goInt (Nat.min l.length n)) (w.setRow (γ.blk i) ((cpGo l0 off n l m 0).map (Value.int .u8)).toArray) := by
      rw [cpGo_eq hlen0 hof]
      have hsz1 : (P.info? e).map (·.size) = some 1 := by rw [hti]; simp [hs1]
      rcases cont_reads hs.mem hl with ⟨e1, rfl⟩ | ⟨ad, cp, e1, hcell⟩
      ·rw [e1, run_copy_nil P w t u o.type e ⟨γ.blk i, off, none⟩ n cap hu (by rw [hsz1]; rfl)]
       have h0 : Nat.min ([] : List Int).length n = 0 := by simp
       rw [h0]
       simp only [List.take_nil, List.append_nil, Nat.add_zero, List.take_append_drop]
       rw [← hden, Array.toArray_toList, setRow_self w _ _ _ _ hg]; rfl
      ·have hmin : (l.take n).length = Nat.min l.length n := by simp [Nat.min_comm]
       have hle : Nat.min l.length n ≤ n := Nat.min_le_right _ _
       have hcp := run_copy_row P w t u o.type e (γ.blk i) off n cap ad l.length cp arr et ((l.take n).map (Value.int .u8)) hu hsz1 hg (by rw [List.length_map, hmin]) (fun j v hj => by
        rw [List.map_take, List.getElem?_take] at hj
        split at hj
        ·exact hcell j v hj
        ·cases hj) (by simp only [List.length_map, hmin, hm]; omega) (fun v hv => by obtain ⟨y, _, rfl⟩ := List.mem_map.1 hv; rfl)
       rw [e1, hcp, hden]
       simp only [List.length_map, hmin, ← List.map_take, ← List.map_drop, ← List.map_append]
     have hA' : c.args.map a.eval = #[.slice (some ⟨γ.blk i, off, none⟩) n cap, x.den γ] := by rw [hA]; simp [SV.den]
     have hst : (execOp a.eval o).run P w = .ok (.value (goInt (Nat.min l.length n))) (w.setRow (γ.blk i) ((cpGo l0 off n l m 0).map (Value.int .u8)).toArray) := builtin_run ho hc (fun consts => by
      rw [hT, hA']; simp only [builtin, Sem.run_bind, hrun, Result.andThen_ok, Sem.run_pure])
     have hsize : ((cpGo l0 off n l m 0).map (Value.int .u8)).toArray.size = m := by
      have : (cpGo l0 off n l m 0).length = m := by
       apply Nat.le_antisymm
       ·have h1 := cpGo_get l0 off n l m 0 m
        rw [if_neg (Nat.lt_irrefl _)] at h1
        exact List.getElem?_eq_none_iff.1 h1
       ·rcases Nat.eq_zero_or_pos m with h0 | h0
        ·omega
        ·have h1 := cpGo_get l0 off n l m 0 (m - 1)
         rw [if_pos (by omega)] at h1
         have := (List.getElem?_eq_some_iff.1 h1).1
         omega
      simp [this]
     refine done_gen (w' := w.setRow (γ.blk i) ((cpGo l0 off n l m 0).map (Value.int .u8)).toArray) hs hd hr (Agree.refl _ _) ?_ ?_ ?_ (by rw [hst]; simp [SV.den, goInt])
     ·refine msat_write hs.mem hM rfl (by simp) (fun y _ hy => setRow_other w _ y _ (fun e => hy e)) ⟨hsize, setRow_heap w _ _ _ et _ hg⟩ (fun y hy => hy)
     ·exact hs.fr.trans' (setRow_fr (fun y => y = γ.blk i) w _ _ rfl) (fun y hy => by subst hy; exact (hs.ownm i _ _ hM rfl rfl).symm)
     ·intro j q y hj hy
      obtain ⟨rfl, rfl⟩ := look_one hj
      have : y = γ.blk j := hy
      subst this
      exact lift2 (hs.ownm j _ _ hM rfl rfl)
    ·cases h
   ·cases h
  ·cases h
 ·cases h
end
end Sx

/- Maps whose keys are told: made, looked up, laid. -/
namespace Sx
open Go
set_option linter.unusedVariables false
set_option linter.unusedSimpArgs false
theorem fits_part {ks : List IntKind} : ∀ (n j : Nat) (xs : List Value), fitsL (List.replicate n ks).flatten xs = true → j < n → fitsL ks ((xs.drop (j * ks.length)).take ks.length) = true
 | 0, j, xs, h, hj => by omega
 | n + 1, 0, xs, h, hj => by
  rw [List.replicate_succ, List.flatten_cons] at h
  simpa using (fitsL_append h).1
 | n + 1, j + 1, xs, h, hj => by
  rw [List.replicate_succ, List.flatten_cons] at h
  have := fits_part n j _ (fitsL_append h).2 (by omega)
  rw [List.drop_drop] at this
  rw [Nat.succ_mul, Nat.add_comm]
  exact this
theorem fits_ecells (xs : List Int) : ∀ (ks : List IntKind) (c : Nat), fitsL ks (ecellsFrom xs ks c) = true
 | [], _ => rfl
 | k :: ks, c => by simp [ecellsFrom, fitsL, fits_ecells xs ks (c + 1)]
section
variable {P : Program}
theorem checkKey_run (em : Bool) : ∀ (d dd : Nat) (t : TypeId) (ks : List IntKind), kindsOf P d t = some ks → ∀ (w : World) (xs : List Value), fitsL ks xs = true → (Instr.checkKey em (dd + d) t (wrapT P t xs)).run P w = .ok () w
 | 0, dd, t, ks, h => by simp [kindsOf] at h
 | d + 1, dd, t, ks, h => by
  intro w xs hx
  unfold kindsOf at h
  unfold wrapT
  split at h
  ·rename_i k hu
   rw [show dd + (d + 1) = (dd + d) + 1 from rfl, Instr.checkKey]
   simp only [hu, Sem.run_bind, run_underlying hu, Result.andThen_ok]
   simp
  ·rename_i n e hu
   split at h
   ·rename_i i qs hi hq
    split at h
    ·rename_i hsz
     simp only [zsI] at h
     subst h
     have hs := zbE hsz
     have each : ∀ j ∈ List.range' 0 n, fitsL qs ((xs.drop (j * qs.length)).take qs.length) = true := fun j hj => fits_part n j xs hx (by simpa using hj)
     rw [show dd + (d + 1) = (dd + d) + 1 from rfl, Instr.checkKey]
     simp only [hu, Sem.run_bind, run_underlying hu, Result.andThen_ok]
     simp only [Std.Legacy.Range.forIn_eq_forIn_range', Std.Legacy.Range.size, Nat.sub_zero, Nat.add_one_sub_one, Nat.div_one]
     generalize List.range' 0 n = is at each
     induction is with
     | nil => simp
     | cons j is ih =>
      have e1 := each j (by simp)
      have p1 := part_run (w := w) hq hi hs e1
      have p2 := checkKey_run em d dd e qs hq w _ e1
      have hz : (Go.sizeOf e).run P w = .ok qs.length w := by simp [Go.sizeOf, typeInfo, hi, hs]
      simp only [List.forIn_cons, Sem.run_bind, hz, Result.andThen_ok, p1, p2, Sem.run_pure]
      exact ih (fun y hy => each y (by simp [hy]))
    ·cases h
   ·cases h
  ·rename_i fs hu
   split at h
   ·cases h
   ·rw [show dd + (d + 1) = (dd + d) + 1 from rfl, Instr.checkKey]
    simp only [hu, Sem.run_bind, run_underlying hu, Result.andThen_ok]
    rw [← Array.forIn_toList]
    generalize hL : fs.toList = L at h ⊢
    clear hL hu
    have off0 : (xs.drop 0) = xs := rfl
    rw [← off0] at hx
    clear off0
    generalize 0 = off at h hx
    induction L generalizing off ks with
    | nil => simp
    | cons f L ih =>
     unfold kindsOf.go at h
     split at h
     ·rename_i i qs hb hi hq
      split at h
      ·rename_i rest hsz hrest
       simp only [zsI] at h
       subst h
       simp only [zaT, bne_iff_ne, ne_eq] at hb
       obtain rfl := zbE hb.1
       have hs := zbE hsz
       obtain ⟨a1, a2⟩ := fitsL_append hx
       rw [List.drop_drop] at a2
       have p1 := part_run (w := w) hq hi hs a1
       have p2 := checkKey_run em d dd f.type qs hq w _ a1
       simp only [List.forIn_cons, Sem.run_bind, hb.2, ne_eq, not_false_eq_true, if_true, p1, Result.andThen_ok, p2, Sem.run_pure]
       exact ih rest (f.offset + qs.length) hrest a2
      ·cases h
     ·cases h
  ·cases h
theorem agg_wrap {t : TypeId} (ha : isAggT P t = true) (v : Array Value) : wrapT P t v.toList = .agg v := by
 unfold isAggT at ha
 unfold wrapT
 split at ha
 ·rename_i h; simp [h]
 ·rename_i h; simp [h]
 ·cases ha
theorem findNow_agg {t : TypeId} {ty : TypeDesc} (ha : isAggT P t = true) (hu : P.underlying t = some ty) (v : Array Value) (e : MapEntry) (es : List MapEntry) (i : Nat) : Instr.findNow ty (.agg v) (e :: es) i = none := by
 unfold isAggT at ha
 rw [hu] at ha
 cases ty <;> first | (cases ha; done) | rfl
theorem find_run {t : TypeId} {ks : List IntKind} (hk : kindsOf P 40 t = some ks) (ha : isAggT P t = true) (xs : List Int) (w : World) : ∀ (es : List MapEntry) (l : List (List Int)) (i : Nat), es.map (·.key) = l.map (fun z => Value.agg (ecells ks z)) →
  (memK ks l xs = false → (Instr.findAsking t (.agg (ecells ks xs)) es i).run P w = .ok none w) ∧
  (memK ks l xs = true → ∃ j e, (Instr.findAsking t (.agg (ecells ks xs)) es i).run P w = .ok (some (j, e.val)) w ∧ e ∈ es)
 | [], l, i, h => by
  have : l = [] := by cases l with | nil => rfl | cons z l => simp at h
  subst this
  exact ⟨fun _ => by simp [Instr.findAsking], fun h => by simp [memK] at h⟩
 | e :: es, [], i, h => by simp at h
 | e :: es, z :: l, i, h => by
  simp only [List.map_cons, List.cons.injEq] at h
  obtain ⟨h1, h2⟩ := h
  have he : (Op.equal t (.agg (ecells ks xs)) e.key).run P w = .ok (eqv (ecells ks xs) (ecells ks z)) w := by
   rw [h1]
   exact equal_run (P := P) (d := 40) (by omega) hk (by simpa [ecells] using fits_ecells xs ks 0) (by simpa [ecells] using fits_ecells z ks 0) (by unfold isAggT at ha; exact ha) w
  obtain ⟨i1, i2⟩ := find_run hk ha xs w es l (i + 1) h2
  have hm : memK ks (z :: l) xs = (eqv (ecells ks xs) (ecells ks z) || memK ks l xs) := by simp [memK]
  rw [hm]
  cases hq : eqv (ecells ks xs) (ecells ks z) with
  | true => exact ⟨fun h => by simp at h, fun _ => ⟨i, e, by simp [Instr.findAsking, he, hq], by simp⟩⟩
  | false =>
   simp only [Bool.false_or]
   refine ⟨fun h => by simp [Instr.findAsking, he, hq, i1 h], fun h => ?_⟩
   obtain ⟨j, e', h3, h4⟩ := i2 h
   exact ⟨j, e', by simp [Instr.findAsking, he, hq, h3], by simp [h4]⟩
theorem findKey_run {t : TypeId} {ks : List IntKind} (hk : kindsOf P 40 t = some ks) (ha : isAggT P t = true) (xs : List Int) (w : World) (es : List MapEntry) (l : List (List Int)) (h : es.map (·.key) = l.map (fun z => Value.agg (ecells ks z))) :
  (memK ks l xs = false → (Instr.findKey t (.agg (ecells ks xs)) es).run P w = .ok none w) ∧
  (memK ks l xs = true → ∃ j e, (Instr.findKey t (.agg (ecells ks xs)) es).run P w = .ok (some (j, e.val)) w ∧ e ∈ es) := by
 obtain ⟨ty, hu⟩ : ∃ ty, P.underlying t = some ty := by
  unfold isAggT at ha
  cases hu : P.underlying t with
  | none => rw [hu] at ha; cases ha
  | some ty => exact ⟨ty, rfl⟩
 have F := find_run hk ha xs w es l 0 h
 cases es with
 | nil =>
  have : l = [] := by cases l with | nil => rfl | cons z l => simp at h
  subst this
  exact ⟨fun _ => by simp [Instr.findKey, run_underlying hu, Instr.findNow], fun h => by simp [memK] at h⟩
 | cons e es =>
  have e0 : (Instr.findKey t (.agg (ecells ks xs)) (e :: es)).run P w = (Instr.findAsking t (.agg (ecells ks xs)) (e :: es)).run P w := by
   simp [Instr.findKey, run_underlying hu, findNow_agg ha hu]
  rw [e0]
  exact F
theorem mapKT_spec {t : TypeId} {ks : List IntKind} (h : mapKT P t = some ks) : ∃ k e ti, P.underlying t = some (.map k e) ∧ isAggT P k = true ∧ kindsOf P 40 k = some ks ∧ P.info? e = some ti ∧ ti.zero = some (.bool false) := by
 unfold mapKT at h
 split at h
 ·rename_i k e hu
  split at h
  ·rename_i hb
   simp only [zaT] at hb
   have hz := hb.2
   unfold zeroF at hz
   split at hz
   ·rename_i ti hti
    split at hz
    ·rename_i c hc
     have : c = false := by simpa using hz
     subst this
     exact ⟨k, e, ti, hu, hb.1, h, hti, hc⟩
    ·cases hz
   ·cases hz
  ·cases h
 ·cases h
end
section
variable {I : Interp} {P : Program} {sp : FuncId → Option Spec} {N : Nat} {w0 : World} {S0 : Ft} {γ : Vn} {D : Nat → Bool} {E : Nat → Option SV} {M : Nat → Option Res} {a : Act} {w : World} {b : Nat} {o : Oper} {Q : Exit → Act → World → Prop} {r : Rec}
theorem done_set (hs : Sat I N w0 S0 γ D E M a w) (hd : ∀ x, o.dst = some x → x < N) {i : Nat} {old res : Res} {rd : List Nat} (hr : RecIn D b ⟨.v undef, [(i, res)], rd⟩) (hi : M i = some old) (hm : old.mut = true) (hf : res.foot γ i = old.foot γ i) {g : Nat} (hg : ∀ x, old.foot γ i x ↔ x = g) (hlow : g < w.heap.size) {ob : Obj}
  (hrun : (execOp a.eval o).run P w = .ok .skip { w with heap := w.heap.setIfInBounds g ob }) (hok : ResOK I γ i { w with heap := w.heap.setIfInBounds g ob } res) : o.wp P a w (Done I N w0 S0 γ D E M b o.dst ⟨.v undef, [(i, res)], rd⟩) Q := by
 unfold Oper.wp
 rw [hrun, Oper.upon_skip]
 have hval : undef = (SV.v undef).den γ := by simp [SV.den]
 have hother : ∀ j r, j ≠ i → updM [(i, res)] M j = some r → M j = some r := fun j r hj h => by
  unfold updM at h; rw [look_cons, if_neg (Ne.symm hj)] at h; exact h
 have hnew : ∀ r, updM [(i, res)] M i = some r → r = res := fun r h => by
  unfold updM at h; rw [look_cons, if_pos rfl] at h; exact (Option.some.inj h).symm
 have hsz : (w.heap.setIfInBounds g ob).size = w.heap.size := by simp
 have hsame : ∀ x, x ≠ g → (w.heap.setIfInBounds g ob)[x]? = w.heap[x]? := fun x hx => by simp [Array.getElem?_setIfInBounds, Ne.symm hx]
 have hown : w0.heap.size ≤ g ∨ S0.w g := hs.ownm i old _ hi hm ((hg _).2 rfl)
 rw [hval]
 refine ⟨γ, Agree.refl _ _, sat_put hs (Agree.refl _ _) hd hr.v hr.effs ⟨?_, ?_, ?_⟩ ?_ ?_⟩
 ·intro j r h
  by_cases hj : j = i
  ·subst hj; rw [hnew r h]; exact hok
  ·have h' := hother j r hj h
   refine ResOK.loc (w := w) (fun x hx => hsame x (fun e => ?_)) (hs.mem.ok j r h')
   exact hs.mem.apart i j old r x (Ne.symm hj) hi h' hm ((hg x).2 e) hx
 ·intro j r x h hx
  show x < (w.heap.setIfInBounds g ob).size
  rw [hsz]
  by_cases hj : j = i
  ·subst hj; rw [hnew r h, hf] at hx; rw [(hg x).1 hx]; exact hlow
  ·exact hs.mem.low j r x (hother j r hj h) hx
 ·intro j k rj rk x hjk hj hk hm' hx hy
  by_cases hji : j = i
  ·subst hji
   rw [hnew rj hj, hf] at hx
   exact hs.mem.apart j k old rk x hjk hi (hother k rk (Ne.symm hjk) hk) hm hx hy
  ·have hj' := hother j rj hji hj
   by_cases hki : k = i
   ·subst hki
    rw [hnew rk hk, hf] at hy
    exact hs.mem.apart j k rj old x hjk hj' hi hm' hx hy
   ·exact hs.mem.apart j k rj rk x hjk hj' (hother k rk hki hk) hm' hx hy
 ·refine hs.fr.trans' (T := fun x => x = g) ⟨rfl, rfl, rfl, by show _ ≤ (w.heap.setIfInBounds g ob).size; rw [hsz]; exact Nat.le_refl _, fun x _ hx => hsame x hx⟩ (fun x hx => ?_)
  subst hx
  exact hown.symm
 ·intro j r x h hx
  obtain ⟨rfl, rfl⟩ := look_one h
  rw [hf] at hx
  rw [(hg x).1 hx]
  exact lift2 hown
theorem map_sound {t : TypeId} (ho : o.op = .makeMap t none) (h : mapStep P b some none t = some r) (hs : Sat I N w0 S0 γ D E M a w) (hb : ∀ i, fresh b i = true → D i = false) (hd : ∀ x, o.dst = some x → x < N) (hr : RecIn D b r) : o.wp P a w (Done I N w0 S0 γ D E M b o.dst r) Q := by
 unfold mapStep at h
 split at h
 ·rename_i ks hk
  simp only [zsI] at h
  subst h
  have hbD : D b = false := hb b (fresh_self b)
  have hγ : Agree (D · = true) γ (γ.row' b (.map (some w.heap.size)) (fun x => x = w.heap.size)) := row'_agree hbD
  have hrun : (execOp a.eval o).run P w = .ok (.value (.map (some w.heap.size))) (w.alloc (.map #[] 0)) := by
   unfold execOp
   simp [ho, Instr.makeMap]
  refine done_gen (w' := w.alloc (.map #[] 0)) hs hd hr hγ ?_ (hs.fr.trans (fr_alloc S0.w w (.map #[] 0))) ?_ (by rw [hrun]; simp [SV.den, row'_val])
  ·refine msat_add (R := fun _ => False) hs.mem hs.mids hγ hbD (by show _ ≤ (w.heap.push _).size; simp) (fun x hx _ => alloc_old w _ hx) (fun _ _ _ _ _ h => h) ?_ (fun x hx => ?_)
   ·simp only [ResOK, row'_val, row'_foot]
    exact ⟨w.heap.size, #[], 0, rfl, alloc_new _ _, fun _ => Iff.rfl, rfl, fun e he => by simp at he⟩
   ·simp only [Res.foot, row'_foot] at hx
    subst hx
    exact ⟨by show _ < (w.heap.push _).size; simp, .inr (Nat.le_refl _)⟩
  ·intro i x y hi hy
   obtain ⟨rfl, rfl⟩ := look_one hi
   simp only [Res.foot, row'_foot] at hy
   subst hy
   exact .inl hs.fr.size
 ·cases h
theorem key_cells {ks : List IntKind} {v : Array Value} {xs : List Int} (hx : elS ks (v.toList.map SV.v) = some xs) (hl : v.toList.length = ks.length) : v = ecells ks xs := by
 apply Array.ext'
 rw [elS_ints ks v.toList xs hl hx]
 simp [ecells]
theorem look_sound {t : TypeId} {x y : Operand} {c : Bool} {u v : SV} (ho : o.op = .lookup t x y c) (hx : ev E x = some u) (hy : ev E y = some v) (h : lookStep P M some none t c u v = some r) (hs : Sat I N w0 S0 γ D E M a w) (hd : ∀ x, o.dst = some x → x < N) (hr : RecIn D b r) :
  o.wp P a w (Done I N w0 S0 γ D E M b o.dst r) Q := by
 have ex := eval_of hs hx
 have ey := eval_of hs hy
 unfold lookStep at h
 split at h
 ·rename_i ks i v hk
  split at h
  ·rename_i qs l hM
   split at h
   ·rename_i xs hxs
    split at h
    ·rename_i hc
     simp only [zaT, decide_eq_true_eq] at hc
     obtain ⟨rfl, hl⟩ := hc
     have hl := zbE hl
     simp only [zsI] at h
     subst h
     obtain rfl := key_cells hxs hl
     obtain ⟨kt, e, ti, hu, ha, hkk, hti, hz⟩ := mapKT_spec hk
     obtain ⟨g, es, cl, h1, h2, h3, h4, h5⟩ := hs.mem.ok i _ hM
     refine done_val hs hd hr ?_
     have hck : ∀ em, (Instr.checkKey em 10000 kt (.agg (ecells qs xs))).run P w = .ok () w := fun em => by
      have := checkKey_run em 40 9960 kt qs hkk w (ecells qs xs).toList (by simpa [ecells] using fits_ecells xs qs 0)
      rwa [agg_wrap ha] at this
     obtain ⟨f1, f2⟩ := findKey_run hkk ha xs w es.toList l h4
     have hzv : (zeroValue e).run P w = .ok (.bool false) w := by simp [zeroValue, run_info hti w, hz]
     unfold execOp
     simp only [SV.den] at ex ey
     cases hm : memK qs l xs with
     | false => simp [ho, ex, ey, h1, Instr.lookup, run_underlying hu, MapKept.run_getObj_map h2, hck, f1 hm, hzv, Result.andThen, SV.den]
     | true =>
      obtain ⟨j, e', f3, f4⟩ := f2 hm
      simp [ho, ex, ey, h1, Instr.lookup, run_underlying hu, MapKept.run_getObj_map h2, hck, f3, Result.andThen, SV.den, h5 e' f4]
    ·cases h
   ·cases h
  ·cases h
 ·cases h
theorem upd_sound {t : TypeId} {x y z : Operand} {u v s : SV} (ho : o.op = .mapUpdate t x y z) (hx : ev E x = some u) (hy : ev E y = some v) (hz : ev E z = some s) (h : updStep P M some none t u v s = some r) (hs : Sat I N w0 S0 γ D E M a w) (hd : ∀ x, o.dst = some x → x < N) (hr : RecIn D b r) :
  o.wp P a w (Done I N w0 S0 γ D E M b o.dst r) Q := by
 have ex := eval_of hs hx
 have ey := eval_of hs hy
 have ez := eval_of hs hz
 unfold updStep at h
 split at h
 ·rename_i ks i v c hk
  split at h
  ·rename_i qs l hM
   split at h
   ·rename_i xs hxs
    split at h
    ·rename_i hc
     simp only [zaT, decide_eq_true_eq] at hc
     obtain ⟨⟨rfl, hl⟩, rfl⟩ := hc
     have hl := zbE hl
     split at h
     ·cases h
     ·rename_i hm
      simp only [zsI] at h
      subst h
      obtain rfl := key_cells hxs hl
      obtain ⟨kt, e, ti, hu, ha, hkk, hti, hz0⟩ := mapKT_spec hk
      obtain ⟨g, es, cl, h1, h2, h3, h4, h5⟩ := hs.mem.ok i _ hM
      have hck : ∀ em, (Instr.checkKey em 10000 kt (.agg (ecells qs xs))).run P w = .ok () w := fun em => by
       have := checkKey_run em 40 9960 kt qs hkk w (ecells qs xs).toList (by simpa [ecells] using fits_ecells xs qs 0)
       rwa [agg_wrap ha] at this
      obtain ⟨f1, f2⟩ := findKey_run hkk ha xs w es.toList l h4
      simp only [SV.den] at ex ey ez
      have hrun : (execOp a.eval o).run P w = .ok .skip { w with heap := w.heap.setIfInBounds g (.map (es.push { key := .agg (ecells qs xs), val := .bool true, born := cl }) (cl + 1)) } := by
       unfold execOp
       simp [ho, ex, ey, ez, h1, Instr.mapUpdate, run_underlying hu, MapKept.run_getObj_map h2, hck, f1 hm, MapKept.run_setObj_map _ h2, Result.andThen]
      have hlow : g < w.heap.size := hs.mem.low i _ _ hM ((h3 g).2 rfl)
      have hown := hs.ownm i _ g hM rfl ((h3 g).2 rfl)
      refine done_set hs hd hr hM rfl rfl h3 hlow hrun ?_
      refine ⟨g, es.push { key := .agg (ecells qs xs), val := .bool true, born := cl }, cl + 1, h1, by simp [hlow], h3, by simp [h4], fun e he => ?_⟩
      simp only [Array.toList_push, List.mem_append, List.mem_singleton] at he
      rcases he with he | rfl
      ·exact h5 e he
      ·rfl
    ·cases h
   ·cases h
  ·cases h
 ·cases h
end
end Sx

/- A store into a pool's cells: the hole. -/
namespace Sx
open Go
set_option linter.unusedVariables false
set_option linter.unusedSimpArgs false
section
variable {I : Interp} {P : Program} {sp : FuncId → Option Spec} {N : Nat} {w0 : World} {S0 : Ft} {γ : Vn} {D : Nat → Bool} {E : Nat → Option SV} {M : Nat → Option Res} {a : Act} {w : World} {b : Nat} {o : Oper} {Q : Exit → Act → World → Prop} {r : Rec}
theorem own_cell_store {t : TypeId} {x y : Operand} (ho : o.op = .store t x y) {i sz k c n : Nat} (hev : a.eval x = (SV.el i sz k c).den γ) {u : Value} (hey : a.eval y = u) (h1 : u.oneCell' = true) {ti : TypeInfo} (hti : P.info? t = some ti) (hsz : ti.size = 1) {e : TypeId} {L : List Value}
  (hown : w.ownsRow 0 e sz (γ.val i) n L) (hk : k < n) (hc : c < sz) :
  ∃ g cur, (γ.val i).ownBlock = some g ∧ (execOp a.eval o).run P w = .ok .skip (w.setRow g cur) ∧ (w.setRow g cur).ownsRow 0 e sz (γ.val i) n (L.set (k * sz + c) u) := by
 obtain ⟨hlen, hsh⟩ := hown
 rcases hsh with ⟨_, h0⟩ | ⟨g, cap, cur, e1, hg0, hg, hcap, hm, hcs, htk⟩
 ·omega
 ·rw [el_den e1] at hev
  have hoff : k * sz + c < n * sz := by
   have : (k + 1) * sz ≤ n * sz := Nat.mul_le_mul_right _ hk
   rw [Nat.succ_mul] at this
   omega
  have hmul : n * sz ≤ cap * sz := Nat.mul_le_mul_right _ hcap
  have hb : k * sz + c < cur.size := by omega
  have hst := run_storeVar (P := P) (w := w) (v := u) (off := k * sz + c) hti hg (by rw [cells_one h1]; simpa using hsz.symm) (by rw [cells_one h1]; simp; omega) (by rw [cells_one h1]; simpa using h1)
  have hcur : (cur.toList.take (k * sz + c) ++ [u] ++ cur.toList.drop (k * sz + c + 1)).toArray = cur.setIfInBounds (k * sz + c) u := by
   apply Array.ext'
   have hk' : k * sz + c < cur.toList.length := by simpa using hb
   simp [Array.toList_setIfInBounds, List.set_eq_take_append_cons_drop, hk']
   omega
  refine ⟨g, cur.setIfInBounds (k * sz + c) u, by rw [e1]; rfl, ?_, ?_⟩
  ·unfold execOp
   have hadd : (⟨g, 0, none⟩ : Addr).add (k * sz + c) = ⟨g, k * sz + c, none⟩ := by rw [add_off]; simp
   rw [cells_one h1] at hst
   simp only [ho, hev, hey, Instr.storeAt, Instr.sureAddr, Sem.run_bind, Sem.run_pure, Result.andThen_ok, hadd, hst]
   simp [← hcur]
  ·refine ⟨by simpa using hlen, .inr ⟨g, cap, cur.setIfInBounds (k * sz + c) u, e1, Nat.zero_le _, setRow_heap w g cur _ e _ hg, hcap, hm, by simpa using hcs, ?_⟩⟩
   simp only [Array.toList_setIfInBounds]
   rw [List.take_set, htk]
theorem hole_done (hs : Sat I N w0 S0 γ D E M a w) {g : Nat} {cur : Array Value} (hrun : (execOp a.eval o).run P w = .ok .skip (w.setRow g cur)) (hg : w0.heap.size ≤ g ∨ S0.w g) (hd : ∀ x, o.dst = some x → x < N) (hr : RecIn D b r) (hv : r.v = .v undef) {γ' : Vn} (hγ : Agree (D · = true) γ γ') (hm : MSat I γ' (updM r.effs M) (w.setRow g cur))
  (hown : ∀ i q y, look r.effs i = some q → q.foot γ' i y → w0.heap.size ≤ y ∨ S0.w y ∨ (q.mut = false ∧ S0.r y)) : o.wp P a w (Done I N w0 S0 γ D E M b o.dst r) Q := by
 unfold Oper.wp
 rw [hrun, Oper.upon_skip]
 have hval : undef = (r.v).den γ' := by rw [hv]; simp [SV.den]
 rw [hval]
 exact ⟨γ', hγ, sat_put hs hγ hd hr.v hr.effs hm (hs.fr.trans' (setRow_fr (fun x => x = g) w g _ rfl) (fun x hx => by subst hx; exact hg.symm)) hown⟩
theorem padSet_self : ∀ (l : List DD) (c : Nat) (x y : DD), (padSet l c x).getD c y = x
 | [], 0, x, y => rfl
 | [], c + 1, x, y => by simp only [padSet, List.getD_cons_succ]; exact padSet_self [] c x y
 | z :: l, 0, x, y => rfl
 | z :: l, c + 1, x, y => by simp only [padSet, List.getD_cons_succ]; exact padSet_self l c x y
theorem padSet_ne : ∀ (l : List DD) (c k : Nat) (x : DD), k ≠ c → (padSet l c x).getD k (.n 0) = l.getD k (.n 0)
 | [], 0, 0, x, h => absurd rfl h
 | [], 0, k + 1, x, h => by simp [padSet]
 | [], c + 1, 0, x, h => rfl
 | [], c + 1, k + 1, x, h => by
  simp only [padSet, List.getD_cons_succ]
  rw [padSet_ne [] c k x (fun e => h (by rw [e]))]; simp
 | z :: l, 0, 0, x, h => absurd rfl h
 | z :: l, 0, k + 1, x, h => rfl
 | z :: l, c + 1, 0, x, h => rfl
 | z :: l, c + 1, k + 1, x, h => by
  simp only [padSet, List.getD_cons_succ]
  exact padSet_ne l c k x (fun e => h (by rw [e]))
theorem ddPut_length (l : List (List DD)) (k c : Nat) (x : DD) : (ddPut l k c x).length = l.length := by simp [ddPut]
theorem ddAt_put_self {l : List (List DD)} {k : Nat} (c : Nat) (x : DD) (hk : k < l.length) : ddAt (ddPut l k c x) k c = x := by
 unfold ddAt ddPut
 rw [show (l.set k (padSet (l.getD k []) c x)).getD k [] = padSet (l.getD k []) c x by simp [List.getD, hk]]
 exact padSet_self _ _ _ _
theorem ddAt_put_ne {l : List (List DD)} {k c k' c' : Nat} (x : DD) (h : k' ≠ k ∨ c' ≠ c) : ddAt (ddPut l k c x) k' c' = ddAt l k' c' := by
 unfold ddAt ddPut
 by_cases hk : k' = k
 ·subst hk
  have hc : c' ≠ c := h.elim (fun e => absurd rfl e) id
  by_cases hl : k' < l.length
  ·rw [show (l.set k' (padSet (l.getD k' []) c x)).getD k' [] = padSet (l.getD k' []) c x by simp [List.getD, hl]]
   exact padSet_ne _ _ _ _ hc
  ·rw [List.set_eq_of_length_le (by omega)]
 ·rw [show (l.set k (padSet (l.getD k []) c x)).getD k' [] = l.getD k' [] by simp only [List.getD, List.getElem?_set_ne (Ne.symm hk)]]
theorem place_inj {n k c k' c' : Nat} (hc : c < n) (hc' : c' < n) (h : k' * n + c' = k * n + c) : k' = k ∧ c' = c := by
 have h1 : (k' * n + c') / n = k' := by rw [Nat.mul_comm, Nat.mul_add_div (by omega), Nat.div_eq_of_lt hc', Nat.add_zero]
 have h2 : (k * n + c) / n = k := by rw [Nat.mul_comm, Nat.mul_add_div (by omega), Nat.div_eq_of_lt hc, Nat.add_zero]
 have : k' = k := by rw [← h1, h, h2]
 subst this
 exact ⟨rfl, by omega⟩
theorem place_lt {n k c m : Nat} (hk : k < m) (hc : c < n) : k * n + c < m * n := by
 have : (k + 1) * n ≤ m * n := Nat.mul_le_mul_right _ hk
 rw [Nat.succ_mul] at this
 omega
theorem dpool_put {F : Nat → Prop} {v u : Value} {fs : List DS} {l : List (List DD)} {z z' : Option Nat} {k c dp : Nat} {f : DS} {d : DD} (h : DPoolIn F w v fs l z) (hk : k < l.length) (hc : fs[c]? = some f)
  (hcell : match f with | .n q => u = .int q d.i | .s gs => DeepN F w dp gs u d.l)
  (hz : ∀ q k' c' gs, z' = some q → q ≤ k' → k' < l.length → fs[c']? = some (.s gs) → ((poolVs v).set (k * fs.length + c) u)[k' * fs.length + c']? = some (.slice none 0 0)) :
  DPoolIn F w (.agg ((poolVs v).set (k * fs.length + c) u).toArray) fs (ddPut l k c d) z' := by
 obtain ⟨h1, _, m, h2⟩ := h
 have hcl : c < fs.length := (List.getElem?_eq_some_iff.1 hc).1
 unfold DPoolIn
 rw [show poolVs (.agg ((poolVs v).set (k * fs.length + c) u).toArray) = (poolVs v).set (k * fs.length + c) u from rfl, ddPut_length]
 refine ⟨by rw [List.length_set]; exact h1, hz, m + dp, fun k' c' f' hk' hf' => ?_⟩
 have hcl' : c' < fs.length := (List.getElem?_eq_some_iff.1 hf').1
 by_cases hkc : k' = k ∧ c' = c
 ·obtain ⟨rfl, rfl⟩ := hkc
  rw [hc] at hf'
  simp only [zsI] at hf'
  subst hf'
  refine ⟨u, List.getElem?_set_self (by rw [h1]; exact place_lt hk hcl), ?_⟩
  rw [ddAt_put_self _ _ hk]
  cases f with
  | n q => exact hcell
  | s gs =>
   have := DeepN.le hcell m
   rw [Nat.add_comm] at this
   exact this
 ·have hne : k' ≠ k ∨ c' ≠ c := by
   by_cases e : k' = k
   ·exact .inr fun e2 => hkc ⟨e, e2⟩
   ·exact .inl e
  obtain ⟨y, hy, hm⟩ := h2 k' c' f' hk' hf'
  refine ⟨y, ?_, ?_⟩
  ·rw [List.getElem?_set_ne (fun e => hkc ?_)]
   ·exact hy
   ·exact place_inj hcl hcl' e.symm
  ·rw [ddAt_put_ne _ hne]
   cases f' with
   | n q => exact hm
   | s gs => exact DeepN.le hm dp
theorem hole_put_sound {t : TypeId} {x y : Operand} {i sz k c : Nat} {m2 j k0 c0 m0 z : Nat} {e : TypeId} {fs : List DS} {l : List (List DD)} {zz : Option Nat} {ti : TypeInfo} (ho : o.op = .store t x y) (hx : ev E x = some (.el i sz k c)) (hy : ev E y = some (.row m2)) (hti : P.info? t = some ti) (hM : M i = some (.ownh e z j k0 c0 m0)) (hj : M j = some (.dpool fs l zz))
  (h1 : ti.size = 1) (hrow : isRow (M m2) = true) (hsz : sz = z) (hz : z = fs.length) (hc0 : c0 < z) (hc : c = c0) (hk0 : k0 < l.length) (hk : k = k0)
  (hs : Sat I N w0 S0 γ D E M a w) (hd : ∀ x, o.dst = some x → x < N) (hr : RecIn D b ⟨.v undef, [(i, .ownh e z j k0 c0 m2)], [i, j, m2]⟩) : o.wp P a w (Done I N w0 S0 γ D E M b o.dst ⟨.v undef, [(i, .ownh e z j k0 c0 m2)], [i, j, m2]⟩) Q := by
 subst hsz; subst hz; subst hc; subst hk
 have hev := eval_of hs hx
 have hey := eval_of hs hy
 obtain ⟨o1, o2, _, o4⟩ := dhole_reads hs.mem hM hj rfl (by omega)
 have hone := row_one hs.mem (by unfold isCell; rw [hrow]; rfl)
 obtain ⟨g, cur, g1, g2, g3⟩ := own_cell_store (P := P) ho hev hey (by simpa [SV.den] using hone) hti h1 o1 hk0 hc0
 have hF : γ.foot i g := (o2 g).2 g1
 have hone' : ∀ y, γ.foot i y → y = g := fun y hy => by
  have := (o2 y).1 hy; rw [g1] at this; exact (Option.some.inj this).symm
 have hgS : w0.heap.size ≤ g ∨ S0.w g := hs.ownm i _ g hM rfl hF
 refine hole_done hs g2 hgS hd hr rfl (Agree.refl _ _) ?_ (fun i' q y hl hyy => ?_)
 ·refine msat_write hs.mem hM rfl (by simp) (fun x hx hn => setRow_other w g x _ (fun e => hn (by subst e; exact hF))) ?_ (fun x hx => hx)
  refine ⟨?_, o2⟩
  rw [List.set_set] at g3
  rw [show (poolVs (γ.val j)).length / fs.length = l.length by rw [o4.1]; exact Nat.mul_div_cancel _ (by omega)]
  simpa [SV.den] using g3
 ·obtain ⟨rfl, rfl⟩ := look_one' hl
  simp only [Res.foot] at hyy
  rw [hone' y hyy]
  exact lift2 hgS
theorem leafD_spec : ∀ (fs : List DS) (c0 : Nat) {c : Nat} {gs : List DS}, leafD fs c0 = some (c, gs) → c0 ≤ c ∧ fs[c - c0]? = some (.s gs)
 | [], c0, c, gs, h => by simp [leafD] at h
 | f :: fs, c0, c, gs, h => by
  cases f with
  | s g =>
   simp only [leafD, zsI, zpI] at h
   obtain ⟨rfl, rfl⟩ := h
   exact ⟨Nat.le_refl _, by simp⟩
  | n q =>
   obtain ⟨h1, h2⟩ := leafD_spec fs (c0 + 1) (by simpa [leafD] using h)
   refine ⟨by omega, ?_⟩
   rw [show c - c0 = (c - (c0 + 1)) + 1 by omega]
   simpa using h2
theorem DPoolIn.mono {F F' : Nat → Prop} (hF : ∀ b, F b → F' b) {v : Value} {fs : List DS} {l : List (List DD)} {z : Option Nat} (h : DPoolIn F w v fs l z) : DPoolIn F' w v fs l z := by
 obtain ⟨h1, h0, m, h2⟩ := h
 refine ⟨h1, h0, m, fun k c f hk hf => ?_⟩
 obtain ⟨y, hy, hm⟩ := h2 k c f hk hf
 refine ⟨y, hy, ?_⟩
 cases f with
 | n q => exact hm
 | s gs => exact DeepN.mono hF _ _ _ _ hm
theorem emptyC_spec {gs : List DS} {ct : Cont} (h : emptyC gs = some ct) : ct.n = 0 ∧ ct.cells = [] := by
 unfold emptyC at h
 split at h
 ·split at h <;> (simp only [zsI] at h; subst h; exact ⟨rfl, rfl⟩)
 ·cases h
theorem hole_close_sound {t : TypeId} {x y : Operand} {i sz k c : Nat} {j k0 c0 m0 z z0 : Nat} {m : Int} {kd : IntKind} {e e2 : TypeId} {fs gs : List DS} {l dl : List (List DD)} {ct : Cont} {ti : TypeInfo} (ho : o.op = .store t x y) (hx : ev E x = some (.el i sz k c)) (hy : ev E y = some (.v (.int kd m))) (hti : P.info? t = some ti)
  (hM : M i = some (.ownh e z j k0 c0 m0)) (hj : M j = some (.dpool fs l (some z0))) (hm0 : M m0 = some (.own e2 ct)) (hc0 : fs[c0]? = some (.s gs)) (hc : fs[c]? = some (.n kd)) (hdl : contD gs ct = some dl)
  (h1 : ti.size = 1) (hsz : sz = z) (hz : z = fs.length) (hk : k < l.length) (hk0 : k0 < l.length) (hz0 : z0 ≤ k0)
  (hs : Sat I N w0 S0 γ D E M a w) (hbD : D b = false) (hd : ∀ x, o.dst = some x → x < N) (hr : RecIn D b ⟨.v undef, [(b, .dpool fs (ddPut (ddPut l k0 c0 (.s dl)) k c (.n m)) (some (k0 + 1))), (i, .ownq e z b), (m0, .gone)], [i, j, m0]⟩) :
  o.wp P a w (Done I N w0 S0 γ D E M b o.dst ⟨.v undef, [(b, .dpool fs (ddPut (ddPut l k0 c0 (.s dl)) k c (.n m)) (some (k0 + 1))), (i, .ownq e z b), (m0, .gone)], [i, j, m0]⟩) Q := by
 subst hsz; subst hz
 have hev := eval_of hs hx
 have hey := eval_of hs hy
 have hcl : c < fs.length := (List.getElem?_eq_some_iff.1 hc).1
 have hcl0 : c0 < fs.length := (List.getElem?_eq_some_iff.1 hc0).1
 obtain ⟨o1, o2, _, o4⟩ := dhole_reads hs.mem hM hj rfl (by omega)
 obtain ⟨g, cur, g1, g2, g3⟩ := own_cell_store (P := P) ho hev hey rfl hti h1 o1 hk hcl
 have hF : γ.foot i g := (o2 g).2 g1
 have hone' : ∀ y, γ.foot i y → y = g := fun y hy => by
  have := (o2 y).1 hy; rw [g1] at this; exact (Option.some.inj this).symm
 have hgS : w0.heap.size ≤ g ∨ S0.w g := hs.ownm i _ g hM rfl hF
 have hib : i ≠ b := fun e => by subst e; have := (hs.mids _ _ hM).1; rw [hbD] at this; cases this
 have him : i ≠ m0 := fun e => by subst e; rw [hM] at hm0; cases hm0
 have hRm := row_reads hs.mem (.inr ⟨e2, hm0⟩)
 obtain ⟨dp, hdeep⟩ := contD_deep hdl hRm
 have hcc : c ≠ c0 := fun e => by subst e; rw [hc0] at hc; cases hc
 have p0 : DPoolIn (fun y => γ.foot j y ∨ γ.foot m0 y) w (γ.val j) fs l (some z0) := DPoolIn.mono (fun y hy => .inl hy) o4
 have p1 := dpool_put (z' := some (k0 + 1)) (u := γ.val m0) (d := .s dl) (dp := dp) p0 hk0 hc0 (DeepN.mono (fun y hy => .inr hy) _ _ _ _ hdeep) (fun q k' c' gs' hq hqk hk' hc' => by
  simp only [zsI] at hq
  subst hq
  have hcl' : c' < fs.length := (List.getElem?_eq_some_iff.1 hc').1
  rw [List.getElem?_set_ne (fun e => by have := (place_inj hcl0 hcl' e.symm).1; omega)]
  exact o4.2.1 z0 k' c' gs' rfl (by omega) hk' hc')
 have p2 := dpool_put (z' := some (k0 + 1)) (u := .int kd m) (d := .n m) (dp := 0) (k := k) p1 (by rw [ddPut_length]; exact hk) hc rfl (fun q k' c' gs' hq hqk hk' hc' => by
  have hcl' : c' < fs.length := (List.getElem?_eq_some_iff.1 hc').1
  rw [List.getElem?_set_ne (fun e => by have := (place_inj hcl hcl' e.symm).2; subst this; rw [hc] at hc'; cases hc')]
  exact p1.2.1 q k' c' gs' hq hqk hk' hc')
 rw [show poolVs (.agg ((poolVs (γ.val j)).set (k0 * fs.length + c0) (γ.val m0)).toArray) = (poolVs (γ.val j)).set (k0 * fs.length + c0) (γ.val m0) from rfl] at p2
 have hs1 := sat_thaw (n := b) (res := .dpool fs (ddPut (ddPut l k0 c0 (.s dl)) k c (.n m)) (some (k0 + 1))) (F := fun y => γ.foot j y ∨ γ.foot m0 y) (v := .agg (((poolVs (γ.val j)).set (k0 * fs.length + c0) (γ.val m0)).set (k * fs.length + c) (.int kd m)).toArray) hs hbD hm0 rfl rfl
  (fun y hy => hy.elim (fun h => .inr ⟨j, _, hj, rfl, h⟩) .inl) (fun _ => rfl) (fun _ _ => rfl) (by simp only [ResOK, row'_val, row'_foot]; exact p2)
 have hγ : Agree (D · = true) γ (γ.row' b (.agg (((poolVs (γ.val j)).set (k0 * fs.length + c0) (γ.val m0)).set (k * fs.length + c) (.int kd m)).toArray) (fun y => γ.foot j y ∨ γ.foot m0 y)) := row'_agree hbD
 generalize hγ' : γ.row' b (.agg (((poolVs (γ.val j)).set (k0 * fs.length + c0) (γ.val m0)).set (k * fs.length + c) (.int kd m)).toArray) (fun y => γ.foot j y ∨ γ.foot m0 y) = γ' at *
 have hvb : γ'.val b = .agg (((poolVs (γ.val j)).set (k0 * fs.length + c0) (γ.val m0)).set (k * fs.length + c) (.int kd m)).toArray := by rw [← hγ']; simp [Vn.row']
 have hfb : γ'.foot b = fun y => γ.foot j y ∨ γ.foot m0 y := by rw [← hγ']; simp [Vn.row']
 have hiD := (hs.mids _ _ hM).1
 have hM1 : updM [(b, .dpool fs (ddPut (ddPut l k0 c0 (.s dl)) k c (.n m)) (some (k0 + 1))), (m0, .gone)] M i = some (.ownh e fs.length j k0 c0 m0) := by
  unfold updM; rw [look_cons, if_neg (Ne.symm hib), look_cons, if_neg (Ne.symm him)]; simpa [look] using hM
 refine hole_done hs g2 hgS hd hr rfl hγ ?_ (fun i' q y hl hyy => ?_)
 ·have hw := msat_write (res := .ownq e fs.length b) (w' := w.setRow g cur) hs1.mem hM1 rfl (by simp) (fun x hx hn => setRow_other w g x _ (fun e => hn (by rw [e]; show γ'.foot i g; rw [hγ.foot i hiD]; exact hF))) ?_ (fun x hx => hx)
  ·have hfun : updM [(b, .dpool fs (ddPut (ddPut l k0 c0 (.s dl)) k c (.n m)) (some (k0 + 1))), (i, .ownq e fs.length b), (m0, .gone)] M = updM [(i, .ownq e fs.length b)] (updM [(b, .dpool fs (ddPut (ddPut l k0 c0 (.s dl)) k c (.n m)) (some (k0 + 1))), (m0, .gone)] M) := by
    funext n
    unfold updM
    simp only [look_cons]
    by_cases hn : b = n
    ·have : ¬ i = n := fun e => hib (e.trans hn.symm)
     simp [hn, this, look]
    ·by_cases hn2 : i = n
     ·simp [hn, hn2, look]
     ·simp [hn, hn2, look]
   rw [hfun]
   exact hw
  ·refine ⟨?_, fun y => by rw [hγ.foot i hiD, hγ.val i hiD]; exact o2 y⟩
   rw [hvb, hγ.val i hiD]
   rw [show ∀ L : List Value, poolVs (.agg L.toArray) = L from fun _ => rfl]
   rw [show (((poolVs (γ.val j)).set (k0 * fs.length + c0) (γ.val m0)).set (k * fs.length + c) (.int kd m)).length / fs.length = l.length by rw [List.length_set, List.length_set, o4.1]; exact Nat.mul_div_cancel _ (by omega)]
   simpa [SV.den] using g3
 ·rw [look_cons] at hl
  split at hl
  ·rename_i e1
   subst e1
   simp only [zsI] at hl
   subst hl
   simp only [Res.foot, hfb] at hyy
   rcases hyy with hyy | hyy
   ·exact hs.share hj hyy rfl
   ·exact lift2 (hs.ownm m0 _ y hm0 rfl hyy)
  ·rw [look_cons] at hl
   split at hl
   ·rename_i e1
    subst e1
    simp only [zsI] at hl
    subst hl
    simp only [Res.foot] at hyy
    rw [hγ.foot i hiD] at hyy
    rw [hone' y hyy]
    exact lift2 hgS
   ·obtain ⟨rfl, rfl⟩ := look_one' hl
    exact hyy.elim
theorem hole_open_sound {t : TypeId} {x y : Operand} {i sz k c : Nat} {j c2 z z0 : Nat} {m : Int} {kd : IntKind} {e e2 : TypeId} {fs gs : List DS} {l : List (List DD)} {ct : Cont} {ti : TypeInfo} (ho : o.op = .store t x y) (hx : ev E x = some (.el i sz k c)) (hy : ev E y = some (.v (.int kd m))) (hti : P.info? t = some ti)
  (hM : M i = some (.ownq e z j)) (hj : M j = some (.dpool fs l (some z0))) (hc2 : leafD fs 0 = some (c2, gs)) (hc : fs[c]? = some (.n kd)) (hct : emptyC gs = some ct)
  (h1 : ti.size = 1) (hsz : sz = z) (hz : z = fs.length) (hk : k < l.length) (hz0 : z0 ≤ k)
  (hs : Sat I N w0 S0 γ D E M a w) (hbD : D b = false) (hbD1 : D (b + 1) = false) (hd : ∀ x, o.dst = some x → x < N) (hr : RecIn D b ⟨.v undef, [(b, .dpool fs (ddPut l k c (.n m)) (some z0)), (b + 1, .own e2 ct), (i, .ownh e z b k c2 (b + 1))], [i, j]⟩) :
  o.wp P a w (Done I N w0 S0 γ D E M b o.dst ⟨.v undef, [(b, .dpool fs (ddPut l k c (.n m)) (some z0)), (b + 1, .own e2 ct), (i, .ownh e z b k c2 (b + 1))], [i, j]⟩) Q := by
 subst hsz; subst hz
 have hev := eval_of hs hx
 have hey := eval_of hs hy
 have hcl : c < fs.length := (List.getElem?_eq_some_iff.1 hc).1
 have hg2 := (leafD_spec fs 0 hc2).2
 rw [Nat.sub_zero] at hg2
 have hcl2 : c2 < fs.length := (List.getElem?_eq_some_iff.1 hg2).1
 have hcc : c ≠ c2 := fun e => by subst e; rw [hg2] at hc; cases hc
 obtain ⟨o1, o2, _, o4⟩ := dpool_reads hs.mem hM hj rfl (by omega)
 obtain ⟨g, cur, g1, g2, g3⟩ := own_cell_store (P := P) ho hev hey rfl hti h1 o1 hk hcl
 have hF : γ.foot i g := (o2 g).2 g1
 have hone' : ∀ y, γ.foot i y → y = g := fun y hy => by
  have := (o2 y).1 hy; rw [g1] at this; exact (Option.some.inj this).symm
 have hgS : w0.heap.size ≤ g ∨ S0.w g := hs.ownm i _ g hM rfl hF
 have hib : i ≠ b := fun e => by subst e; have := (hs.mids _ _ hM).1; rw [hbD] at this; cases this
 have hib1 : i ≠ b + 1 := fun e => by subst e; have := (hs.mids _ _ hM).1; rw [hbD1] at this; cases this
 have p1 := dpool_put (z' := some z0) (u := .int kd m) (d := .n m) (dp := 0) (k := k) o4 hk hc rfl (fun q k' c' gs' hq hqk hk' hc' => by
  have hcl' : c' < fs.length := (List.getElem?_eq_some_iff.1 hc').1
  rw [List.getElem?_set_ne (fun e => by have := (place_inj hcl hcl' e.symm).2; subst this; rw [hc] at hc'; cases hc')]
  exact o4.2.1 q k' c' gs' hq hqk hk' hc')
 have hnil := p1.2.1 z0 k c2 gs rfl hz0 (by rw [ddPut_length]; exact hk) hg2
 generalize hxs : (poolVs (γ.val j)).set (k * fs.length + c) (.int kd m) = xs at *
 have hlen : xs.length = l.length * fs.length := by rw [← hxs, List.length_set]; exact o4.1
 rw [show poolVs (.agg xs.toArray) = xs from rfl] at hnil
 have hγ1 : Agree (D · = true) γ (γ.row' b (.agg xs.toArray) (γ.foot j)) := row'_agree hbD
 have hm1 : MSat I (γ.row' b (.agg xs.toArray) (γ.foot j)) (updM [(b, .dpool fs (ddPut l k c (.n m)) (some z0))] M) w :=
  msat_shareU hs.mem hs.mids hγ1 hbD rfl (by simp only [ResOK, row'_val, row'_foot]; exact p1) (fun y hy => ⟨j, _, hj, rfl, by simpa [Res.foot, row'_foot] using hy⟩)
 generalize hγ' : γ.row' b (.agg xs.toArray) (γ.foot j) = γ1 at *
 have hvb : γ1.val b = .agg xs.toArray := by rw [← hγ']; simp [Vn.row']
 have hfb : γ1.foot b = γ.foot j := by rw [← hγ']; simp [Vn.row']
 have hiD := (hs.mids _ _ hM).1
 let D1 : Nat → Bool := fun n => D n || Nat.beq n b
 have hDD : ∀ n, D n = true → D1 n = true := fun n hn => by show (D n || _) = true; rw [hn]; rfl
 have hD1b : D1 (b + 1) = false := by
  show (D (b + 1) || Nat.beq (b + 1) b) = false
  rw [hbD1, Bool.false_or]
  cases hq : Nat.beq (b + 1) b
  ·rfl
  ·have := zbE hq; omega
 have hmids1 : ∀ n q, updM [(b, .dpool fs (ddPut l k c (.n m)) (some z0))] M n = some q → D1 n = true ∧ q.ids D1 = true := by
  intro n q hn
  unfold updM at hn
  rw [look_cons] at hn
  split at hn
  ·rename_i e1; subst e1; simp only [Option.some_or, zsI] at hn; subst hn
   exact ⟨by show (_ || Nat.beq b b) = true; simp, rfl⟩
  ·have := hs.mids n q hn
   exact ⟨hDD _ this.1, by cases q <;> first | exact SV.idss_mono hDD _ this.2 | rfl⟩
 have hγ2 : Agree (D1 · = true) γ1 (γ1.row' (b + 1) (.slice none 0 0) (fun _ => False)) := row'_agree hD1b
 have hm2 : MSat I (γ1.row' (b + 1) (.slice none 0 0) (fun _ => False)) (updM [(b + 1, .own e2 ct)] (updM [(b, .dpool fs (ddPut l k c (.n m)) (some z0))] M)) w := by
  refine msat_add (R := fun _ => False) hm1 hmids1 hγ2 hD1b (Nat.le_refl _) (fun _ _ _ => rfl) (fun _ _ _ _ _ h => h) ?_ (fun y hy => ?_)
  ·obtain ⟨q1, q2⟩ := emptyC_spec hct
   simp only [ResOK, row'_val, row'_foot, q1, q2]
   exact ⟨⟨by simp, .inl ⟨rfl, rfl⟩⟩, fun y => by simp [Value.ownBlock]⟩
  ·simp only [Res.foot, row'_foot] at hy
 have hγ : Agree (D · = true) γ (γ1.row' (b + 1) (.slice none 0 0) (fun _ => False)) := hγ1.trans (hγ2.mono hDD)
 generalize hγ'' : γ1.row' (b + 1) (.slice none 0 0) (fun _ => False) = γ2 at *
 have hvb2 : γ2.val b = .agg xs.toArray := by rw [← hγ'', ← hvb]; simp [Vn.row']
 have hfb2 : γ2.foot b = γ.foot j := by rw [← hγ'', ← hfb]; simp [Vn.row']
 have hvn : γ2.val (b + 1) = .slice none 0 0 := by rw [← hγ'']; simp [Vn.row']
 have hfn : γ2.foot (b + 1) = fun _ => False := by rw [← hγ'']; simp [Vn.row']
 have hM2 : updM [(b + 1, .own e2 ct)] (updM [(b, .dpool fs (ddPut l k c (.n m)) (some z0))] M) i = some (.ownq e fs.length j) := by
  unfold updM; rw [look_cons, if_neg (Ne.symm hib1), look_cons, if_neg (Ne.symm hib)]; simpa [look] using hM
 refine hole_done hs g2 hgS hd hr rfl hγ ?_ (fun i' q y hl hyy => ?_)
 ·have hw := msat_write (res := .ownh e fs.length b k c2 (b + 1)) (w' := w.setRow g cur) hm2 hM2 rfl (by simp) (fun x hx hn => setRow_other w g x _ (fun e => hn (by rw [e]; show γ2.foot i g; rw [hγ.foot i hiD]; exact hF))) ?_ (fun x hx => hx)
  ·have hfun : updM [(b, .dpool fs (ddPut l k c (.n m)) (some z0)), (b + 1, .own e2 ct), (i, .ownh e fs.length b k c2 (b + 1))] M = updM [(i, .ownh e fs.length b k c2 (b + 1))] (updM [(b + 1, .own e2 ct)] (updM [(b, .dpool fs (ddPut l k c (.n m)) (some z0))] M)) := by
    funext n
    unfold updM
    simp only [look_cons]
    by_cases hn : b = n
    ·have h3 : ¬ i = n := fun e => hib (e.trans hn.symm)
     have h4 : ¬ b + 1 = n := fun e => by omega
     simp [hn, h3, h4, look]
    ·by_cases hn1 : b + 1 = n
     ·have h3 : ¬ i = n := fun e => hib1 (e.trans hn1.symm)
      simp [hn, hn1, h3, look]
     ·by_cases hn2 : i = n
      ·simp [hn, hn1, hn2, look]
      ·simp [hn, hn1, hn2, look]
   rw [hfun]
   exact hw
  ·refine ⟨?_, fun y => by rw [hγ.foot i hiD, hγ.val i hiD]; exact o2 y⟩
   rw [hvb2, hvn, hγ.val i hiD]
   rw [show ∀ L : List Value, poolVs (.agg L.toArray) = L from fun _ => rfl]
   rw [show xs.length / fs.length = l.length by rw [hlen]; exact Nat.mul_div_cancel _ (by omega)]
   have hself : xs.set (k * fs.length + c2) (.slice none 0 0) = xs := by
    apply List.ext_getElem? ; intro n
    by_cases hn : k * fs.length + c2 = n
    ·subst hn; rw [List.getElem?_set_self (by rw [hlen]; exact place_lt hk hcl2), hnil]
    ·rw [List.getElem?_set_ne hn]
   rw [hself]
   simpa [SV.den, hxs] using g3
 ·rw [look_cons] at hl
  split at hl
  ·rename_i e1
   subst e1
   simp only [zsI] at hl
   subst hl
   simp only [Res.foot, hfb2] at hyy
   exact hs.share hj hyy rfl
  ·rw [look_cons] at hl
   split at hl
   ·rename_i e1
    subst e1
    simp only [zsI] at hl
    subst hl
    simp only [Res.foot, hfn] at hyy
   ·obtain ⟨e1, rfl⟩ := look_one' hl
    simp only [Res.foot] at hyy
    have e1 : i' = i := by omega
    rw [e1, hγ.foot i hiD] at hyy
    rw [hone' y hyy]
    exact lift2 hgS
theorem hole_store_sound {t : TypeId} {x y : Operand} {i sz k c : Nat} {u : SV} (ho : o.op = .store t x y) (hx : ev E x = some (.el i sz k c)) (hy : ev E y = some u) (h : holeStore P M b some none t i sz k c u = some r)
  (hs : Sat I N w0 S0 γ D E M a w) (hb : ∀ i, fresh b i = true → D i = false) (hd : ∀ x, o.dst = some x → x < N) (hr : RecIn D b r) : o.wp P a w (Done I N w0 S0 γ D E M b o.dst r) Q := by
 have hbD : D b = false := hb b (fresh_self b)
 have hbD1 : D (b + 1) = false := hb (b + 1) (by simp [fresh])
 unfold holeStore at h
 split at h
 ·rename_i ti e z j hti hM
  split at h
  ·rename_i q m fs l z0 hj
   split at h
   ·rename_i c2 gs kd hc2 hc
    split at h
    ·rename_i ct e2 hct he2
     split at h
     ·rename_i hall
      simp only [zaT, decide_eq_true_eq] at hall
      obtain ⟨⟨⟨⟨⟨a1, a2⟩, a3⟩, a4⟩, a5⟩, a6⟩ := hall
      subst a4
      simp only [zsI] at h
      subst h
      exact hole_open_sound ho hx hy hti hM hj hc2 hc hct (zbE a1) (zbE a2) (zbE a3) (zbL a5) (zbL a6) hs hbD hbD1 hd hr
     ·cases h
    ·cases h
   ·cases h
  ·cases h
 ·rename_i ti e z j k0 c0 m0 hti hM
  split at h
  ·rename_i q m
   split at h
   ·rename_i fs l z0 e2 ct hj hm0
    split at h
    ·rename_i gs kd hc0 hc
     split at h
     ·rename_i dl hdl
      split at h
      ·rename_i hall
       simp only [zaT, decide_eq_true_eq] at hall
       obtain ⟨⟨⟨⟨⟨⟨a1, a2⟩, a3⟩, a4⟩, a5⟩, a6⟩, a7⟩ := hall
       subst a4
       simp only [zsI] at h
       subst h
       exact hole_close_sound ho hx hy hti hM hj hm0 hc0 hc hdl (zbE a1) (zbE a2) (zbE a3) (zbL a5) (zbL a6) (zbL a7) hs hbD hd hr
      ·cases h
     ·cases h
    ·cases h
   ·cases h
  ·rename_i m2
   split at h
   ·rename_i fs l zz hj
    split at h
    ·rename_i hall
     simp only [zaT] at hall
     obtain ⟨⟨⟨⟨⟨⟨⟨a1, a2⟩, a3⟩, a4⟩, a5⟩, a6⟩, a7⟩, a8⟩ := hall
     simp only [zsI] at h
     subst h
     exact hole_put_sound ho hx hy hti hM hj (zbE a1) a2 (zbE a3) (zbE a4) (zbL a5) (zbE a6) (zbL a7) (zbE a8) hs hd hr
    ·cases h
   ·cases h
  ·cases h
 ·cases h
end
end Sx

/- The operations together. -/
namespace Sx
open Go
set_option linter.unusedVariables false
set_option linter.unusedSimpArgs false
section
variable {I : Interp} {P : Program} {sp : FuncId → Option Spec} {N : Nat} {w0 : World} {S0 : Ft} {γ : Vn} {D : Nat → Bool} {E : Nat → Option SV} {M : Nat → Option Res} {a : Act} {w : World} {b : Nat} {o : Oper} {Q : Exit → Act → World → Prop} {r : Rec}
theorem tail_sound {t : TypeId} {x : Operand} {lo : Option Operand} {u : SV} (ho : o.op = .slice t x lo none none) (hx : ev E x = some u) (h : tailStep P E M b some none t u lo = some r)
  (hs : Sat I N w0 S0 γ D E M a w) (hb : ∀ i, fresh b i = true → D i = false) (hd : ∀ x, o.dst = some x → x < N) (hr : RecIn D b r) : o.wp P a w (Done I N w0 S0 γ D E M b o.dst r) Q := by
 have ex := eval_of hs hx
 have hbD : D b = false := hb b (fresh_self b)
 unfold tailStep at h
 split at h
 ·rename_i e i hu
  simp only [SV.den] at ex
  split at h
  ·rename_i ti e' c hti hM
   split at h
   ·rename_i l hsz hl
    split at h
    ·rename_i hc
     simp only [zaT, decide_eq_true_eq] at hc
     obtain ⟨h0, h1⟩ := hc
     simp only [zsI] at h
     subst h
     have hR := row_reads hs.mem (.inr ⟨_, hM⟩)
     obtain ⟨base, cap, e1, hcap, hsub⟩ := sub_reads hR (l := l.toNat) (h := c.n) (by omega) (Nat.le_refl _)
     have hrun := sliceAt_run (P := P) (base := base) (hi := none) (h := (c.n : Int)) hs hu hti hl rfl h0 h1 (Int.le_refl _) hcap
     rw [zbE hsz] at hrun
     have hv : tailV (γ.val i) l.toNat (c.n - l.toNat) c.sz = .slice (if cap = l.toNat then base else base.map (·.add (l.toNat * c.sz))) (c.n - l.toNat) (cap - l.toNat) := by rw [e1]; rfl
     have hγ : Agree (D · = true) γ (γ.row' b (tailV (γ.val i) l.toNat (c.n - l.toNat) c.sz) (fun _ => False)) := row'_agree hbD
     have hib : i ≠ b := fun e => by subst e; have := (hs.mids i _ hM).1; rw [hbD] at this; cases this
     refine done_gen hs hd hr hγ ?_ hs.fr (fun j x y hj hy => by obtain ⟨rfl, rfl⟩ := look_one hj; exact hy.elim) (slice_run ho ex ?_)
     ·refine msat_add (R := fun _ => False) hs.mem hs.mids hγ hbD (Nat.le_refl _) (fun _ _ _ => rfl) (fun _ _ _ _ _ h => h) ?_ (fun x hx => hx.elim)
      simp only [ResOK, row'_val]
      rw [show (γ.row' b (tailV (γ.val i) l.toNat (c.n - l.toNat) c.sz) fun _ => False).val i = γ.val i by simp [Vn.row', hib]]
     ·have hrun' : (Instr.sliceAt t (γ.val i) (lo.map a.eval) none none).run P w = .ok (tailV (γ.val i) l.toNat (c.n - l.toNat) c.sz) w := by
       rw [hv, e1]
       simpa only [Option.map_none, ztN] using hrun
      rw [Option.map_none, hrun']
      simp only [SV.den, row'_val]
    ·cases h
   ·cases h
  ·cases h
 ·cases h
theorem zeroCells_list (z : Array Value) (n : Nat) (ks : List IntKind) (xs : List Int) (hz : z.toList = ecellsFrom xs ks 0) : (Builtin.zeroCells z n).toList = (Cont.structs ks (List.replicate n xs)).cells := by
 have hsz : z.size = ks.length := by rw [← Array.length_toList, hz, ecellsFrom_length]
 apply List.ext_getElem?
 intro t
 by_cases ht : t < n * ks.length
 ·have hpos : 0 < ks.length := by
   rcases Nat.eq_zero_or_pos ks.length with h | h
   ·rw [h] at ht; omega
   ·exact h
  have h1 : t / ks.length < n := Nat.div_lt_of_lt_mul (by rw [Nat.mul_comm]; exact ht)
  have h2 : t % ks.length < ks.length := Nat.mod_lt _ hpos
  have e : t = t / ks.length * ks.length + t % ks.length := by rw [Nat.mul_comm]; exact (Nat.div_add_mod _ _).symm
  have g := Cont.cell_get (.structs ks (List.replicate n xs)) (i := t / ks.length) (j := t % ks.length) (by simpa [Cont.n] using h1) h2
  simp only [Cont.sz] at g
  rw [← e] at g
  rw [g]
  have hlt : t % z.size < z.size := by rw [hsz]; exact h2
  have l1 : (Builtin.zeroCells z n).toList[t]? = some z[t % z.size] := by
   simp only [Builtin.zeroCells, Array.toList_map, Array.toList_range, List.getElem?_map]
   rw [List.getElem?_range (by rw [hsz]; exact ht)]
   simp only [Option.map_some, zsI]
   exact getElem!_pos z (t % z.size) hlt
  rw [l1]
  have h3 : (Cont.structs ks (List.replicate n xs)).at (t / ks.length) = (ecellsFrom xs ks 0).toArray := by
   simp [Cont.at, ecells, List.getD, h1]
  rw [h3, ← hz, ← hsz]
  simp [hlt]
 ·have l1 : (Builtin.zeroCells z n).toList.length = n * ks.length := by simp [Builtin.zeroCells, hsz]
  have l2 : (Cont.structs ks (List.replicate n xs)).cells.length = n * ks.length := by rw [Cont.cells_length]; simp [Cont.n, Cont.sz]
  rw [List.getElem?_eq_none (by omega), List.getElem?_eq_none (by omega)]
theorem clear_sound {c : Call} (ho : o.op = .call c) (hc : c.callee = .builtin .clear) {t : TypeId} {x : SV} (ht : c.argTypes.toList = [t]) (hx : evs E c.args.toList = some [x]) (h : clearStep P M some none t x = some r)
  (hs : Sat I N w0 S0 γ D E M a w) (hd : ∀ x, o.dst = some x → x < N) (hr : RecIn D b r) : o.wp P a w (Done I N w0 S0 γ D E M b o.dst r) Q := by
 have hT : c.argTypes = #[t] := by apply Array.ext'; simpa using ht
 have hA : c.args.map a.eval = #[x.den γ] := by
  have := (evals_of hs hx).1
  apply Array.ext'; simpa [SV.dens] using this
 unfold clearStep at h
 split at h
 ·rename_i e q hu
  split at h
  ·rename_i ti i lo n sz hti hq
   split at h
   ·rename_i z e' ks l hz hi
    split at h
    case h_2 => cases h
    rename_i xs hxs
    split at h
    case h_2 => cases h
    rename_i hb
    split at h
    ·rename_i hb3
     simp only [zaT] at hb
     have b1 := zbE hb.1
     have b2 := zbE hb.2
     have b3 := zbE hb3
     subst b1
     have hzl := elS_ints ks z.cells.toList xs b2 hxs
     simp only [zsI] at h
     subst h
     have hval : γ.val q = tailV (γ.val i) lo n ks.length := hs.mem.ok q _ hq
     obtain ⟨hown, hfoot⟩ := hs.mem.ok i _ hi
     have hown' := hown
     obtain ⟨hlen, hsh⟩ := hown
     have same : n = 0 → o.wp P a w (Done I N w0 S0 γ D E M b o.dst ⟨.v (.tuple #[]), [(i, .own e' (.structs ks (l.take lo ++ List.replicate n xs)))], [q, i]⟩) Q := by
      intro hn
      have hl : l.take lo ++ List.replicate n xs = l := by
       subst hn
       rw [List.replicate_zero, List.append_nil, List.take_of_length_le (by omega)]
      rw [hl] at hr ⊢
      refine done_gen hs hd hr (Agree.refl _ _) ?_ hs.fr (fun j x y hj hy => by obtain ⟨rfl, rfl⟩ := look_one hj; exact hs.own _ _ _ hi hy) (builtin_run ho hc (fun consts => ?_))
      ·have : updM [(i, Res.own e' (.structs ks l))] M = M := by
        funext j
        unfold updM
        rw [look_cons]
        split
        ·rename_i e; subst e; exact hi.symm
        ·rfl
       rw [this]; exact hs.mem
      ·rw [hT, hA]
       simp only [SV.den, hval]
       rcases hsh with ⟨h0, _⟩ | ⟨g, cap, cur, e1, _⟩
       ·rw [h0]; subst hn; simp [tailV, builtin, Builtin.clear_, run_underlying hu]
       ·rw [e1]; subst hn
        by_cases hcl : cap = lo <;> simp [tailV, builtin, Builtin.clear_, run_underlying hu, hcl]
     rcases hsh with ⟨_, h0⟩ | ⟨g, cap, cur, e1, hg0, hg, hcap, hm, hcs, htk⟩
     ·simp only [Cont.n] at h0; exact same (by omega)
     ·rcases Nat.eq_zero_or_pos n with hn | hn
      ·exact same hn
      ·simp only [Cont.n, Cont.sz] at hcap hcs htk e1
       have hF : γ.foot i g := (hfoot g).2 (by simp [e1, Value.ownBlock])
       have hne : ¬ cap = lo := by omega
       have hL : cur.toList.length = cap * ks.length := by rw [Array.length_toList]; exact hcs
       have hZ := zeroCells_list z.cells n ks xs hzl
       have hZl : (Builtin.zeroCells z.cells n).toList.length = n * ks.length := by rw [hZ, Cont.cells_length]; simp [Cont.n, Cont.sz]
       have hmul : lo * ks.length + n * ks.length = l.length * ks.length := by rw [← Nat.add_mul, b3]
       have hmul2 : l.length * ks.length ≤ cap * ks.length := Nat.mul_le_mul_right _ hcap
       have hst := run_storeCells_at (P := P) g (lo * ks.length) e' (Builtin.zeroCells z.cells n).toList 0 cur w hg (by rw [hZl]; omega) (fun v hv => by rw [hZ] at hv; exact structs_one v hv)
       rw [Nat.add_zero, hZl, hZ] at hst
       have hownS : w0.heap.size ≤ g ∨ S0.w g := hs.ownm i _ g hi rfl hF
       have hone : ∀ x, γ.foot i x → x = g := fun x hx => by
        have := (hfoot x).1 hx
        simp only [e1, Value.ownBlock, zsI] at this
        exact this.symm
       refine done_gen (w' := w.setRow g (cur.toList.take (lo * ks.length) ++ (Cont.structs ks (List.replicate n xs)).cells ++ cur.toList.drop (lo * ks.length + n * ks.length)).toArray) hs hd hr (Agree.refl _ _) ?_ (hs.fr.trans' (setRow_fr (fun x => x = g) w g _ rfl) (fun x hx => by subst hx; exact hownS.symm)) (fun j x y hj hy => by obtain ⟨rfl, rfl⟩ := look_one hj; exact lift2 (hs.ownm _ _ y hi rfl hy)) (builtin_run ho hc (fun consts => ?_))
       ·refine msat_write hs.mem hi rfl (by simp) (fun x hx hn => setRow_other w g x _ (fun e => hn (by subst e; exact hF))) ?_ (fun x hx => hx)
        refine ⟨⟨Cont.cells_length _, .inr ⟨g, cap, _, ?_, Nat.zero_le _, setRow_heap w g cur _ e' _ hg, ?_, hm, ?_, ?_⟩⟩, hfoot⟩
        ·rw [e1]
         simp only [Cont.n, zlA, List.length_take, List.length_replicate]
         congr 1; omega
        ·simp only [Cont.n, zlA, List.length_take, List.length_replicate]; omega
        ·simp only [Cont.sz, List.size_toArray, zlA, List.length_take, List.length_drop, Array.length_toList, Cont.cells_length, Cont.n, List.length_replicate]; omega
        ·have hN : (Cont.structs ks (l.take lo ++ List.replicate n xs)).n = l.length := by simp only [Cont.n, zlA, List.length_take, List.length_replicate]; omega
         rw [hN]
         have hc1 : (Cont.structs ks (l.take lo ++ List.replicate n xs)).cells = (Cont.structs ks l).cells.take (lo * ks.length) ++ (Cont.structs ks (List.replicate n xs)).cells := by
          simp only [Cont.cells, List.flatMap_append]
          congr 1
          have := flat_take (f := fun xs => (ecells ks xs).toList) (m := ks.length) l lo (fun y => by simp [ecells_size])
          exact this.symm
         rw [hc1, ← htk]
         simp only [Cont.sz]
         rw [← hmul, take_mid cur.toList _ (by rw [Cont.cells_length]; simp [Cont.n, Cont.sz]) (Nat.le_refl _) (by rw [hmul]; exact Nat.le_trans hmul2 (Nat.le_of_eq hL.symm))]
         rw [List.drop_eq_nil_of_le (by rw [List.length_take]; omega), List.append_nil]
       ·rw [hT, hA]
        simp only [SV.den, hval, e1, tailV, if_neg hne]
        obtain ⟨n', rfl⟩ : ∃ n', n = n' + 1 := ⟨n - 1, by omega⟩
        have hzv : (zeroValue e).run P w = .ok z w := by simp [zeroValue, run_info hti w, hz]
        simp only [Option.map_some, add_off, Nat.zero_add]
        simp [builtin, Builtin.clear_, run_underlying hu, hzv, hZ, hst]
    ·cases h
   ·cases h
  ·cases h
 ·cases h
theorem step_sound {tl : Bool} (hsp : ∀ f s, sp f = some s → SpecOK I P f s) (h : step P sp o E M b some none tl = some r) (hs : Sat I N w0 S0 γ D E M a w) (hb : ∀ i, fresh b i = true → D i = false) (hd : ∀ x, o.dst = some x → x < N) (hr : RecIn D b r) :
  o.wp P a w (Done I N w0 S0 γ D E M b o.dst r) Q := by
 unfold step at h
 split at h
 case h_1 x ho =>
  split at h
  ·rename_i y hy
   simp only [zsI] at h; subst h
   refine done_val hs hd hr ?_
   unfold execOp; simp [ho, eval_of hs hy]
  ·cases h
 case h_2 x ho =>
  split at h
  ·rename_i y hy
   simp only [zsI] at h; subst h
   refine done_val hs hd hr ?_
   unfold execOp; simp [ho, eval_of hs hy]
  ·cases h
 case h_3 c x y ho =>
  split at h
  ·rename_i t p q hc hx hy
   simp only [zsI] at h; subst h
   refine done_val hs hd hr ?_
   unfold execOp
   cases t <;> simp [ho, eval_of hs hc, eval_of hs hx, eval_of hs hy, SV.den, asBool]
  ·rename_i t p q hn hc hx hy
   split at h <;> (simp only [zsI] at h; subst h; refine done_val hs hd hr ?_; unfold execOp; simp [ho, eval_of hs hc, eval_of hs hx, eval_of hs hy, SV.den, asBool])
  ·cases h
 case h_4 e ho =>
  split at h
  ·rename_i ti hti
   split at h
   ·rename_i z hz
    refine box_sound h hs hb (by simp [SV.ids]) hd hr ?_
    unfold execOp
    simp [ho, Instr.alloc, zeroValue, run_info hti w, hz, newVar, newRow, SV.den]
   ·cases h
  ·cases h
 case h_5 e x ho =>
  split at h
  ·rename_i y hy
   refine box_sound h hs hb (ids_of hs hy) hd hr ?_
   unfold execOp
   simp [ho, Instr.box, newVar, newRow, eval_of hs hy]
  ·cases h
 case h_6 t x ho =>
  split at h
  ·rename_i i off hx; exact load_sound ho hx h hs hd hr
  ·rename_i i sz k c hx; exact el_load_sound ho hx h hs hb hd hr
  ·rename_i i pre k hx; exact sel_load_sound ho hx h hs hb hd hr
  ·cases h
 case h_7 t x y ho =>
  split at h
  ·rename_i i off z hx hy; exact store_sound ho hx hy h hs hd hr
  ·rename_i i sz k c z hx hy
   split at h
   ·exact hole_store_sound ho hx hy h hs hb hd hr
   ·exact el_store_sound ho hx hy h hs hd hr
  ·rename_i i pre k z hx hy; exact sel_store_sound ho hx hy h hs hb hd hr
  ·cases h
 case h_8 x ho =>
  split at h
  ·rename_i i off hx
   simp only [zsI] at h; subst h
   refine done_val hs hd hr ?_
   unfold execOp; simp [ho, eval_of hs hx, SV.den]
  ·rename_i f caps hx
   split at h
   ·simp only [zsI] at h; subst h
    refine done_val hs hd hr ?_
    unfold execOp; simp [ho, eval_of hs hx, SV.den]
   ·cases h
  ·rename_i i hx; exact deref_sound ho hx h hs hd hr
  ·rename_i i sz k c hx; exact elNil_sound ho hx h hs hd hr
  ·exact pure_sound (by simp [ho]) h hs hd hr
 case h_9 s x f ho =>
  split at h
  ·rename_i p hp; exact field_sound ho hp h hs hd hr
  ·cases h
 case h_10 x k ho =>
  split at h
  ·rename_i l hx
   split at h
   ·rename_i y hy
    simp only [zsI] at h; subst h
    refine done_val hs hd hr ?_
    unfold execOp; simp [ho, eval_of hs hx, SV.den, Instr.extract, dens_eq, hy]
   ·cases h
  ·exact pure_sound (by simp [ho]) h hs hd hr
 case h_11 c ho =>
  split at h
  ·rename_i f hc
   split at h
   ·rename_i fv hf
    split at h
    ·rename_i g caps args hfn hargs; exact call_sound hsp ho hc hf hfn hargs h hs hb hd hr
    ·cases h
   ·cases h
  ·rename_i hc
   split at h
   ·rename_i t x ht hx; exact len_sound ho hc ht hx h hs hd hr
   ·cases h
  ·rename_i hc
   split at h
   ·rename_i t u s x ht hx
    split at h
    ·rename_i hi; exact zeros_sound ho hc ht hx hi h hs hb hd hr
    ·exact app_sound ho hc ht hx h hs hb hd hr
   ·cases h
  ·rename_i hc
   split at h
   ·rename_i t u d x ht hx; exact copy_sound ho hc ht hx h hs hb hd hr
   ·cases h
  ·exact pure_sound (by simp [ho]) h hs hd hr
  ·rename_i hc
   split at h
   ·rename_i t x ht hx; exact clear_sound ho hc ht hx h hs hd hr
   ·cases h
  ·exact pure_sound (by simp [ho]) h hs hd hr
  ·exact pure_sound (by simp [ho]) h hs hd hr
  ·cases h
 case h_12 op t x y t' ho =>
  split at h
  ·rename_i i hx hy; exact nil_sound ho hx hy h hs hd hr
  ·rename_i i hx hy; exact opt_sound ho hx hy h hs hd hr
  ·rename_i u v hx hy; exact bin_sound ho hx hy h hs hd hr
  ·cases h
 case h_13 t x y ho =>
  split at h
  ·rename_i u v hx hy; exact idx_sound ho hx hy h hs hd hr
  ·cases h
 case h_14 t x y ho =>
  split at h
  ·rename_i u v hx hy; exact make_sound ho hx hy h hs hb hd hr
  ·cases h
 case h_15 t len parts ho => exact lit_sound ho h hs hb hd hr
 case h_16 t x lo hi ho =>
  split at h
  ·rename_i u hx
   split at h
   ·exact tail_sound ho hx h hs hb hd hr
   ·exact cut_sound ho hx h hs hb hd hr
   ·exact slice_sound ho hx h hs hb hd hr
  ·cases h
 case h_17 fn first captured ho =>
  split at h
  ·rename_i caps hf hcaps
   simp only [zsI] at h; subst h
   refine done_val hs hd hr ?_
   have hf0 : first = #[] := by apply Array.ext'; simpa using hf
   have hce : captured.map a.eval = (SV.dens γ caps).toArray := by rw [← (evals_of hs hcaps).1]; apply Array.ext'; simp
   unfold execOp; simp [ho, Instr.makeFunc, SV.den, hf0, hce]
  ·cases h
 case h_18 s d x ho =>
  split at h
  ·rename_i u hx; exact conv_sound ho hx h hs hb hd hr
  ·cases h
 case h_19 t parts ho =>
  split at h
  ·exact pure_sound (by simp [ho]) h hs hd hr
  ·exact build_sound ho h hs hd hr
 case h_20 t x y ho =>
  split at h
  ·rename_i xs q m hx hy; exact agg_idx_sound ho hx hy h hs hb hd hr
  ·exact pure_sound (by simp [ho]) h hs hd hr
 case h_21 t ho => exact map_sound ho h hs hb hd hr
 case h_22 t x y c ho =>
  split at h
  ·rename_i u v hx hy; exact look_sound ho hx hy h hs hd hr
  ·cases h
 case h_23 t x y z ho =>
  split at h
  ·rename_i u v s hx hy hz; exact upd_sound ho hx hy hz h hs hd hr
  ·cases h
 all_goals first | (rename_i ho; exact pure_sound (by simp [ho]) h hs hd hr) | (cases h; done)
end
end Sx

/- A step looks at its operands and at what it reads, and at nothing else. -/
namespace Sx
open Go
set_option linter.unusedVariables false
set_option linter.unusedSimpArgs false

section
variable {P : Program} {sp : FuncId → Option Spec} {o : Oper} {E E' : Nat → Option SV} {M M' : Nat → Option Res} {b : Nat} {r : Rec}
theorem ev_same {x : Operand} (h : ∀ t, x = .tmp t → E' t = E t) : ev E' x = ev E x := by
 cases x with
 | tmp t => exact h t rfl
 | _ => rfl
theorem evs_same : ∀ {xs : List Operand}, (∀ t, Operand.tmp t ∈ xs → E' t = E t) → evs E' xs = evs E xs
 | [], _ => rfl
 | x :: xs, h => by
  simp only [evs]
  rw [ev_same (x := x) (fun t ht => h t (ht ▸ List.mem_cons_self ..)), evs_same (xs := xs) (fun t ht => h t (List.mem_cons_of_mem _ ht))]
theorem pure_same {α : Type} {ok : Rec → α} {no : α} (hsel : ∀ cs b, o.op ≠ .select cs b) (h : ∀ t, Operand.tmp t ∈ o.op.operands → E' t = E t) : pureStep P o E' ok no = pureStep P o E ok no := by
 have h1 : ∀ x ∈ o.op.operands, ev E' x = ev E x := fun x hx => ev_same fun t ht => h t (ht ▸ hx)
 have e1 : (o.op.operands.toList.all fun x => isReal (ev E' x)) = o.op.operands.toList.all fun x => isReal (ev E x) := by
  rw [Bool.eq_iff_iff, List.all_eq_true, List.all_eq_true]
  constructor
  ·intro h2 x hx; rw [← h1 x (by simpa using hx)]; exact h2 x hx
  ·intro h2 x hx; rw [h1 x (by simpa using hx)]; exact h2 x hx
 have e2 : execOp (ρof E') o = execOp (ρof E) o := execOp_congr o hsel fun x hx => by simp only [ρof, h1 x hx]
 unfold pureStep
 rw [e1, e2]
theorem bin_same {α : Type} {ok : Rec → α} {no : α} (hsel : ∀ cs b, o.op ≠ .select cs b) (h : ∀ t, Operand.tmp t ∈ o.op.operands → E' t = E t) {op : BinOp} {t : TypeId} {x y : SV} : binStep P o E' ok no op t x y = binStep P o E ok no op t x y := by
 unfold binStep
 rw [pure_same hsel h]
theorem len_same {α : Type} {ok : Rec → α} {no : α} (hsel : ∀ cs b, o.op ≠ .select cs b) (h : ∀ t, Operand.tmp t ∈ o.op.operands → E' t = E t) {t : TypeId} {x : SV} : lenStep P o E' M ok no t x = lenStep P o E M ok no t x := by
 unfold lenStep
 rw [pure_same hsel h]
theorem bound_same {d : Int} {x : Option Operand} (h : ∀ y, x = some y → ev E' y = ev E y) : boundOf E' d x = boundOf E d x := by
 cases x with
 | none => rfl
 | some y => simp only [boundOf, h y rfl]
theorem slice_same {α : Type} {ok : Rec → α} {no : α} (hsel : ∀ cs b, o.op ≠ .select cs b) (h : ∀ t, Operand.tmp t ∈ o.op.operands → E' t = E t) {t : TypeId} {x : SV} {lo hi : Option Operand} (hl : ∀ y, lo = some y → ev E' y = ev E y) (hh : ∀ y, hi = some y → ev E' y = ev E y) :
  sliceStep P o E' M b ok no t x lo hi = sliceStep P o E M b ok no t x lo hi := by
 have h1 : ∀ d, boundOf E' d lo = boundOf E d lo := fun d => bound_same hl
 have h2 : ∀ d, boundOf E' d hi = boundOf E d hi := fun d => bound_same hh
 unfold sliceStep
 simp only [h1, h2, pure_same hsel h]
theorem lit_same {α : Type} {ok : Rec → α} {no : α} {t : TypeId} {len : Nat} {parts : Array (Nat × Operand)} (h : evs E' (parts.toList.map (·.2)) = evs E (parts.toList.map (·.2))) : litStep P E' M b ok no t len parts = litStep P E M b ok no t len parts := by
 unfold litStep
 rw [h]
theorem step_sameE {α : Type} {ok : Rec → α} {no : α} {tl : Bool} (h : ∀ t, Operand.tmp t ∈ o.op.operands → E' t = E t) : step P sp o E' M b ok no tl = step P sp o E M b ok no tl := by
 unfold step
 have one : ∀ x, x ∈ o.op.operands → ev E' x = ev E x := fun x hx => ev_same fun t ht => h t (ht ▸ hx)
 split
 case h_1 x ho => rw [one x (by simp [ho, Op.operands])]
 case h_2 x ho => rw [one x (by simp [ho, Op.operands])]
 case h_3 c x y ho => rw [one c (by simp [ho, Op.operands]), one x (by simp [ho, Op.operands]), one y (by simp [ho, Op.operands])]
 case h_4 e ho => rfl
 case h_5 e x ho => rw [one x (by simp [ho, Op.operands])]
 case h_6 t x ho => rw [one x (by simp [ho, Op.operands])]
 case h_7 t x y ho => rw [one x (by simp [ho, Op.operands]), one y (by simp [ho, Op.operands])]
 case h_8 x ho => rw [one x (by simp [ho, Op.operands]), pure_same (by simp [ho]) h]
 case h_9 s x f ho => rw [one x (by simp [ho, Op.operands])]
 case h_10 x k ho => rw [one x (by simp [ho, Op.operands]), pure_same (by simp [ho]) h]
 case h_11 c ho =>
  have e : evs E' c.args.toList = evs E c.args.toList := evs_same fun t ht => h t (by simp only [ho, Op.operands, Call.operands]; exact Array.mem_append_right _ (by simpa using ht))
  split
  ·rename_i f hc
   rw [e, one f (by simp [ho, Op.operands, Call.operands, hc])]
  ·rw [e]; split <;> first | rfl | exact len_same (by simp [ho]) h
  ·rw [e]
  ·rw [e]
  ·exact pure_same (by simp [ho]) h
  ·rw [e]
  ·exact pure_same (by simp [ho]) h
  ·exact pure_same (by simp [ho]) h
  ·rfl
 case h_12 op t x y t' ho =>
  rw [one x (by simp [ho, Op.operands]), one y (by simp [ho, Op.operands])]
  split <;> first | rfl | exact bin_same (by simp [ho]) h
 case h_13 t x y ho => rw [one x (by simp [ho, Op.operands]), one y (by simp [ho, Op.operands])]
 case h_14 t x y ho => rw [one x (by simp [ho, Op.operands]), one y (by simp [ho, Op.operands])]
 case h_15 t len parts ho =>
  refine lit_same (evs_same fun t ht => h t ?_)
  simp only [ho, Op.operands]
  simpa using ht
 case h_16 t x lo hi ho =>
  rw [one x (by simp [ho, Op.operands])]
  have hlo : ∀ y, lo = some y → ev E' y = ev E y := fun y hy => one y (by simp [ho, Op.operands, hy])
  have hhi : ∀ y, hi = some y → ev E' y = ev E y := fun y hy => one y (by simp [ho, Op.operands, hy])
  split
  ·split
   ·unfold tailStep; rw [bound_same hlo]
   ·unfold cutStep; simp only [fun d => bound_same (d := d) hhi, slice_same (by simp [ho]) h hlo hhi]
   ·exact slice_same (by simp [ho]) h hlo hhi
  ·rfl
 case h_17 fn first captured ho =>
  have e : evs E' captured.toList = evs E captured.toList := evs_same fun t ht => h t (by simp only [ho, Op.operands]; exact Array.mem_append_right _ (by simpa using ht))
  rw [e]
 case h_18 s d x ho =>
  rw [one x (by simp [ho, Op.operands])]
  split
  ·unfold convStep; rw [pure_same (by simp [ho]) h]
  ·rfl
 case h_19 t parts ho =>
  have e : evs E' (parts.toList.map (·.2)) = evs E (parts.toList.map (·.2)) := evs_same fun t ht => h t (by simp only [ho, Op.operands]; simpa using ht)
  have e2 : (o.op.operands.toList.all fun x => isReal (ev E' x)) = (o.op.operands.toList.all fun x => isReal (ev E x)) := by
   rw [Bool.eq_iff_iff, List.all_eq_true, List.all_eq_true]
   constructor
   ·intro hx x hm; rw [← one x (by simpa using hm)]; exact hx x hm
   ·intro hx x hm; rw [one x (by simpa using hm)]; exact hx x hm
  rw [e2]
  split
  ·exact pure_same (by simp [ho]) h
  ·unfold buildStep; rw [e]
 case h_20 t x y ho =>
  rw [one x (by simp [ho, Op.operands]), one y (by simp [ho, Op.operands])]
  split
  ·rfl
  ·exact pure_same (by simp [ho]) h
 case h_22 t x y c ho => rw [one x (by simp [ho, Op.operands]), one y (by simp [ho, Op.operands])]
 case h_23 t x y z ho => rw [one x (by simp [ho, Op.operands]), one y (by simp [ho, Op.operands]), one z (by simp [ho, Op.operands])]
 all_goals first | rfl | (rename_i ho; exact pure_same (by simp [ho]) h)
theorem load_sameM {t : TypeId} {i off : Nat} (h : loadStep P M some none t i off = some r) (hM : ∀ i ∈ r.rd, M' i = M i) : loadStep P M' some none t i off = some r := by
 have hi : i ∈ r.rd := by
  unfold loadStep at h
  repeat' split at h
  all_goals first | (cases h; done) | (simp only [zsI] at h; subst h; simp)
 unfold loadStep at h ⊢
 rw [hM i hi]
 exact h
theorem rowsIn_v (l : List Value) : rowsIn (l.map SV.v) = [] := by
 induction l with
 | nil => rfl
 | cons x l ih => simpa [rowsIn] using ih
theorem oneM_same : ∀ (l : List SV), (∀ i ∈ rowsIn l, M' i = M i) → l.all (oneM M') = l.all (oneM M)
 | [], _ => rfl
 | x :: l, h => by
  have hl := oneM_same l (fun i hi => h i (by
   unfold rowsIn; split
   ·exact List.mem_cons_of_mem _ hi
   ·exact hi))
  have hx : oneM M' x = oneM M x := by
   unfold oneM; split
   ·rename_i i; rw [h i (by simp [rowsIn])]
   ·rfl
  rw [List.all_cons, List.all_cons, hl, hx]
theorem store_sameM {t : TypeId} {i off : Nat} {z : SV} (h : storeStep P M some none t i off z = some r) (hM : ∀ i ∈ r.rd, M' i = M i) : storeStep P M' some none t i off z = some r := by
 have hi : i ∈ r.rd := by
  unfold storeStep at h
  repeat' split at h
  all_goals first | (cases h; done) | (simp only [zsI] at h; subst h; simp)
 have hrow : ∀ j ∈ rowsIn (cellsOf z), j ∈ r.rd := by
  intro j hj
  unfold storeStep at h
  split at h
  ·split at h
   ·rename_i y; simp [cellsOf, rowsIn_v] at hj
   ·rename_i y _; exact absurd hj (by unfold cellsOf; split <;> simp_all [rowsIn_v, rowsIn])
   ·split at h
    ·simp only [zsI] at h; subst h; exact List.mem_cons_of_mem _ hj
    ·cases h
  ·split at h
   ·simp only [zsI] at h; subst h; exact List.mem_cons_of_mem _ hj
   ·cases h
  ·cases h
 have e := oneM_same (M := M) (M' := M') (cellsOf z) (fun j hj => hM j (hrow j hj))
 unfold storeStep at h ⊢
 rw [hM i hi]
 simp only [e]
 exact h
theorem box_sameM {e : TypeId} {x : SV} (h : boxStep P M b some none e x = some r) (hM : ∀ i ∈ r.rd, M' i = M i) : boxStep P M' b some none e x = some r := by
 unfold boxStep at h ⊢
 split
 ·exact h
 ·rename_i i
  simp only at h
  split at h
  ·rename_i hi
   simp only [zsI] at h
   subst h
   rw [hM i (List.mem_singleton.2 rfl), hi]
  ·cases h
 ·exact h
 ·exact h
 ·rename_i n1 n2 n3 n4
  split at h
  ·exact absurd rfl (n1 _)
  ·exact absurd rfl (n2 _)
  ·cases h
  ·cases h
  ·exact h
theorem rowsIn_append (l m : List SV) : rowsIn (l ++ m) = rowsIn l ++ rowsIn m := by
 induction l with
 | nil => rfl
 | cons x l ih =>
  cases x <;> simp [rowsIn, ih]
theorem lit_all (n : Nat) : ∀ (vs : List SV), (∀ i ∈ rowsIn (vs.flatMap cellsOf), M' i = M i) → vs.all (fun v => Nat.beq (cellsOf v).length n && (cellsOf v).all (oneM M')) = vs.all (fun v => Nat.beq (cellsOf v).length n && (cellsOf v).all (oneM M))
 | [], _ => rfl
 | v :: vs, h => by
  rw [List.flatMap_cons, rowsIn_append] at h
  rw [List.all_cons, List.all_cons, lit_all n vs (fun i hi => h i (List.mem_append_right _ hi)), oneM_same (cellsOf v) (fun i hi => h i (List.mem_append_left _ hi))]
theorem ints?_rows {k : IntKind} : ∀ {vs : List SV} {l : List Int}, ints? k vs = some l → rowsIn (vs.flatMap cellsOf) = []
 | [], l, h => rfl
 | .v (.int q m) :: vs, l, h => by
  simp only [ints?] at h
  split at h
  ·rename_i r hq hr
   rw [List.flatMap_cons, rowsIn_append, ints?_rows hr]; rfl
  ·cases h
 | .v (.bool _) :: _, _, h | .v (.float ..) :: _, _, h | .v (.complex ..) :: _, _, h | .v (.string _) :: _, _, h | .v (.pointer _) :: _, _, h | .v (.slice ..) :: _, _, h | .v (.map _) :: _, _, h | .v (.chan _) :: _, _, h | .v (.func ..) :: _, _, h | .v .nilFunc :: _, _, h | .v (.iface ..) :: _, _, h | .v .nilIface :: _, _, h | .v (.agg _) :: _, _, h | .v (.tuple _) :: _, _, h | .ptr .. :: _, _, h | .sl .. :: _, _, h | .row _ :: _, _, h | .el .. :: _, _, h | .nilq .. :: _, _, h | .agg _ :: _, _, h | .tup _ :: _, _, h | .fn .. :: _, _, h => by simp [ints?] at h
theorem lit_sameM {t : TypeId} {len : Nat} {parts : Array (Nat × Operand)} (h : litStep P E M b some none t len parts = some r) (hM : ∀ i ∈ r.rd, M' i = M i) : litStep P E M' b some none t len parts = some r := by
 unfold litStep at h
 split at h
 ·rename_i e hu
  split at h
  ·rename_i ti hti
   split at h
   ·rename_i z hz
    split at h
    ·rename_i vs hc hvs
     split at h
     ·rename_i k hall hk
      split at h
      ·rename_i l hsz hl
       have hnil := ints?_rows hl
       have e1 := lit_all (M := M) (M' := M') ti.size vs (fun i hi => by rw [hnil] at hi; cases hi)
       rw [hall] at e1
       unfold litStep
       simp only [hu, hti, hz, hc, hvs, e1, hk, hsz, hl]
       exact h
      ·rename_i hno
       simp only [zsI] at h
       have e1 := lit_all (M := M) (M' := M') ti.size vs (fun i hi => hM i (by rw [← h]; exact hi))
       rw [hall] at e1
       unfold litStep
       simp only [hu, hti, hz, hc, hvs, e1, hk]
       cases hb1 : Nat.beq ti.size 1 with
       | false => simp only [h]
       | true =>
        cases hi1 : ints? k vs with
        | none => simp only [h]
        | some l => exact absurd hi1 (hno l hb1)
     ·rename_i hall hk
      split at h
      ·rename_i h0
       have hv0 : vs = [] := by
        simp only [zaT] at h0
        exact List.eq_nil_of_length_eq_zero (zbE h0.1)
       have e1 := lit_all (M := M) (M' := M') ti.size vs (fun i hi => by rw [hv0] at hi; simp [rowsIn] at hi)
       rw [hall] at e1
       unfold litStep
       simp only [hu, hti, hz, hc, hvs, e1, hk, h0]
       exact h
      ·rename_i h0
       simp only [zsI] at h
       have e1 := lit_all (M := M) (M' := M') ti.size vs (fun i hi => hM i (by rw [← h]; exact hi))
       rw [hall] at e1
       unfold litStep
       simp only [hu, hti, hz, hc, hvs, e1, hk, h0, h]
     ·cases h
    ·cases h
   ·cases h
  ·cases h
 ·cases h
theorem fillS_same {place : Nat → Option (Nat × Nat)} : ∀ (is : List Nat) (xs cells : List SV), (∀ i ∈ rowsIn (xs.flatMap cellsOf), M' i = M i) → fillS M' place cells is xs = fillS M place cells is xs
 | [], [], _, _ => rfl
 | i :: is, x :: xs, cells, h => by
  rw [List.flatMap_cons, rowsIn_append] at h
  simp only [fillS]
  rw [oneM_same (M := M) (M' := M') (cellsOf x) (fun j hj => h j (List.mem_append_left _ hj))]
  split
  ·split
   ·exact fillS_same is xs _ (fun j hj => h j (List.mem_append_right _ hj))
   ·rfl
  ·rfl
 | [], _ :: _, _, _ => rfl
 | _ :: _, [], _, _ => rfl
theorem build_sameM {t : TypeId} {parts : Array (Nat × Operand)} (h : buildStep P E M some none t parts = some r) (hM : ∀ i ∈ r.rd, M' i = M i) : buildStep P E M' some none t parts = some r := by
 unfold buildStep at h
 split at h
 ·rename_i it fs hit hu
  split at h
  ·rename_i z places vs hz hpl hvs
   split at h
   ·rename_i cs hf
    simp only [zsI] at h
    have e := fillS_same (M := M) (M' := M') (place := fun x => places.toArray[x]?) (parts.toList.map (·.1)) vs (z.cells.toList.map .v) (fun i hi => hM i (by rw [← h]; exact hi))
    unfold buildStep
    simp only [hit, hu, hz, hpl, hvs, e, hf, h]
   ·cases h
  ·cases h
 ·rename_i it n e hit hu
  split at h
  ·rename_i z ie vs hz hie hvs
   split at h
   ·rename_i cs hf
    simp only [zsI] at h
    have e := fillS_same (M := M) (M' := M') (place := fun i => some (i * ie.size, ie.size)) (parts.toList.map (·.1)) vs (z.cells.toList.map .v) (fun i hi => hM i (by rw [← h]; exact hi))
    unfold buildStep
    simp only [hit, hu, hz, hie, hvs, e, hf, h]
   ·cases h
  ·cases h
 ·cases h
theorem call_sameM {f : FuncId} {args : List SV} (h : callStep sp M b some none f args = some r) (hM : ∀ i ∈ r.rd, M' i = M i) : callStep sp M' b some none f args = some r := by
 unfold callStep at h ⊢
 split at h
 ·rename_i s hs
  split at h
  ·rename_i hfit
   rw [selK_eq] at h
   simp only [zsI] at h
   have hrd : r.rd = s.rd args M := by rw [← h]
   rw [hrd] at hM
   obtain ⟨e1, e2, e3, e4⟩ := s.loc args M M' hfit hM
   simp only [e1, e2, e3, e4, hfit, selK_eq, h]
  ·cases h
 ·cases h
theorem el_sameM {t : TypeId} {i sz k c : Nat} (h : elLoad P M b some none t i sz k c = some r) (hM : ∀ i ∈ r.rd, M' i = M i) : elLoad P M' b some none t i sz k c = some r := by
 have hi : i ∈ r.rd := by
  unfold elLoad cellLoad deepLoad at h
  repeat' split at h
  all_goals first | (cases h; done) | (simp only [zsI] at h; subst h; simp)
 unfold elLoad at h ⊢
 rw [hM i hi]
 split at h
 ·rename_i hMi; first | exact h | (simp only [hMi]; exact h)
 ·rename_i hMi; first | exact h | (simp only [hMi]; exact h)
 ·rename_i hMi; first | exact h | (simp only [hMi]; exact h)
 ·rename_i hMi; first | exact h | (simp only [hMi]; exact h)
 ·rename_i e j hMi
  have hj : j ∈ r.rd := by
   repeat' split at h
   all_goals first | (cases h; done) | (simp only [zsI] at h; subst h; simp)
  first | (rw [hM j hj]; exact h) | (simp only [hMi, hM j hj]; exact h)
 ·rename_i hMi; first | exact h | (simp only [hMi]; exact h)
 ·rename_i e z j hMi
  have hj : j ∈ r.rd := by
   unfold deepLoad at h
   repeat' split at h
   all_goals first | (cases h; done) | (simp only [zsI] at h; subst h; simp)
  first | (rw [hM j hj]; exact h) | (simp only [hMi, hM j hj]; exact h)
 ·rename_i e z j k0 c0 m hMi
  have hj : j ∈ r.rd := by
   repeat' split at h
   all_goals first | (cases h; done) | (simp only [zsI] at h; subst h; simp)
  first | (rw [hM j hj]; exact h) | (simp only [hMi, hM j hj]; exact h)
 ·cases h
theorem elStore_sameM {t : TypeId} {i sz k c : Nat} {x : SV} (h : elStore P M some none t i sz k c x = some r) (hM : ∀ i ∈ r.rd, M' i = M i) : elStore P M' some none t i sz k c x = some r := by
 have hi : i ∈ r.rd := by
  unfold elStore at h
  repeat' split at h
  all_goals first | (cases h; done) | (simp only [zsI] at h; subst h; simp)
 unfold elStore at h ⊢
 rw [hM i hi]
 exact h
theorem holeStore_sameM {t : TypeId} {i sz k c : Nat} {x : SV} (h : holeStore P M b some none t i sz k c x = some r) (hM : ∀ i ∈ r.rd, M' i = M i) : holeStore P M' b some none t i sz k c x = some r := by
 have hi : i ∈ r.rd := by
  unfold holeStore at h
  repeat' split at h
  all_goals first | (cases h; done) | (simp only [zsI] at h; subst h; simp)
 unfold holeStore at h ⊢
 rw [hM i hi]
 split at h
 ·rename_i ti e z j hti hMi
  have hj : j ∈ r.rd := by
   repeat' split at h
   all_goals first | (cases h; done) | (simp only [zsI] at h; subst h; simp)
  simp only [hM j hj]
  exact h
 ·rename_i ti e z j k0 c0 m0 hti hMi
  have hj : j ∈ r.rd := by
   repeat' split at h
   all_goals first | (cases h; done) | (simp only [zsI] at h; subst h; simp)
  simp only [hM j hj]
  cases x with
  | v y =>
   cases y with
   | int q m =>
    simp only at h ⊢
    have hm : m0 ∈ r.rd := by
     repeat' split at h
     all_goals first | (cases h; done) | (simp only [zsI] at h; subst h; simp)
    rw [hM m0 hm]
    exact h
   | _ => simp at h
  | row m2 =>
   simp only at h ⊢
   have hm : m2 ∈ r.rd := by
    repeat' split at h
    all_goals first | (cases h; done) | (simp only [zsI] at h; subst h; simp)
   rw [hM m2 hm]
   exact h
  | _ => simp at h
 ·cases h
theorem opt_sameM {op : BinOp} {t : TypeId} {i : Nat} (h : optStep P M some none op t i = some r) (hM : ∀ i ∈ r.rd, M' i = M i) : optStep P M' some none op t i = some r := by
 have hi : i ∈ r.rd := by
  unfold optStep at h
  repeat' split at h
  all_goals first | (cases h; done) | (simp only [zsI] at h; subst h; simp)
 unfold optStep at h ⊢
 rw [hM i hi]
 exact h
theorem elNil_sameM {i sz k c : Nat} (h : elNil M some none i sz k c = some r) (hM : ∀ i ∈ r.rd, M' i = M i) : elNil M' some none i sz k c = some r := by
 unfold elNil at h
 split at h
 ·rename_i e z j hMi
  split at h
  ·rename_i gs l zz hMj
   split at h
   ·rename_i hk
    simp only [zsI] at h
    subst h
    have h1 := hM i (by simp)
    have h2 := hM j (by simp)
    unfold elNil
    simp only [h1, hMi, h2, hMj, hk]
   ·cases h
  ·cases h
 ·rename_i e z j k0 c0 m hMi
  split at h
  ·rename_i gs l zz hMj
   split at h
   ·rename_i hk
    simp only [zsI] at h
    subst h
    have h1 := hM i (by simp)
    have h2 := hM j (by simp)
    unfold elNil
    simp only [h1, hMi, h2, hMj, hk]
   ·cases h
  ·cases h
 ·cases h
theorem deref_sameM {i : Nat} (h : derefStep M some none i = some r) (hM : ∀ i ∈ r.rd, M' i = M i) : derefStep M' some none i = some r := by
 have hi : i ∈ r.rd := by
  unfold derefStep at h
  repeat' split at h
  all_goals first | (cases h; done) | (simp only [zsI] at h; subst h; simp)
 unfold derefStep at h ⊢
 rw [hM i hi]
 exact h
theorem nil_sameM {op : BinOp} {t : TypeId} {i : Nat} (h : nilStep P M some none op t i = some r) (hM : ∀ i ∈ r.rd, M' i = M i) : nilStep P M' some none op t i = some r := by
 unfold nilStep at h
 split at h
 ·rename_i h1 h2; simp only [zsI] at h; subst h; unfold nilStep; simp only [hM i (List.mem_singleton.2 rfl), h1, h2]
 ·rename_i h1 h2; simp only [zsI] at h; subst h; unfold nilStep; simp only [hM i (List.mem_singleton.2 rfl), h1, h2]
 ·cases h
theorem len_sameM {t : TypeId} {x : SV} (h : lenStep P o E M some none t x = some r) (hM : ∀ i ∈ r.rd, M' i = M i) : lenStep P o E M' some none t x = some r := by
 unfold lenStep at h
 split at h
 ·rename_i e i hu
  have hi : i ∈ r.rd := by
   repeat' split at h
   all_goals first | (cases h; done) | (simp only [zsI] at h; subst h; simp)
  unfold lenStep
  simp only [hu, hM i hi]
  split at h
  ·rename_i hMi; first | exact h | (simp only [hMi]; exact h)
  ·rename_i hMi; first | exact h | (simp only [hMi]; exact h)
  ·rename_i hMi; first | exact h | (simp only [hMi]; exact h)
  ·rename_i hMi; first | exact h | (simp only [hMi]; exact h)
  ·rename_i hMi; first | exact h | (simp only [hMi]; exact h)
  ·rename_i e j hMi
   have hj : j ∈ r.rd := by
    split at h
    all_goals first | (cases h; done) | (simp only [zsI] at h; subst h; simp)
   first | (rw [hM j hj]; exact h) | (simp only [hMi, hM j hj]; exact h)
  ·rename_i e sz j hMi
   have hj : j ∈ r.rd := by
    repeat' split at h
    all_goals first | (cases h; done) | (simp only [zsI] at h; subst h; simp)
   first | (rw [hM j hj]; exact h) | (simp only [hMi, hM j hj]; exact h)
  ·cases h
 ·rename_i hu; unfold lenStep; simp only [hu]; exact h
 ·rename_i n1 n2
  unfold lenStep
  split
  ·rename_i e i hu; exact (n1 e i hu rfl).elim
  ·rename_i hu; exact (n2 _ _ _ _ _ hu rfl).elim
  ·exact h
theorem idx_sameM {t : TypeId} {x y : SV} (h : idxStep P M some none t x y = some r) (hM : ∀ i ∈ r.rd, M' i = M i) : idxStep P M' some none t x y = some r := by
 unfold idxStep elAt at h
 split at h
 ·split at h
  ·rename_i e i hu
   have hi : i ∈ r.rd := by
    repeat' split at h
    all_goals first | (cases h; done) | (simp only [zsI] at h; subst h; simp)
   unfold idxStep elAt
   simp only [hu, hM i hi]
   split at h
   ·rename_i h1 h2; first | exact h | (simp only [h1, h2]; exact h)
   ·rename_i h1 h2; first | exact h | (simp only [h1, h2]; exact h)
   ·rename_i h1 h2; first | exact h | (simp only [h1, h2]; exact h)
   ·rename_i h1 h2; first | exact h | (simp only [h1, h2]; exact h)
   ·rename_i ti e' j h1 h2
    have hj : j ∈ r.rd := by
     repeat' split at h
     all_goals first | (cases h; done) | (simp only [zsI] at h; subst h; simp)
    first | (rw [hM j hj]; exact h) | (simp only [h1, h2, hM j hj]; exact h)
   ·rename_i ti e' sz j h1 h2
    have hj : j ∈ r.rd := by
     repeat' split at h
     all_goals first | (cases h; done) | (simp only [zsI] at h; subst h; simp)
    first | (rw [hM j hj]; exact h) | (simp only [h1, h2, hM j hj]; exact h)
   ·cases h
  ·rename_i hu; unfold idxStep; simp only [hu]; exact h
  ·rename_i hu; unfold idxStep; simp only [hu]; exact h
  ·cases h
 ·cases h
theorem slice_sameM {t : TypeId} {x : SV} {lo hi : Option Operand} (h : sliceStep P o E M b some none t x lo hi = some r) (hM : ∀ i ∈ r.rd, M' i = M i) : sliceStep P o E M' b some none t x lo hi = some r := by
 unfold sliceStep at h
 split at h
 ·rename_i e i hu
  have hi : i ∈ r.rd := by
   repeat' split at h
   all_goals first | (cases h; done) | (simp only [zsI] at h; subst h; simp)
  unfold sliceStep
  simp only [hu, hM i hi]
  exact h
 ·rename_i hu; unfold sliceStep; simp only [hu]; exact h
 ·rename_i hu; unfold sliceStep; simp only [hu]; exact h
 ·rename_i hu; unfold sliceStep; simp only [hu]; exact h
 ·cases h
theorem tail_sameM {t : TypeId} {x : SV} {lo : Option Operand} (h : tailStep P E M b some none t x lo = some r) (hM : ∀ i ∈ r.rd, M' i = M i) : tailStep P E M' b some none t x lo = some r := by
 unfold tailStep at h
 split at h
 ·rename_i e i hu
  have hi : i ∈ r.rd := by
   repeat' split at h
   all_goals first | (cases h; done) | (simp only [zsI] at h; subst h; simp)
  unfold tailStep
  simp only [hu, hM i hi]
  exact h
 ·cases h
theorem clear_sameM {t : TypeId} {x : SV} (h : clearStep P M some none t x = some r) (hM : ∀ i ∈ r.rd, M' i = M i) : clearStep P M' some none t x = some r := by
 unfold clearStep at h
 split at h
 ·rename_i e q hu
  split at h
  ·rename_i ti i lo n sz hti hq
   split at h
   ·rename_i z e' ks l hz hi
    split at h
    ·rename_i xs hxs
     split at h
     ·rename_i hb
      split at h
      ·rename_i hb3
       have h' := h
       simp only [zsI] at h'
       have hq' : M' q = some (.tail i lo n sz) := (hM q (by rw [← h']; simp)).trans hq
       have hi' : M' i = some (.own e' (.structs ks l)) := (hM i (by rw [← h']; simp)).trans hi
       unfold clearStep
       simp only [hu, hti, hq', hz, hi', hb, hb3, hxs]
       exact h
      ·cases h
     ·cases h
    ·cases h
   ·cases h
  ·cases h
 ·cases h
theorem cont_sameM {k : IntKind} {x : SV} {l : List Int} {rd : List Nat} (h : contOf M k x = some (l, rd)) (hM : ∀ i ∈ rd, M' i = M i) : contOf M' k x = some (l, rd) := by
 unfold contOf at h
 split at h
 ·simpa [contOf] using h
 ·rename_i i
  have hi : i ∈ rd := by
   repeat' split at h
   all_goals first | (cases h; done) | (simp only [zsI, zpI] at h; rw [← h.2]; simp)
  simp only [contOf, hM i hi]; exact h
 ·rename_i i off n cap
  have hi : i ∈ rd := by
   repeat' split at h
   all_goals first | (cases h; done) | (simp only [zsI, zpI] at h; rw [← h.2]; simp)
  simp only [contOf, hM i hi]; exact h
 ·cases h
theorem toStr_sameM {e : TypeId} {x : SV} (h : toStr P M some none e x = some r) (hM : ∀ i ∈ r.rd, M' i = M i) : toStr P M' some none e x = some r := by
 unfold toStr at h
 split at h
 ·rename_i l rd h1 h2
  simp only [zsI] at h
  subst h
  unfold toStr
  simp only [h1, cont_sameM h2 hM]
 ·cases h
theorem conv_sameM {s d : TypeId} {x : SV} (h : convStep P o E M b some none s d x = some r) (hM : ∀ i ∈ r.rd, M' i = M i) : convStep P o E M' b some none s d x = some r := by
 unfold convStep at h
 split at h
 ·rename_i e y hs hd; unfold convStep; simp only [hs, hd]; exact h
 ·rename_i e i hs hd; unfold convStep; simp only [hs, hd]; exact toStr_sameM h hM
 ·rename_i e i f l c hs hd; unfold convStep; simp only [hs, hd]; exact toStr_sameM h hM
 ·rename_i e0 e i hs hd
  split at h
  ·rename_i e' q l hMi
   split at h
   ·rename_i hc
    simp only [zsI] at h
    subst h
    unfold convStep
    simp only [hs, hd, hM i (List.mem_cons_self ..), hMi, hc]
   ·cases h
  ·cases h
 ·rename_i h1 h2 h3 h4
  unfold convStep
  split
  ·rename_i e y hs hd; exact absurd rfl (h1 e y hs hd)
  ·rename_i e i hs hd; exact absurd rfl (h2 e i hs hd)
  ·rename_i e i f l c hs hd; exact absurd rfl (h3 e i f l c hs hd)
  ·rename_i e0 e i hs hd; exact absurd rfl (h4 e0 e i hs hd)
  ·exact h
theorem contApp_sameM {k : IntKind} {x : SV} {l : List Int} {rd : List Nat} (h : contApp M k x = some (l, rd)) (hM : ∀ i ∈ rd, M' i = M i) : contApp M' k x = some (l, rd) := by
 unfold contApp at h
 split at h
 ·unfold contApp; exact h
 ·rename_i x hx
  have := cont_sameM h hM
  unfold contApp
  split
  ·rename_i s; exact absurd rfl (hx s)
  ·exact this
theorem cellsApp_sameM {x : SV} {p : List SV × List Nat} (h : cellsApp M x = some p) (hM : ∀ i ∈ p.2, M' i = M i) : cellsApp M' x = some p := by
 unfold cellsApp at h
 split at h
 ·rename_i i off n cap
  split at h
  ·rename_i t cs hMi
   split at h
   ·rename_i hb
    simp only [zsI] at h
    subst h
    have hi := (hM i (List.mem_cons_self ..)).trans hMi
    have ho := oneM_same (M := M) (M' := M') (l := (cs.drop off).take n) (fun j hj => hM j (List.mem_cons_of_mem _ hj))
    unfold cellsApp
    simp only [hi, ho, hb]
   ·cases h
  ·cases h
 ·cases h
theorem appCells_sameM {e : TypeId} {n : Nat} {s x : SV} (h : appCells M b some none e n s x = some r) (hM : ∀ i ∈ r.rd, M' i = M i) : appCells M' b some none e n s x = some r := by
 unfold appCells at h
 split at h
 ·rename_i l2 rd hl2
  split at h
  ·split at h
   ·rename_i hb
    simp only [zsI] at h
    have hl2' := cellsApp_sameM hl2 (fun i hi => hM i (by rw [← h]; exact hi))
    unfold appCells
    simp only [hl2', hb, h]
   ·cases h
  ·rename_i i
   split at h
   ·rename_i e' l1 hMi
    split at h
    ·rename_i hb1
     split at h
     ·rename_i hb2
      simp only [zsI] at h
      have hl2' := cellsApp_sameM hl2 (fun i hi => hM i (by rw [← h]; exact List.mem_cons_of_mem _ hi))
      have hMi' : M' i = some (.ownc e' l1) := (hM i (by rw [← h]; exact List.mem_cons_self ..)).trans hMi
      unfold appCells
      simp only [hl2', hMi', hb1, hb2, h]
     ·cases h
    ·cases h
   ·cases h
  ·cases h
 ·cases h
theorem poolOf_sameM {x : SV} {p : List (List Int) × List Nat × List (Nat × Res)} (h : poolOf M x = some p) (hM : ∀ i ∈ p.2.1, M' i = M i) : poolOf M' x = some p := by
 unfold poolOf at h
 split at h
 ·rename_i q
  split at h
  ·rename_i xss hMq
   simp only [zsI] at h
   subst h
   unfold poolOf
   simp only [hM q (List.mem_cons_self ..), hMq]
  ·rename_i e j hMq
   split at h
   ·rename_i xss hP
    simp only [zsI] at h
    subst h
    unfold poolOf
    simp only [hM q (List.mem_cons_self ..), hMq, hM j (List.mem_cons_of_mem _ (List.mem_cons_self ..)), hP]
   ·cases h
  ·cases h
 ·rename_i q off n cap
  split at h
  ·rename_i t r hMq
   split at h
   ·rename_i hb
    split at h
    ·rename_i l hR
     simp only [zsI] at h
     subst h
     unfold poolOf
     simp only [hM q (List.mem_cons_self ..), hMq, hb, hM r (List.mem_cons_of_mem _ (List.mem_cons_self ..)), hR]
    ·rename_i e l hR
     simp only [zsI] at h
     subst h
     unfold poolOf
     simp only [hM q (List.mem_cons_self ..), hMq, hb, hM r (List.mem_cons_of_mem _ (List.mem_cons_self ..)), hR]
    ·cases h
   ·cases h
  ·cases h
 ·cases h
theorem appTo_rd {e : TypeId} {bytes i : Nat} {e' : TypeId} {l1 : List (List Int)} {rd1 : List Nat} {p : List (List Int) × List Nat × List (Nat × Res)} (h : appTo b some none e bytes i e' l1 rd1 p = some r) : r.rd = rd1 ++ p.2.1 := by
 unfold appTo at h
 split at h
 ·split at h
  ·simp only [zsI] at h; subst h; rfl
  ·cases h
 ·cases h
theorem appRows_sameM {e : TypeId} {n : Nat} {s x : SV} (h : appRows M b some none e n s x = some r) (hM : ∀ i ∈ r.rd, M' i = M i) : appRows M' b some none e n s x = some r := by
 have cells : ∀ i, s = .row i → appCells M b some none e n s x = some r → M' i = M i := fun i hs hc => by
  subst hs
  unfold appCells at hc
  split at hc
  ·simp only at hc
   split at hc
   ·split at hc
    ·split at hc
     ·simp only [zsI] at hc; exact hM i (by rw [← hc]; exact List.mem_cons_self ..)
     ·cases hc
    ·cases hc
   ·cases hc
  ·cases hc
 unfold appRows at h
 split at h
 ·rename_i i
  split at h
  ·rename_i e' j hMi
   split at h
   ·rename_i l1 p hP hp
    have hrd := appTo_rd h
    have h1 := hM i (by rw [hrd]; simp)
    have h2 := hM j (by rw [hrd]; simp)
    have h3 := poolOf_sameM hp (fun q hq => hM q (by rw [hrd]; exact List.mem_append_right _ hq))
    unfold appRows
    simp only [h1, hMi, h2, hP, h3]
    exact h
   ·cases h
  ·rename_i e' hMi
   split at h
   ·rename_i q
    split at h
    ·rename_i p hp
     have hrd := appTo_rd h
     have h1 := hM i (by rw [hrd]; simp)
     have h3 := poolOf_sameM hp (fun q hq => hM q (by rw [hrd]; exact List.mem_append_right _ hq))
     unfold appRows
     simp only [h1, hMi, h3]
     exact h
    ·exfalso
     unfold appCells cellsApp at h
     simp at h
   ·rename_i hx
    have h1 := cells i rfl h
    have := appCells_sameM h hM
    unfold appRows
    simp only [h1, hMi]
    exact this
  ·rename_i n1 n2
   have h1 := cells i rfl h
   have := appCells_sameM h hM
   unfold appRows
   simp only [h1]
   exact this
 ·rename_i n1
  have := appCells_sameM h hM
  unfold appRows
  split
  ·exact (n1 _ rfl).elim
  ·exact this
theorem contS_sameM {ks : List IntKind} {x : SV} {l : List (List Int)} {rd : List Nat} (h : contS M ks x = some (l, rd)) (hM : ∀ i ∈ rd, M' i = M i) : contS M' ks x = some (l, rd) := by
 unfold contS at h
 split at h
 ·unfold contS; exact h
 ·rename_i i
  have hi : i ∈ rd := by
   repeat' split at h
   all_goals first | (cases h; done) | (simp only [zsI, zpI] at h; rw [← h.2]; simp)
  unfold contS; simp only [hM i hi]; exact h
 ·rename_i i off n cap
  have hi : i ∈ rd := by
   repeat' split at h
   all_goals first | (cases h; done) | (simp only [zsI, zpI] at h; rw [← h.2]; simp)
  unfold contS; simp only [hM i hi]; exact h
 ·cases h
theorem appS_sameM {e : TypeId} {bytes : Nat} {ks : List IntKind} {s x : SV} (h : appS M b some none e bytes ks s x = some r) (hM : ∀ i ∈ r.rd, M' i = M i) : appS M' b some none e bytes ks s x = some r := by
 unfold appS at h
 split at h
 ·rename_i l2 rd hl2
  split at h
  ·split at h
   ·rename_i hb
    have h' := h
    simp only [zsI] at h'
    have hl2' := contS_sameM hl2 (fun i hi => hM i (by rw [← h']; exact hi))
    unfold appS
    simp only [hl2', hb]
    exact h
   ·cases h
  ·rename_i i
   split at h
   ·rename_i e' q l1 hMi
    split at h
    case h_2 => cases h
    rename_i hb1
    split at h
    ·rename_i hb2
     have h' := h
     simp only [zsI] at h'
     have hl2' := contS_sameM hl2 (fun i hi => hM i (by rw [← h']; exact List.mem_cons_of_mem _ hi))
     have hMi' : M' i = some (.own e' (.structs q l1)) := (hM i (by rw [← h']; exact List.mem_cons_self ..)).trans hMi
     unfold appS
     simp only [hl2', hMi', hb1, hb2]
     exact h
    ·cases h
   ·cases h
  ·rename_i i
   split at h
   ·rename_i e' hMi
    split at h
    case h_2 => cases h
    rename_i hb1
    split at h
    ·rename_i hb2
     have h' := h
     simp only [zsI] at h'
     have hl2' := contS_sameM hl2 (fun i hi => hM i (by rw [← h']; exact List.mem_cons_of_mem _ hi))
     have hMi' : M' i = some (.blk e' []) := (hM i (by rw [← h']; exact List.mem_cons_self ..)).trans hMi
     unfold appS
     simp only [hl2', hMi', hb1, hb2]
     exact h
    ·cases h
   ·cases h
  ·cases h
 ·cases h
theorem dsCells_rows : ∀ (fs : List DS) (cs : List SV), (∀ i ∈ rowsIn cs, M' i = M i) → dsCells M' fs cs = dsCells M fs cs
 | [], [], _ => rfl
 | [], _ :: _, _ => rfl
 | _ :: _, [], _ => rfl
 | f :: fs, x :: cs, h => by
  have hc := dsCells_rows fs cs (fun i hi => h i (by unfold rowsIn; split <;> first | exact List.mem_cons_of_mem _ hi | exact hi))
  unfold dsCells
  rw [hc]
  split
  ·split
   ·rfl
   ·split
    ·rfl
    ·rename_i r
     rw [h r (by simp [rowsIn])]
    ·rfl
  ·rfl
theorem rowsIn_cons {x : SV} {l : List SV} {m : Nat} (h : m ∈ rowsIn (x :: l)) : x = .row m ∨ m ∈ rowsIn l := by
 unfold rowsIn at h
 split at h
 ·rename_i i
  rcases List.mem_cons.1 h with rfl | h
  ·exact .inl rfl
  ·exact .inr h
 ·exact .inr h
theorem frzC_same : ∀ (fs : List DS) (cs : List SV) (b : Nat), (∀ i ∈ (frzC M fs cs b).2.2, M' i = M i) → frzC M' fs cs b = frzC M fs cs b
 | [], cs, b, _ => rfl
 | _ :: _, [], b, _ => rfl
 | f :: fs, x :: cs, b, h => by
  have hsub : ∀ i ∈ (frzC M fs cs (b + 1)).2.2, i ∈ (frzC M (f :: fs) (x :: cs) b).2.2 := by
   intro i hi
   simp only [frzC]
   repeat' split
   all_goals first | exact hi | exact List.mem_cons_of_mem _ hi | exact List.mem_cons_of_mem _ (List.mem_cons_of_mem _ hi)
  have hc := frzC_same fs cs (b + 1) (fun i hi => h i (hsub i hi))
  cases f with
  | n k => cases x <;> simp only [frzC, hc]
  | s gs =>
   cases x with
   | row r =>
    have hr : M' r = M r := h r (by simp only [frzC]; repeat' split
                                    all_goals exact List.mem_cons_self ..)
    cases hMr : M r with
    | none => simp only [frzC, hc, hr, hMr]
    | some q =>
     cases q with
     | ownq e z j =>
      have hj : M' j = M j := h j (by simp only [frzC, hMr]; repeat' split
                                      all_goals exact List.mem_cons_of_mem _ (List.mem_cons_self ..))
      simp only [frzC, hc, hr, hMr, hj]
     | _ => simp only [frzC, hc, hr, hMr]
   | _ => simp only [frzC, hc]
theorem frzC_rows : ∀ (fs : List DS) (cs : List SV) (b m : Nat), m ∈ rowsIn (frzC M fs cs b).1 → m ∈ (frzC M fs cs b).2.2 ∨ ∃ r, look (frzC M fs cs b).2.1 m = some r
 | [], cs, b, m, h => .inl h
 | _ :: _, [], b, m, h => by simp [frzC, rowsIn] at h
 | f :: fs, x :: cs, b, m, h => by
  have ih := frzC_rows fs cs (b + 1) m
  have more : ∀ (k : Nat) (r : Res) (fz : Mem), (∃ q, look fz m = some q) → ∃ q, look ((k, r) :: fz) m = some q := by
   intro k r fz ⟨q, hq⟩
   rw [look_cons]
   split
   ·exact ⟨_, rfl⟩
   ·exact ⟨q, hq⟩
  have top : ∀ (rd : List Nat) (y : SV), y = x → m ∈ rowsIn (y :: (frzC M fs cs (b + 1)).1) → (∀ r, x = .row r → r ∈ rd) → (∀ i ∈ (frzC M fs cs (b + 1)).2.2, i ∈ rd) → m ∈ rd ∨ ∃ r, look (frzC M fs cs (b + 1)).2.1 m = some r := by
   intro rd y hy hm h1 h2
   subst hy
   rcases rowsIn_cons hm with e | e
   ·exact .inl (h1 m e)
   ·exact (ih e).imp (h2 m) id
  have new : ∀ (rd : List Nat) (q : Res) (g : Nat × Res), m ∈ rowsIn (SV.row b :: (frzC M fs cs (b + 1)).1) → (∀ i ∈ (frzC M fs cs (b + 1)).2.2, i ∈ rd) → m ∈ rd ∨ ∃ r, look ((b, q) :: g :: (frzC M fs cs (b + 1)).2.1) m = some r := by
   intro rd q g hm h2
   rcases rowsIn_cons hm with e | e
   ·simp only [SV.row.injEq] at e
    exact .inr ⟨q, by rw [look_cons, if_pos e]⟩
   ·exact (ih e).imp (h2 m) (fun hq => more _ _ _ (more _ _ _ hq))
  have c1 : ∀ (r : Nat) (l : List Nat), ∀ i ∈ l, i ∈ r :: l := fun r l i hi => List.mem_cons_of_mem _ hi
  have c2 : ∀ (r s : Nat) (l : List Nat), ∀ i ∈ l, i ∈ r :: s :: l := fun r s l i hi => List.mem_cons_of_mem _ (List.mem_cons_of_mem _ hi)
  cases f with
  | n k =>
   cases x with
   | row r => simp only [frzC] at h ⊢; exact top _ _ rfl h (fun q hq => by cases hq; exact List.mem_cons_self ..) (c1 _ _)
   | _ => simp only [frzC] at h ⊢; exact top _ _ rfl h (fun q hq => by cases hq) (fun _ hi => hi)
  | s gs =>
   cases x with
   | row r =>
    cases hMr : M r with
    | none => simp only [frzC, hMr] at h ⊢; exact top _ _ rfl h (fun q hq => by cases hq; exact List.mem_cons_self ..) (c1 _ _)
    | some q =>
     cases q with
     | ownq e z j =>
      simp only [frzC, hMr] at h ⊢
      repeat' split at h
      all_goals first
       | (simp only [*]; exact new _ _ _ h (c2 _ _ _))
       | (simp only [*]; exact top _ _ rfl h (fun q hq => by cases hq; exact List.mem_cons_self ..) (c2 _ _ _))
     | own e ct =>
      simp only [frzC, hMr] at h ⊢
      repeat' split at h
      all_goals first
       | (simp only [*]; exact new _ _ _ h (c1 _ _))
       | (simp only [*]; exact top _ _ rfl h (fun q hq => by cases hq; exact List.mem_cons_self ..) (c1 _ _))
     | _ => simp only [frzC, hMr] at h ⊢; exact top _ _ rfl h (fun q hq => by cases hq; exact List.mem_cons_self ..) (c1 _ _)
   | _ => simp only [frzC] at h ⊢; exact top _ _ rfl h (fun q hq => by cases hq) (fun _ hi => hi)
theorem appQ_sameM {e : TypeId} {n sz : Nat} {s x : SV} (h : appQ M b some none e n sz s x = some r) (hM : ∀ i ∈ r.rd, M' i = M i) : appQ M' b some none e n sz s x = some r := by
 unfold appQ at h ⊢
 split at h
 ·rename_i q i
  split at h
  ·rename_i t cs e' z j hq hi
   split at h
   ·rename_i fs l zz hj
    simp only at h ⊢
    split at h
    ·rename_i d rs a hc
     split at h
     ·rename_i h1
      split at h
      ·rename_i h2
       simp only [zsI] at h
       subst h
       have k1 := hM i (by simp)
       have k2 := hM j (by simp)
       have k3 := hM q (by simp)
       have k5 := frzC_same (M := M) (M' := M') fs cs (b + 2) (fun m hm => hM m (by simp only [List.mem_cons]; exact .inr (.inr (.inr hm))))
       have k4 : dsCells (memM (frzC M fs cs (b + 2)).2.1 M') fs (frzC M fs cs (b + 2)).1 = dsCells (memM (frzC M fs cs (b + 2)).2.1 M) fs (frzC M fs cs (b + 2)).1 := by
        refine dsCells_rows _ _ (fun m hm => ?_)
        unfold memM
        rcases frzC_rows _ _ _ _ hm with h3 | ⟨r, h3⟩
        ·rw [hM m (by simp only [List.mem_cons]; exact .inr (.inr (.inr h3)))]
        ·rw [h3]
       simp only [k1, k2, k3, hq, hi, hj, k5, k4, hc, h1, h2]
      ·cases h
     ·cases h
    ·cases h
   ·cases h
  ·cases h
 ·cases h
theorem app_sameM {t u : TypeId} {s x : SV} (h : appStep P M b some none t u s x = some r) (hM : ∀ i ∈ r.rd, M' i = M i) : appStep P M' b some none t u s x = some r := by
 unfold appStep at h
 split at h
 ·rename_i e hu htu
  split at h
  ·rename_i ti hti
   split at h
   ·rename_i z hz
    split at h
    ·rename_i k hk hsz
     split at h
     ·rename_i l2 rd hl2
      split at h
      ·split at h
       ·rename_i hb
        simp only [zsI] at h
        have hl2' := contApp_sameM hl2 (fun i hi => hM i (by rw [← h]; exact hi))
        unfold appStep
        simp only [hu, htu, hti, hz, hk, hsz, hl2', hb, h]
       ·cases h
      ·rename_i i
       split at h
       ·rename_i e' q l1 hMi
        split at h
        case h_2 => cases h
        rename_i hb1
        split at h
        ·rename_i hb2
         simp only [zsI] at h
         have hl2' := contApp_sameM hl2 (fun i hi => hM i (by rw [← h]; exact List.mem_cons_of_mem _ hi))
         have hMi' : M' i = some (.own e' (.ints q l1)) := (hM i (by rw [← h]; exact List.mem_cons_self ..)).trans hMi
         unfold appStep
         simp only [hu, htu, hti, hz, hk, hsz, hl2', hMi', hb1, hb2, h]
        ·cases h
       ·cases h
      ·cases h
     ·cases h
    ·rename_i hk hsz
     split at h
     ·rename_i hb
      unfold appStep
      simp only [hu, htu, hti, hz, hk, hsz, hb]
      exact appRows_sameM h hM
     ·cases h
    ·rename_i hsz
     split at h
     ·rename_i ks htu2 hks
      split at h
      ·rename_i hb
       unfold appStep
       simp only [hu, htu, hti, hz, hsz, htu2, hks, hb]
       exact appS_sameM h hM
      ·cases h
     ·rename_i htu2 hks
      split at h
      ·rename_i hb
       unfold appStep
       simp only [hu, htu, hti, hz, hsz, htu2, hks, hb]
       exact appQ_sameM h hM
      ·cases h
     ·cases h
   ·cases h
  ·cases h
 ·cases h
theorem cut_sameM {t : TypeId} {x : SV} {lo hi : Option Operand} (h : cutStep P o E M b some none t x lo hi = some r) (hM : ∀ i ∈ r.rd, M' i = M i) : cutStep P o E M' b some none t x lo hi = some r := by
 unfold cutStep at h
 split at h
 ·split at h
  ·rename_i e i hu
   split at h
   ·rename_i ti e' c hti hMi
    split at h
    ·rename_i h' hsz hh
     split at h
     ·rename_i hc
      simp only [zsI] at h
      subst h
      have := hM i (by simp)
      unfold cutStep
      simp only [hu, hti, this, hMi, hsz, hh, hc]
     ·cases h
    ·cases h
   ·rename_i hno
    have h2 := slice_sameM h hM
    unfold cutStep
    simp only [hu]
    split
    ·rename_i ti e' c hti hMi
     exfalso
     unfold sliceStep at h
     simp only [hu, hti] at h
     split at h
     ·rename_i hti2 hMi2
      split at h
      ·split at h
       ·simp only [zsI] at h; subst h
        have := hM i (by simp)
        rw [hMi, hMi2] at this; cases this
       ·cases h
      ·cases h
     ·rename_i hti2 hMi2
      exact hno _ _ _ hti hMi2
     ·rename_i hti2 hMi2
      split at h
      ·split at h
       ·simp only [zsI] at h; subst h
        have := hM i (by simp)
        rw [hMi, hMi2] at this; cases this
       ·cases h
      ·cases h
     ·cases h
    ·exact h2
  ·rename_i hno
   have h2 := slice_sameM h hM
   unfold cutStep
   simp only
   exact h2
 ·unfold cutStep; exact slice_sameM h hM
theorem copy_sameM {t : TypeId} {d x : SV} (h : copyStep P M some none t d x = some r) (hM : ∀ i ∈ r.rd, M' i = M i) : copyStep P M' some none t d x = some r := by
 unfold copyStep at h
 split at h
 ·rename_i e i off n cap hu
  split at h
  ·rename_i ti et m arr hti hMi
   split at h
   ·rename_i l0 l rd hsz hl0 hl
    split at h
    ·rename_i hni
     simp only [zsI] at h
     subst h
     have h1 := hM i (by simp)
     have h2 := cont_sameM (M' := M') hl (fun j hj => hM j (by simp [hj]))
     unfold copyStep
     simp only [hu, hti, h1, hMi, hsz, hl0, h2, hni]
    ·cases h
   ·cases h
  ·cases h
 ·cases h
theorem field_sameM {s : TypeId} {p : SV} {f : Nat} (h : fieldStep P M some none s p f = some r) (hM : ∀ i ∈ r.rd, M' i = M i) : fieldStep P M' some none s p f = some r := by
 unfold fieldStep at h
 split at h
 ·unfold fieldStep; exact h
 ·rename_i i sz k c
  split at h
  ·rename_i fs hu
   split at h
   ·rename_i fd hfd
    split at h
    ·rename_i ti hti
     split at h
     ·rename_i ct hsz hMi
      split at h
      ·rename_i hk
       simp only [zsI] at h
       subst h
       have h1 := hM i (by simp)
       unfold fieldStep
       simp only [hu, hfd, hti, hsz, h1, hMi, hk]
      ·cases h
     ·rename_i e ct hsz hMi
      split at h
      ·rename_i hk
       simp only [zsI] at h
       subst h
       have h1 := hM i (by simp)
       unfold fieldStep
       simp only [hu, hfd, hti, hsz, h1, hMi, hk]
      ·cases h
     ·rename_i gs l hsz hMi
      split at h
      ·rename_i hk
       simp only [zsI] at h
       subst h
       have h1 := hM i (by simp)
       unfold fieldStep
       simp only [hu, hfd, hti, hsz, h1, hMi, hk]
      ·cases h
     ·rename_i e z j hsz hMi
      split at h
      ·rename_i gs l zz hMj
       split at h
       ·rename_i hk
        simp only [zsI] at h
        subst h
        have h1 := hM i (by simp)
        have h2 := hM j (by simp)
        unfold fieldStep
        simp only [hu, hfd, hti, hsz, h1, hMi, h2, hMj, hk]
       ·cases h
      ·cases h
     ·rename_i e z j k0 c0 m hsz hMi
      split at h
      ·rename_i gs l zz hMj
       split at h
       ·rename_i hk
        simp only [zsI] at h
        subst h
        have h1 := hM i (by simp)
        have h2 := hM j (by simp)
        unfold fieldStep
        simp only [hu, hfd, hti, hsz, h1, hMi, h2, hMj, hk]
       ·cases h
      ·cases h
     ·cases h
    ·cases h
   ·cases h
  ·cases h
 ·rename_i i
  have hi : i ∈ r.rd := by
   repeat' split at h
   all_goals first | (cases h; done) | (simp only [zsI] at h; subst h; simp)
  unfold fieldStep; simp only [hM i hi]; exact h
 ·cases h
theorem bundLoad_sameM {cs : List SV} {j k : Nat} {rd : List Nat} (h : bundLoad M b some none cs j k rd = some r) (hM : M' j = M j) : bundLoad M' b some none cs j k rd = some r := by
 unfold bundLoad at h ⊢; rw [hM]; exact h
theorem selLoad_sameM {t : TypeId} {i pre k : Nat} (h : selLoad P M b some none t i pre k = some r) (hM : ∀ i ∈ r.rd, M' i = M i) : selLoad P M' b some none t i pre k = some r := by
 unfold selLoad at h
 split at h
 ·rename_i e cs hk hMi
  split at h
  ·rename_i j hj
   obtain ⟨ks, L, hMj, h1, h2, e1⟩ := bundLoad_spec h
   have hi : M' i = M i := hM i (by rw [e1]; simp)
   unfold selLoad
   simp only [hk, hi, hMi, hj]
   exact bundLoad_sameM h (hM j (by rw [e1]; simp))
  ·rename_i hj
   split at h
   ·rename_i x hx
    have hi : M' i = M i := hM i (by simp only [zsI] at h; subst h; simp)
    unfold selLoad
    simp only [hk, hi, hMi, hj, hx]
    exact h
   ·cases h
 ·rename_i e cs hk hMi
  split at h
  ·rename_i j hj
   obtain ⟨ks, L, hMj, h1, h2, e1⟩ := bundLoad_spec h
   have hi : M' i = M i := hM i (by rw [e1]; simp)
   unfold selLoad
   simp only [hk, hi, hMi, hj]
   exact bundLoad_sameM h (hM j (by rw [e1]; simp))
  ·rename_i hj
   split at h
   ·rename_i x hx
    have hi : M' i = M i := hM i (by simp only [zsI] at h; subst h; simp)
    unfold selLoad
    simp only [hk, hi, hMi, hj, hx]
    exact h
   ·cases h
 ·cases h
theorem aggIdx_sameM {t : TypeId} {xs : List SV} {m : Int} (h : aggIdx P M b some none t xs m = some r) (hM : ∀ i ∈ r.rd, M' i = M i) : aggIdx P M' b some none t xs m = some r := by
 unfold aggIdx at h
 split at h
 ·rename_i n e hu
  split at h
  ·rename_i ti hti
   split at h
   ·rename_i j h1 hj
    obtain ⟨ks, L, hMj, _, _, e1⟩ := bundLoad_spec h
    unfold aggIdx
    simp only [hu, hti, h1, hj]
    exact bundLoad_sameM h (hM j (by rw [e1]; simp))
   ·cases h
  ·cases h
 ·cases h
theorem selStore_sameM {t : TypeId} {i pre k : Nat} {x : SV} (h : selStore P M b some none t i pre k x = some r) (hM : ∀ i ∈ r.rd, M' i = M i) : selStore P M' b some none t i pre k x = some r := by
 unfold selStore at h
 split at h
 ·rename_i ti e cs hti hMi
  split at h
  ·rename_i j q off hj
   split at h
   ·rename_i ks L hMj
    split at h
    ·rename_i ty qs xs hst h1
     split at h
     ·rename_i h2
      have hrd : r.rd = [i, j, q] := by simp only [zsI] at h; subst h; rfl
      have hi : M' i = M i := hM i (by rw [hrd]; simp)
      have hj' : M' j = M j := hM j (by rw [hrd]; simp)
      have hq : M' q = M q := hM q (by rw [hrd]; simp)
      unfold selStore
      simp only [hti, hi, hMi, hj, hj', hMj, hq, hst, h1, h2]
      exact h
     ·cases h
    ·cases h
   ·cases h
  ·cases h
 ·cases h
theorem look_sameM {t : TypeId} {c : Bool} {x y : SV} (h : lookStep P M some none t c x y = some r) (hM : ∀ i ∈ r.rd, M' i = M i) : lookStep P M' some none t c x y = some r := by
 unfold lookStep at h ⊢
 split at h
 ·rename_i ks i v hk
  split at h
  ·rename_i hm
   split at h
   ·rename_i he
    split at h
    ·rename_i hd
     simp only [zsI] at h
     subst h
     simp only [hM _ (List.mem_singleton.2 rfl), hm, he, hd]
    ·cases h
   ·cases h
  ·cases h
 ·cases h
theorem upd_sameM {t : TypeId} {x y z : SV} (h : updStep P M some none t x y z = some r) (hM : ∀ i ∈ r.rd, M' i = M i) : updStep P M' some none t x y z = some r := by
 unfold updStep at h ⊢
 split at h
 ·rename_i ks i v c hk
  split at h
  ·rename_i hm
   split at h
   ·rename_i he
    split at h
    ·rename_i hd
     split at h
     ·cases h
     ·rename_i hq
      simp only [zsI] at h
      subst h
      simp only [hM _ (List.mem_singleton.2 rfl), hm, he, hd, hq]
    ·cases h
   ·cases h
  ·cases h
 ·cases h
theorem step_sameM {tl : Bool} (h : step P sp o E M b some none tl = some r) (hM : ∀ i ∈ r.rd, M' i = M i) : step P sp o E M' b some none tl = some r := by
 unfold step at h
 split at h
 case h_4 e ho =>
  split at h
  ·rename_i ti hti
   split at h
   ·rename_i z hz
    unfold step; simp only [ho, hti, hz]; exact box_sameM h hM
   ·cases h
  ·cases h
 case h_5 e x ho =>
  split at h
  ·rename_i y hy
   unfold step; simp only [ho, hy]; exact box_sameM h hM
  ·cases h
 case h_15 t len parts ho =>
  unfold step; simp only [ho]; exact lit_sameM h hM
 case h_6 t x ho =>
  split at h
  ·rename_i i off hx
   unfold step; simp only [ho, hx]; exact load_sameM h hM
  ·rename_i i sz k c hx
   unfold step; simp only [ho, hx]; exact el_sameM h hM
  ·rename_i i pre k hx
   unfold step; simp only [ho, hx]; exact selLoad_sameM h hM
  ·cases h
 case h_7 t x y ho =>
  split at h
  ·rename_i i off z hx hy
   unfold step; simp only [ho, hx, hy]; exact store_sameM h hM
  ·rename_i i sz k c z hx hy
   split at h
   ·rename_i hh
    have hi : i ∈ r.rd := by
     unfold holeStore at h
     repeat' split at h
     all_goals first | (cases h; done) | (simp only [zsI] at h; subst h; simp)
    unfold step; simp only [ho, hx, hy, hM i hi, hh]; exact holeStore_sameM h hM
   ·rename_i hh
    have hi : i ∈ r.rd := by
     unfold elStore at h
     repeat' split at h
     all_goals first | (cases h; done) | (simp only [zsI] at h; subst h; simp)
    unfold step; simp only [ho, hx, hy, hM i hi, hh]; exact elStore_sameM h hM
  ·rename_i i pre k z hx hy
   unfold step; simp only [ho, hx, hy]; exact selStore_sameM h hM
  ·cases h
 case h_11 c ho =>
  split at h
  ·rename_i f hc
   split at h
   ·rename_i fv hf
    split at h
    ·rename_i g caps args hfn hargs
     unfold step; simp only [ho, hc, hf, hfn, hargs]; exact call_sameM h hM
    ·cases h
   ·cases h
  ·rename_i hc
   split at h
   ·rename_i t x ht hx
    unfold step; simp only [ho, hc, ht, hx]; exact len_sameM h hM
   ·cases h
  ·rename_i hc
   split at h
   ·rename_i t u s x ht hx
    split at h
    ·rename_i hi
     unfold step; simp only [ho, hc, ht, hx, hi]; exact h
    ·rename_i hi
     unfold step; simp only [ho, hc, ht, hx, hi]; exact app_sameM h hM
   ·cases h
  ·rename_i hc
   split at h
   ·rename_i t u d x ht hx
    unfold step; simp only [ho, hc, ht, hx]; exact copy_sameM h hM
   ·cases h
  ·rename_i hc; unfold step; simp only [ho, hc]; exact h
  ·rename_i hc
   split at h
   ·rename_i t x ht hx
    unfold step; simp only [ho, hc, ht, hx]; exact clear_sameM h hM
   ·cases h
  ·rename_i hc; unfold step; simp only [ho, hc]; exact h
  ·rename_i hc; unfold step; simp only [ho, hc]; exact h
  ·cases h
 case h_8 x ho =>
  split at h
  ·rename_i i off hx
   unfold step; simp only [ho, hx]; exact h
  ·rename_i f caps hx
   unfold step; simp only [ho, hx]; exact h
  ·rename_i i hx
   unfold step; simp only [ho, hx]; exact deref_sameM h hM
  ·rename_i i sz k c hx
   unfold step; simp only [ho, hx]; exact elNil_sameM h hM
  ·rename_i n1 n2 n3
   unfold step; simp only [ho]
   exact h
 case h_9 s x f ho =>
  split at h
  ·rename_i p hp
   unfold step; simp only [ho, hp]; exact field_sameM h hM
  ·cases h
 case h_12 op t x y t' ho =>
  split at h
  ·rename_i i hx hy
   unfold step; simp only [ho, hx, hy]; exact nil_sameM h hM
  ·rename_i i hx hy
   unfold step; simp only [ho, hx, hy]; exact opt_sameM h hM
  ·rename_i u v hno hno2 hx hy
   unfold step; simp only [ho, hx, hy]; exact h
  ·cases h
 case h_13 t x y ho =>
  split at h
  ·rename_i u v hx hy
   unfold step; simp only [ho, hx, hy]; exact idx_sameM h hM
  ·cases h
 case h_16 t x lo hi ho =>
  split at h
  ·rename_i u hx
   split at h
   ·unfold step; simp only [ho, hx]; exact tail_sameM h hM
   ·unfold step; simp only [ho, hx]; exact cut_sameM h hM
   ·rename_i n1
    unfold step; simp only [ho, hx]
    exact slice_sameM h hM
  ·cases h
 case h_18 s d x ho =>
  split at h
  ·rename_i u hx
   unfold step; simp only [ho, hx]; exact conv_sameM h hM
  ·cases h
 case h_19 t parts ho =>
  split at h
  ·rename_i hr
   unfold step; simp only [ho] at hr ⊢; rw [hr]; exact h
  ·rename_i hr
   unfold step; simp only [ho] at hr ⊢; rw [hr]; exact build_sameM h hM
 case h_20 t x y ho =>
  split at h
  ·rename_i xs q m hx hy
   unfold step; simp only [ho, hx, hy]; exact aggIdx_sameM h hM
  ·rename_i n1
   unfold step; simp only [ho]
   exact h
 case h_21 t ho => unfold step; simp only [ho]; exact h
 case h_22 t x y c ho =>
  split at h
  ·rename_i u v hx hy
   unfold step; simp only [ho, hx, hy]; exact look_sameM h hM
  ·cases h
 case h_23 t x y z ho =>
  split at h
  ·rename_i u v s hx hy hz
   unfold step; simp only [ho, hx, hy, hz]; exact upd_sameM h hM
  ·cases h
 case h_26 => cases h
 all_goals (rename_i ho; unfold step; simp only [ho]; exact h)
theorem step_same {tl : Bool} (h : step P sp o E M b some none tl = some r) (hE : ∀ t, Operand.tmp t ∈ o.op.operands → E' t = E t) (hM : ∀ i ∈ r.rd, M' i = M i) : step P sp o E' M' b some none tl = some r := by
 rw [step_sameE hE]; exact step_sameM h hM
end
end Sx

/- A region whose order is open: what the text's order tells holds of every order. -/
namespace Sx
open Go
set_option linter.unusedVariables false
set_option linter.unusedSimpArgs false

/-! The last of several writers. -/
def lastOf {β : Type} (val : Nat → Option β) (p : Nat → Bool) (z : Option β) : Nat → Option β
 | 0 => z
 | k + 1 => if p k = true then val k else lastOf val p z k
theorem lastOf_ext {β : Type} {val : Nat → Option β} {p q : Nat → Bool} {z : Option β} : ∀ n, (∀ k, k < n → p k = q k) → lastOf val p z n = lastOf val q z n
 | 0, _ => rfl
 | n + 1, h => by
  simp only [lastOf]
  rw [h n (by omega), lastOf_ext n (fun k hk => h k (by omega))]
theorem lastOf_more {β : Type} {val : Nat → Option β} {p : Nat → Bool} {z : Option β} {n : Nat} : ∀ m, n ≤ m → (∀ k, n ≤ k → k < m → p k = false) → lastOf val p z m = lastOf val p z n
 | 0, h, _ => by have : n = 0 := by omega
                 subst this; rfl
 | m + 1, h, hp => by
  by_cases e : n = m + 1
  ·subst e; rfl
  ·simp only [lastOf]
   rw [if_neg (by simp [hp m (by omega) (by omega)]), lastOf_more m (by omega) (fun k h1 h2 => hp k h1 (by omega))]
theorem lastOf_iff {β : Type} {val : Nat → Option β} {p q : Nat → Bool} {z : Option β} {n m : Nat} (h : ∀ k, (k < n ∧ p k = true) ↔ (k < m ∧ q k = true)) : lastOf val p z n = lastOf val q z m := by
 let p' : Nat → Bool := fun k => decide (k < n) && p k
 have h1 : ∀ k, p' k = (decide (k < m) && q k) := fun k => by
  rw [Bool.eq_iff_iff]; simpa [p'] using h k
 have e1 : lastOf val p z n = lastOf val p' z (n + m) := by
  rw [lastOf_more (val := val) (p := p') (n := n) (n + m) (by omega) (fun k hk _ => by simp [p']; omega)]
  exact lastOf_ext n fun k hk => by simp [p', hk]
 have e2 : lastOf val q z m = lastOf val p' z (n + m) := by
  rw [lastOf_more (val := val) (p := p') (n := m) (n + m) (by omega) (fun k hk _ => by rw [h1]; simp; omega)]
  exact lastOf_ext m fun k hk => by rw [h1]; simp [hk]
 rw [e1, e2]

def skipRec : Rec := ⟨.v undef, [], []⟩
def gate (ops : Array Oper) (o : Oper) (E : Nat → Option SV) : Option Bool := match o.guard with
 | none => some true
 | some (j, want) => match (ops[j]?).bind (·.dst) with
  | some d => match E d with
   | some (.v (.bool t)) => some (t == want)
   | some (.v (.tuple _)) => some false
   | _ => none
  | none => none
section
variable {I : Interp} {P : Program} {sp : FuncId → Option Spec} {N : Nat} {w0 : World} {S0 : Ft} {γ : Vn} {D : Nat → Bool} {E E' : Nat → Option SV} {M : Nat → Option Res} {a : Act} {w : World} {b : Nat} {o : Oper} {Q : Exit → Act → World → Prop} {r : Rec} {ops : Array Oper}
theorem gate_wanted {g : Bool} (h : gate ops o E = some g) (hs : Sat I N w0 S0 γ D E M a w) : Region.wanted o (yielded ops a.tmps) = g := by
 unfold gate at h
 unfold Region.wanted
 split at h
 ·rename_i hg; simp only [zsI] at h; subst h; simp [hg]
 ·rename_i j want hg
  split at h
  ·rename_i d hd
   split at h
   ·rename_i t ht
    simp only [zsI] at h
    subst h
    have := hs.env d _ ht
    simp only [hg, yielded, hd, Option.bind_some, this, SV.den]
    cases t <;> cases want <;> rfl
   ·rename_i t ht
    simp only [zsI] at h
    subst h
    have := hs.env d _ ht
    simp only [hg, yielded, hd, Option.bind_some, this, SV.den]
    cases want <;> rfl
   ·cases h
  ·cases h
theorem gate_same (h : ∀ t ∈ o.looksAt ops, E' t = E t) : gate ops o E' = gate ops o E := by
 unfold gate
 split
 ·rfl
 ·rename_i j want hg
  split
  ·rename_i d hd
   rw [h d (by simp [Oper.looksAt, hg, hd])]
  ·rfl

/-! Frames and memory behind some of the operations. -/
def dstAt (ops : Array Oper) (k : Nat) : Option Tmp := (ops[k]?).bind (·.dst)
def EL (ops : Array Oper) (rs : Nat → Rec) (E0 : Nat → Option SV) (L : Nat → Bool) (n : Nat) : Nat → Option SV := fun t => lastOf (fun k => some (rs k).v) (fun k => L k && (dstAt ops k == some t)) (E0 t) n
def ML (rs : Nat → Rec) (M0 : Nat → Option Res) (L : Nat → Bool) (n : Nat) : Nat → Option Res := fun i => lastOf (fun k => look (rs k).effs i) (fun k => L k && (look (rs k).effs i).isSome) (M0 i) n
theorem EL_succ (rs : Nat → Rec) (E0 : Nat → Option SV) (L : Nat → Bool) (k : Nat) (h : L k = true) {o : Oper} (ho : ops[k]? = some o) : EL ops rs E0 L (k + 1) = putE (EL ops rs E0 L k) o.dst (rs k).v := by
 funext t
 simp only [EL, lastOf, h, Bool.true_and]
 have hd : dstAt ops k = o.dst := by simp [dstAt, ho]
 rw [hd]
 cases hdst : o.dst with
 | none => simp [putE]; rfl
 | some d =>
  simp only [putE]
  by_cases hdt : d = t
  ·subst hdt; simp
  ·simp [hdt]; rfl
theorem ML_succ (rs : Nat → Rec) (M0 : Nat → Option Res) (L : Nat → Bool) (k : Nat) (h : L k = true) : ML rs M0 L (k + 1) = updM (rs k).effs (ML rs M0 L k) := by
 funext i
 simp only [ML, lastOf, h, Bool.true_and, updM]
 cases look (rs k).effs i <;> simp

def memApart (x y : Rec) : Bool := x.effs.all fun p => !(y.rd.any (Nat.beq p.1)) && !(y.effs.any fun q => Nat.beq p.1 q.1)
def idOk (B : Nat) (bef : Nat → Nat → Bool) (k i : Nat) : Bool := Nat.blt i B || Nat.beq ((i - B) / 64) k || bef k ((i - B) / 64)
def recOk (B : Nat) (bef : Nat → Nat → Bool) (k : Nat) (r : Rec) : Bool := r.v.ids (idOk B bef k) && r.effs.all fun p => idOk B bef k p.1 && p.2.ids (idOk B bef k)
structure Conf (ops : Array Oper) (rs : Nat → Rec) (B : Nat) (bef : Nat → Nat → Bool) : Prop where
 pair : ∀ i j oi oj, i < j → ops[i]? = some oi → ops[j]? = some oj → bef j i = true ∨ (oi.apart ops oj = true ∧ memApart (rs i) (rs j) = true ∧ memApart (rs j) (rs i) = true)
 befs : ∀ j i oj, ops[j]? = some oj → bef j i = true → ∃ e ∈ oj.after, Region.binds .any e = true ∧ (e.on = i ∨ bef e.on i = true)
 up : ∀ j oj, ops[j]? = some oj → ∀ e ∈ oj.after, Region.binds .any e = true → e.on < j
 scope : ∀ k o, ops[k]? = some o → recOk B bef k (rs k) = true
def Valid (P : Program) (sp : FuncId → Option Spec) (ops : Array Oper) (rs : Nat → Rec) (E0 : Nat → Option SV) (M0 : Nat → Option Res) (B : Nat) (j : Nat) (o : Oper) : Prop :=
 (gate ops o (EL ops rs E0 (fun _ => true) j) = some true ∧ step P sp o (EL ops rs E0 (fun _ => true) j) (ML rs M0 (fun _ => true) j) (B + 64 * j) some none (flagged ops.toList) = some (rs j)) ∨
 (gate ops o (EL ops rs E0 (fun _ => true) j) = some false ∧ rs j = skipRec)

theorem below_lt {bef : Nat → Nat → Bool} {rs : Nat → Rec} {B : Nat} (hc : Conf ops rs B bef) : ∀ (n j i : Nat) (oj : Oper), j < n → ops[j]? = some oj → bef j i = true → i < j
 | 0, j, i, oj, h, _, _ => by omega
 | n + 1, j, i, oj, h, hj, hb => by
  obtain ⟨e, he, hbi, h1⟩ := hc.befs j i oj hj hb
  have hlt := hc.up j oj hj e he hbi
  rcases h1 with rfl | h1
  ·exact hlt
  ·have hsz : j < ops.size := (Array.getElem?_eq_some_iff.1 hj).1
   have := below_lt hc n e.on i _ (by omega) (Array.getElem?_eq_getElem (by omega : e.on < ops.size)) h1
   omega
def Closed (ops : Array Oper) (L : Nat → Bool) : Prop := ∀ j oj, ops[j]? = some oj → L j = true → ∀ e ∈ oj.after, Region.binds .any e = true → L e.on = true
theorem bef_mem {bef : Nat → Nat → Bool} {rs : Nat → Rec} {B : Nat} (hc : Conf ops rs B bef) {L : Nat → Bool} (hL : Closed ops L) : ∀ (n j i : Nat) (oj : Oper), j < n → ops[j]? = some oj → (∀ e ∈ oj.after, Region.binds .any e = true → L e.on = true) → bef j i = true → L i = true
 | 0, j, i, oj, h, _, _, _ => by omega
 | n + 1, j, i, oj, h, hj, hall, hb => by
  obtain ⟨e, he, hbi, h1⟩ := hc.befs j i oj hj hb
  have hlt := hc.up j oj hj e he hbi
  rcases h1 with rfl | h1
  ·exact hall e he hbi
  ·have hsz : j < ops.size := (Array.getElem?_eq_some_iff.1 hj).1
   have he' := Array.getElem?_eq_getElem (by omega : e.on < ops.size)
   exact bef_mem hc hL n e.on i _ (by omega) he' (hL e.on _ he' (hall e he hbi)) h1
theorem look_isSome {effs : List (Nat × Res)} {i : Nat} (h : (look effs i).isSome = true) : ∃ p ∈ effs, p.1 = i := by
 induction effs with
 | nil => simp [look] at h
 | cons p l ih =>
  obtain ⟨k, x⟩ := p
  rw [look_cons] at h
  split at h
  ·rename_i e; exact ⟨_, List.mem_cons_self .., e⟩
  ·obtain ⟨q, hq, e⟩ := ih h; exact ⟨q, List.mem_cons_of_mem _ hq, e⟩
theorem apart_rd {x y : Rec} (h : memApart x y = true) {i : Nat} (hi : (look x.effs i).isSome = true) : i ∉ y.rd ∧ (look y.effs i).isSome = false := by
 obtain ⟨p, hp, rfl⟩ := look_isSome hi
 have := List.all_eq_true.1 h p hp
 simp only [zaT, Bool.not_eq_true'] at this
 refine ⟨fun hm => ?_, ?_⟩
 ·have h1 := this.1
  rw [List.any_eq_false] at h1
  exact h1 p.1 hm (by simp)
 ·cases hl : (look y.effs p.1).isSome with
  | false => rfl
  | true =>
   obtain ⟨q, hq, e⟩ := look_isSome hl
   have h2 := this.2
   rw [List.any_eq_false] at h2
   exact absurd (by simp [e]) (h2 q hq)
theorem sees {bef : Nat → Nat → Bool} {rs : Nat → Rec} {B : Nat} {E0 : Nat → Option SV} {M0 : Nat → Option Res} (hc : Conf ops rs B bef) {L : Nat → Bool} (hL : Closed ops L) {j : Nat} {oj : Oper} (hj : ops[j]? = some oj) (hjL : L j = false) (hall : ∀ e ∈ oj.after, Region.binds .any e = true → L e.on = true) :
  (∀ t ∈ oj.looksAt ops, EL ops rs E0 L ops.size t = EL ops rs E0 (fun _ => true) j t) ∧ (∀ i ∈ (rs j).rd, ML rs M0 L ops.size i = ML rs M0 (fun _ => true) j i) := by
 have hsz : j < ops.size := (Array.getElem?_eq_some_iff.1 hj).1
 have key : ∀ k, k < ops.size → (∀ ok, ops[k]? = some ok → (ok.apart ops oj = true → memApart (rs k) (rs j) = true → memApart (rs j) (rs k) = true → False) ∧ (oj.apart ops ok = true → memApart (rs j) (rs k) = true → memApart (rs k) (rs j) = true → False)) → (L k = true ↔ k < j) := by
  intro k hk hno
  have hok := Array.getElem?_eq_getElem hk
  obtain ⟨n1, n2⟩ := hno _ hok
  constructor
  ·intro hLk
   rcases Nat.lt_trichotomy k j with h | h | h
   ·exact h
   ·subst h; rw [hLk] at hjL; cases hjL
   ·rcases hc.pair j k oj _ h hj hok with hb | ⟨h1, h2, h3⟩
    ·have := bef_mem hc hL (k + 1) k j _ (by omega) hok (hL k _ hok hLk) hb
     rw [this] at hjL; cases hjL
    ·exact (n2 h1 h2 h3).elim
  ·intro hlt
   rcases hc.pair k j _ oj hlt hok hj with hb | ⟨h1, h2, h3⟩
   ·exact bef_mem hc hL (j + 1) j k oj (by omega) hj hall hb
   ·exact (n1 h1 h2 h3).elim
 refine ⟨fun t ht => ?_, fun i hi => ?_⟩
 ·refine lastOf_iff fun k => ?_
  simp only [zaT, beq_iff_eq, true_and]
  constructor
  ·rintro ⟨hk, hLk, hd⟩
   refine ⟨(key k hk fun ok hok => ?_).1 hLk, hd⟩
   have hdk : ok.dst = some t := by simpa [dstAt, hok] using hd
   exact ⟨fun h _ _ => (Oper.apart_spec h).1 t hdk ht, fun h _ _ => (Oper.apart_spec h).2.2 t hdk ht⟩
  ·rintro ⟨hk, hd⟩
   refine ⟨by omega, (key k (by omega) fun ok hok => ?_).2 hk, hd⟩
   have hdk : ok.dst = some t := by simpa [dstAt, hok] using hd
   exact ⟨fun h _ _ => (Oper.apart_spec h).1 t hdk ht, fun h _ _ => (Oper.apart_spec h).2.2 t hdk ht⟩
 ·refine lastOf_iff fun k => ?_
  simp only [zaT, true_and]
  constructor
  ·rintro ⟨hk, hLk, hd⟩
   exact ⟨(key k hk fun ok hok => ⟨fun _ h _ => (apart_rd h hd).1 hi, fun _ _ h => (apart_rd h hd).1 hi⟩).1 hLk, hd⟩
  ·rintro ⟨hk, hd⟩
   exact ⟨by omega, (key k (by omega) fun ok hok => ⟨fun _ h _ => (apart_rd h hd).1 hi, fun _ _ h => (apart_rd h hd).1 hi⟩).2 hk, hd⟩
def addL (L : Nat → Bool) (j : Nat) : Nat → Bool := fun k => L k || Nat.beq j k
theorem addL_ne {L : Nat → Bool} {j k : Nat} (h : j ≠ k) : addL L j k = L k := by
 have : Nat.beq j k = false := by
  cases hb : Nat.beq j k with
  | false => rfl
  | true => exact absurd (zbE hb) h
 simp [addL, this]
theorem addL_self (L : Nat → Bool) (j : Nat) : addL L j j = true := by simp [addL]
theorem EL_add {bef : Nat → Nat → Bool} {rs : Nat → Rec} {B : Nat} {E0 : Nat → Option SV} (hc : Conf ops rs B bef) {L : Nat → Bool} (hL : Closed ops L) {j : Nat} {oj : Oper} (hj : ops[j]? = some oj) (hjL : L j = false) :
  EL ops rs E0 (addL L j) ops.size = putE (EL ops rs E0 L ops.size) oj.dst (rs j).v := by
 have hsz : j < ops.size := (Array.getElem?_eq_some_iff.1 hj).1
 funext t
 by_cases hd : oj.dst = some t
 ·have e : putE (EL ops rs E0 L ops.size) oj.dst (rs j).v t = some (rs j).v := by rw [hd]; simp [putE]
  rw [e]
  have hlast : EL ops rs E0 (addL L j) ops.size t = EL ops rs E0 (addL L j) (j + 1) t := by
   refine lastOf_more _ (by omega) fun k hk1 hk2 => ?_
   rw [addL_ne (by omega : j ≠ k)]
   cases hLk : L k with
   | false => rfl
   | true =>
    have hok := Array.getElem?_eq_getElem hk2
    rcases hc.pair j k oj _ (by omega) hj hok with hb | ⟨h1, _⟩
    ·have := bef_mem hc hL (k + 1) k j _ (by omega) hok (hL k _ hok hLk) hb
     rw [this] at hjL; cases hjL
    ·have := (Oper.apart_spec h1).2.1 t hd
     simp only [dstAt, hok, Option.bind_some, Bool.true_and, beq_eq_false_iff_ne]; exact this
  rw [hlast]
  have : (dstAt ops j == some t) = true := by simp [dstAt, hj, hd]
  simp only [EL, lastOf, addL_self, this, Bool.and_self, if_true]
 ·have e : putE (EL ops rs E0 L ops.size) oj.dst (rs j).v t = EL ops rs E0 L ops.size t := by
   cases h : oj.dst with
   | none => rfl
   | some d => simp only [putE]; rw [if_neg (fun e => hd (by rw [h, e]))]
  rw [e]
  refine lastOf_ext _ fun k hk => ?_
  by_cases hkj : j = k
  ·subst hkj
   have : (dstAt ops j == some t) = false := by simp [dstAt, hj, hd]
   simp [this]
  ·rw [addL_ne hkj]
theorem ML_add {bef : Nat → Nat → Bool} {rs : Nat → Rec} {B : Nat} {M0 : Nat → Option Res} (hc : Conf ops rs B bef) {L : Nat → Bool} (hL : Closed ops L) {j : Nat} {oj : Oper} (hj : ops[j]? = some oj) (hjL : L j = false) :
  ML rs M0 (addL L j) ops.size = updM (rs j).effs (ML rs M0 L ops.size) := by
 have hsz : j < ops.size := (Array.getElem?_eq_some_iff.1 hj).1
 funext i
 by_cases hd : (look (rs j).effs i).isSome = true
 ·have e : updM (rs j).effs (ML rs M0 L ops.size) i = look (rs j).effs i := by
   unfold updM; cases h : look (rs j).effs i with
   | none => rw [h] at hd; cases hd
   | some x => rfl
  rw [e]
  have hlast : ML rs M0 (addL L j) ops.size i = ML rs M0 (addL L j) (j + 1) i := by
   refine lastOf_more _ (by omega) fun k hk1 hk2 => ?_
   rw [addL_ne (by omega : j ≠ k)]
   cases hLk : L k with
   | false => rfl
   | true =>
    have hok := Array.getElem?_eq_getElem hk2
    rcases hc.pair j k oj _ (by omega) hj hok with hb | ⟨_, h1, _⟩
    ·have := bef_mem hc hL (k + 1) k j _ (by omega) hok (hL k _ hok hLk) hb
     rw [this] at hjL; cases hjL
    ·simp [(apart_rd h1 hd).2]
  rw [hlast]
  simp only [ML, lastOf, addL_self, hd, Bool.and_self, if_true]
 ·have e : updM (rs j).effs (ML rs M0 L ops.size) i = ML rs M0 L ops.size i := by
   unfold updM; cases h : look (rs j).effs i with
   | none => rfl
   | some x => rw [h] at hd; exact absurd rfl hd
  rw [e]
  refine lastOf_ext _ fun k hk => ?_
  by_cases hkj : j = k
  ·subst hkj
   have : (look (rs j).effs i).isSome = false := by simpa using hd
   simp [this]
  ·rw [addL_ne hkj]
end
end Sx

/- Regions: in the text's order, and in any. -/
namespace Sx
open Go
set_option linter.unusedVariables false
set_option linter.unusedSimpArgs false

section
variable {I : Interp} {P : Program} {sp : FuncId → Option Spec} {N : Nat} {w0 : World} {S0 : Ft} {γ : Vn} {D : Nat → Bool} {E E' : Nat → Option SV} {M : Nat → Option Res} {a : Act} {w : World} {b : Nat} {o : Oper} {Q : Exit → Act → World → Prop} {r : Rec} {ops : Array Oper}
theorem sat_same {D' : Nat → Bool} {M' : Nat → Option Res} (hs : Sat I N w0 S0 γ D E M a w) (hD : ∀ i, D i = D' i) (hE : E = E') (hM : M = M') : Sat I N w0 S0 γ D' E' M' a w := by
 obtain rfl : D = D' := funext hD
 subst hE; subst hM; exact hs
theorem res_ids_mono {p q : Nat → Bool} (h : ∀ i, p i = true → q i = true) : ∀ r : Res, r.ids p = true → r.ids q = true
 | .blk _ cs, hr => SV.idss_mono h cs hr
 | .rblk _ cs, hr => SV.idss_mono h cs hr
 | .ownc _ cs, hr => SV.idss_mono h cs hr
 | .tail i _ _ _, hr => SV.idss_mono h [.row i] hr
 | .ownp _ j, hr => SV.idss_mono h [.row j] hr
 | .ownq _ _ j, hr => SV.idss_mono h [.row j] hr
 | .ownh _ _ j _ _ m, hr => SV.idss_mono h [.row j, .row m] hr
 | .arr _ _ _, _ | .ro _, _ | .ros _, _ | .own _ _, _ | .opt _ _, _ | .sels _ _, _ | .pool _, _ | .deep _ _, _ | .mp _ _, _ | .dpool _ _ _, _ | .abs _ _, _ | .gone, _ => rfl
theorem sat_mono {D' : Nat → Bool} (hs : Sat I N w0 S0 γ D E M a w) (hD : ∀ i, D i = true → D' i = true) : Sat I N w0 S0 γ D' E M a w :=
 ⟨hs.env, fun t x h => SV.ids_mono hD x (hs.eids t x h), hs.mem, fun i r h => ⟨hD i (hs.mids i r h).1, res_ids_mono hD r (hs.mids i r h).2⟩, hs.fr, hs.own, hs.size, hs.defers, hs.amb⟩
theorem sat_drew (hs : Sat I N w0 S0 γ D E M a w) : Sat I N w0 S0 γ D E M a { w with drawn := w.drawn + 1 } :=
 ⟨hs.env, hs.eids, ⟨fun i r h => ResOK.loc (w := w) (fun _ _ => rfl) (hs.mem.ok i r h), fun i r b h => hs.mem.low i r b h, hs.mem.apart⟩, hs.mids, ⟨hs.fr.os, hs.fr.tape, hs.fr.output, hs.fr.size, hs.fr.same⟩, hs.own, hs.size, hs.defers, hs.amb⟩
theorem sat_skip (hs : Sat I N w0 S0 γ D E M a w) {d : Option Tmp} (hd : ∀ x, d = some x → x < N) : Sat I N w0 S0 γ D (putE E d (.v undef)) M (a.put d undef) w := by
 have e1 : updM [] M = M := by funext i; simp [updM, look]
 have h : Sat I N w0 S0 γ (both D 0) (putE E d (.v undef)) (updM [] M) (a.put d ((SV.v undef).den γ)) w :=
  sat_put hs (Agree.refl _ _) hd (by simp [SV.ids]) (fun i r h => by simp [look] at h) (by rw [e1]; exact hs.mem) hs.fr (fun i r x h => by simp [look] at h)
 rw [e1] at h
 refine ⟨by simpa [SV.den] using h.env, fun t x hx => ?_, hs.mem, hs.mids, hs.fr, hs.own, by simpa [SV.den] using h.size, by simpa [SV.den] using h.defers, hs.amb⟩
 cases d with
 | none => exact hs.eids t x hx
 | some d =>
  simp only [putE] at hx
  split at hx
  ·simp only [zsI] at hx; subst hx; simp [SV.ids]
  ·exact hs.eids t x hx

def lowB (B : Nat) (i : Nat) : Bool := Nat.blt i B
def DL (B : Nat) (L : Nat → Bool) (n : Nat) (i : Nat) : Bool := Nat.blt i B || (Nat.blt i (B + 64 * n) && L ((i - B) / 64))
theorem blt_iff {a b : Nat} : Nat.blt a b = true ↔ a < b := ⟨fun h => zbL h, fun h => Nat.ble_eq_true_of_le h⟩
theorem fresh_iff {b i : Nat} : fresh b i = true ↔ b ≤ i ∧ i < b + 64 := by
 unfold fresh; rw [zaT, blt_iff]; exact ⟨fun ⟨h1, h2⟩ => ⟨zbL h1, h2⟩, fun ⟨h1, h2⟩ => ⟨Nat.ble_eq_true_of_le h1, h2⟩⟩
theorem fresh_div {B j i : Nat} : fresh (B + 64 * j) i = true ↔ B ≤ i ∧ (i - B) / 64 = j := by
 rw [fresh_iff]; omega
theorem DL_add {B : Nat} {L : Nat → Bool} {j n : Nat} (hj : j < n) (i : Nat) : both (DL B L n) (B + 64 * j) i = DL B (addL L j) n i := by
 rw [Bool.eq_iff_iff]
 unfold both DL
 by_cases hB : i < B
 ·simp [blt_iff.2 hB]
 ·have h0 : Nat.blt i B = false := by cases h : Nat.blt i B with | false => rfl | true => exact absurd (blt_iff.1 h) hB
  simp only [h0, Bool.false_or, Bool.or_eq_true, zaT, blt_iff, fresh_div]
  by_cases he : (i - B) / 64 = j
  ·subst he; simp only [addL_self]
   constructor
   ·intro _; exact ⟨by omega, trivial⟩
   ·intro _; exact .inr ⟨by omega, trivial⟩
  ·rw [addL_ne (Ne.symm he)]
   constructor
   ·rintro (h | ⟨_, h⟩)
    ·exact h
    ·exact absurd h he
   ·intro h; exact .inl h
theorem recIn_of {B : Nat} {L : Nat → Bool} {bef : Nat → Nat → Bool} {j n : Nat} (hj : j < n) (h : recOk B bef j r = true) (hb : ∀ k, bef j k = true → L k = true ∧ k < n) : RecIn (DL B L n) (B + 64 * j) r := by
 have mono : ∀ i, idOk B bef j i = true → both (DL B L n) (B + 64 * j) i = true := by
  intro i hi
  unfold idOk at hi
  by_cases hB : i < B
  ·simp [both, DL, blt_iff.2 hB]
  ·have h0 : Nat.blt i B = false := by cases h : Nat.blt i B with | false => rfl | true => exact absurd (blt_iff.1 h) hB
   simp only [h0, Bool.false_or, Bool.or_eq_true] at hi
   unfold both
   rw [Bool.or_eq_true]
   rcases hi with hi | hi
   ·right; rw [fresh_div]; exact ⟨by omega, zbE hi⟩
   ·left
    obtain ⟨h1, h2⟩ := hb _ hi
    simp only [DL, h0, Bool.false_or, h1, Bool.and_true, blt_iff]; omega
 simp only [recOk, zaT] at h
 refine ⟨SV.ids_mono mono _ h.1, fun i x hx => ?_⟩
 obtain ⟨p, hp, rfl, rfl⟩ : ∃ p ∈ r.effs, p.1 = i ∧ p.2 = x := by
  clear h
  generalize r.effs = l at hx ⊢
  induction l with
  | nil => simp [look] at hx
  | cons p l ih =>
   obtain ⟨k, y⟩ := p
   rw [look_cons] at hx
   split at hx
   ·rename_i e; simp only [zsI] at hx; exact ⟨_, List.mem_cons_self .., e, hx⟩
   ·obtain ⟨q, hq, e⟩ := ih hx; exact ⟨q, List.mem_cons_of_mem _ hq, e⟩
 have := List.all_eq_true.1 h.2 p hp
 simp only [zaT] at this
 exact ⟨mono _ this.1, res_ids_mono mono _ this.2⟩

theorem least (p : Nat → Prop) [DecidablePred p] : ∀ k, (∃ i, i < k ∧ p i) → ∃ i, i < k ∧ p i ∧ ∀ j, j < i → ¬ p j
 | 0, ⟨i, h, _⟩ => by omega
 | k + 1, ⟨i, h, hi⟩ => by
  by_cases he : ∃ j, j < k ∧ p j
  ·obtain ⟨j, h1, h2, h3⟩ := least p k he
   exact ⟨j, by omega, h2, h3⟩
  ·have : i = k := by
    rcases Nat.lt_or_ge i k with h1 | h1
    ·exact absurd ⟨i, h1, hi⟩ he
    ·omega
   subst this
   exact ⟨i, h, hi, fun j hj hpj => he ⟨j, hj, hpj⟩⟩

theorem any_order (hsp : ∀ f s, sp f = some s → SpecOK I P f s) {rs : Nat → Rec} {B : Nat} {bef : Nat → Nat → Bool} {E0 : Nat → Option SV} {M0 : Nat → Option Res} {id : Nat} (hm : P.follows .mixedOrders = true)
  (hval : ∀ j o, ops[j]? = some o → Valid P sp ops rs E0 M0 B j o) (hc : Conf ops rs B bef) (hdst : ∀ (j : Nat) (o : Oper) (d : Tmp), ops[j]? = some o → o.dst = some d → d < N)
  (hs : Sat I N w0 S0 γ (lowB B) E0 M0 a w) (hQ : ∀ γ' a' w', Agree (lowB B · = true) γ γ' → Sat I N w0 S0 γ' (lowB (B + 64 * ops.size)) (EL ops rs E0 (fun _ => true) ops.size) (ML rs M0 (fun _ => true) ops.size) a' w' → Q .normal a' w') :
  (Code.region id ops true).wp P Q a w := by
 have end_ : ∀ (L : Nat → Bool) (γ' : Vn) (a' : Act) (w' : World), (∀ k, k < ops.size → L k = true) → Agree (lowB B · = true) γ γ' → Sat I N w0 S0 γ' (DL B L ops.size) (EL ops rs E0 L ops.size) (ML rs M0 L ops.size) a' w' → Q .normal a' w' := by
  intro L γ' a' w' hL hγ hsat
  refine hQ γ' a' w' hγ (sat_mono (sat_same hsat (fun _ => rfl) ?_ ?_) ?_)
  ·funext t; exact lastOf_ext _ fun k hk => by simp [hL k hk]
  ·funext i; exact lastOf_ext _ fun k hk => by simp [hL k hk]
  ·intro i hi
   simp only [DL, Bool.or_eq_true, zaT, blt_iff] at hi
   simp only [lowB, blt_iff]
   rcases hi with h | h
   ·omega
   ·exact h.1
 have main : ∀ (fuel : Nat) (listed : Array Bool) (γ' : Vn) (a' : Act) (w' : World), listed.size = ops.size → Closed ops (fun k => listed.getD k false) → (List.range ops.size).countP (fun k => listed.getD k false == false) ≤ fuel →
   Agree (lowB B · = true) γ γ' → Sat I N w0 S0 γ' (DL B (fun k => listed.getD k false) ops.size) (EL ops rs E0 (fun k => listed.getD k false) ops.size) (ML rs M0 (fun k => listed.getD k false) ops.size) a' w' → wpAny P .any ops Q fuel listed a' w' := by
  intro fuel
  induction fuel with
  | zero =>
   intro listed γ' a' w' hsz hcl hcnt hγ hsat
   have hall : ∀ k, k < ops.size → listed.getD k false = true := by
    intro k hk
    have h0 : (List.range ops.size).countP (fun k => listed.getD k false == false) = 0 := by omega
    rw [List.countP_eq_zero] at h0
    have := h0 k (List.mem_range.2 hk)
    simpa using this
   refine ⟨?_, end_ _ γ' a' w' hall hγ hsat⟩
   rw [List.eq_nil_iff_forall_not_mem]
   intro j hj
   obtain ⟨h1, oj, h2, _⟩ := mem_ready.1 hj
   have hlt : j < ops.size := (Array.getElem?_eq_some_iff.1 h2).1
   have := hall j hlt
   have h3 : j < listed.size := by omega
   simp [Array.getD, h3] at h1 this
   rw [h1] at this; cases this
  | succ fuel ih =>
   intro listed γ' a' w' hsz hcl hcnt hγ hsat
   refine ⟨fun hr => end_ _ γ' a' w' (fun k hk => ?_) hγ hsat, fun j hj => ?_⟩
   ·-- nothing is ready: all are taken
    by_cases hex : ∃ i, i < ops.size ∧ listed.getD i false = false
    ·obtain ⟨i, h1, h2, h3⟩ := least (fun i => listed.getD i false = false) ops.size hex
     have hoi := Array.getElem?_eq_getElem h1
     have hmem : i ∈ Region.ready .any ops listed := by
      refine mem_ready.2 ⟨?_, _, hoi, fun e he hb => ?_⟩
      ·have : i < listed.size := by omega
       simp [Array.getD, this] at h2 ⊢; exact h2
      ·have hup := hc.up i _ hoi e he hb
       have := h3 e.on hup
       simpa using this
     rw [hr] at hmem; cases hmem
    ·have : ¬ listed.getD k false = false := fun h => hex ⟨k, hk, h⟩
     simpa using this
   ·obtain ⟨h1, oj, hoj, hall⟩ := mem_ready.1 hj
    have hlt : j < ops.size := (Array.getElem?_eq_some_iff.1 hoj).1
    have hjl : j < listed.size := by omega
    have hjL : listed.getD j false = false := by simp [Array.getD, hjl] at h1 ⊢; exact h1
    obtain ⟨see1, see2⟩ := sees (E0 := E0) (M0 := M0) hc hcl hoj hjL hall
    have hL' : ∀ k, (listed.setIfInBounds j true).getD k false = addL (fun k => listed.getD k false) j k := by
     intro k
     by_cases hjk : j = k
     ·subst hjk; rw [addL_self]; simp [Array.getD, hjl]
     ·rw [addL_ne hjk]; exact getD_set_ne false hjk
    have hLf : (fun k => (listed.setIfInBounds j true).getD k false) = addL (fun k => listed.getD k false) j := funext hL'
    have hcl' : Closed ops (fun k => (listed.setIfInBounds j true).getD k false) := by
     intro k ok hk hLk e he hb
     have hLk' : addL (fun k => listed.getD k false) j k = true := by rw [← hL']; exact hLk
     show (listed.setIfInBounds j true).getD e.on false = true
     rw [hL']
     by_cases hjk : j = k
     ·subst hjk; rw [hoj] at hk; cases hk
      have := hall e he hb
      simp [addL, this]
     ·rw [addL_ne hjk] at hLk'
      have := hcl k ok hk hLk' e he hb
      simp only [] at this
      simp [addL, this]
    have hcnt' : (List.range ops.size).countP (fun k => (listed.setIfInBounds j true).getD k false == false) ≤ fuel := by
     have hsplit : (List.range ops.size).countP (fun k => listed.getD k false == false) = (List.range ops.size).countP (fun k => (listed.setIfInBounds j true).getD k false == false) + 1 := by
      have gen : ∀ l : List Nat, l.Nodup → j ∈ l → l.countP (fun k => listed.getD k false == false) = l.countP (fun k => (listed.setIfInBounds j true).getD k false == false) + 1 := by
       intro l
       induction l with
       | nil => intro _ h; cases h
       | cons x l ih' =>
        intro hd hm'
        rw [List.nodup_cons] at hd
        rw [List.countP_cons, List.countP_cons]
        by_cases hx : x = j
        ·subst hx
         have e : l.countP (fun k => (listed.setIfInBounds x true).getD k false == false) = l.countP (fun k => listed.getD k false == false) := by
          apply List.countP_congr
          intro y hy
          have hne : x ≠ y := fun e => hd.1 (e ▸ hy)
          rw [hL', addL_ne hne]
         rw [e, hL', addL_self, hjL]; simp
        ·have hm2 : j ∈ l := by rcases List.mem_cons.1 hm' with h | h; exact absurd h.symm hx; exact h
         rw [ih' hd.2 hm2, hL' x, addL_ne (Ne.symm hx)]; omega
      exact gen _ List.nodup_range (List.mem_range.2 hlt)
     omega
    unfold wpOp
    simp only [hoj]
    have hdj : ∀ x, oj.dst = some x → x < N := fun x hx => hdst j oj x hoj hx
    rcases hval j oj hoj with ⟨hg, hst⟩ | ⟨hg, hsk⟩
    ·have hg' : gate ops oj (EL ops rs E0 (fun k => listed.getD k false) ops.size) = some true := by rw [gate_same see1]; exact hg
     rw [if_pos (gate_wanted hg' hsat)]
     refine .inl ?_
     have hst' := step_same (E' := EL ops rs E0 (fun k => listed.getD k false) ops.size) (M' := ML rs M0 (fun k => listed.getD k false) ops.size) hst (fun t ht => see1 t (by
      unfold Oper.looksAt; exact List.mem_append_left _ (List.mem_filterMap.2 ⟨.tmp t, by simpa using ht, rfl⟩))) see2
     have hin : RecIn (DL B (fun k => listed.getD k false) ops.size) (B + 64 * j) (rs j) := recIn_of hlt (hc.scope j oj hoj) fun k hk => by
      have h2 := below_lt hc (j + 1) j k oj (by omega) hoj hk
      exact ⟨bef_mem hc hcl (j + 1) j k oj (by omega) hoj hall hk, by omega⟩
     have hfr : ∀ i, fresh (B + 64 * j) i = true → DL B (fun k => listed.getD k false) ops.size i = false := by
      intro i hi
      obtain ⟨h2, h3⟩ := fresh_div.1 hi
      have h0 : Nat.blt i B = false := by cases h : Nat.blt i B with | false => rfl | true => exact absurd (blt_iff.1 h) (by omega)
      simp only [DL, h0, Bool.false_or, h3, hjL, Bool.and_false]
     refine Oper.wp_mono ?_ (step_sound hsp hst' hsat hfr hdj hin)
     rintro a2 w2 ⟨γ2, hγ2, hs2⟩
     refine ih _ γ2 a2 w2 (by simpa using hsz) hcl' hcnt' (hγ.trans (hγ2.mono fun i hi => ?_)) (sat_same hs2 (fun i => ?_) ?_ ?_)
     ·simp only [lowB] at hi; simp [DL, hi]
     ·rw [DL_add hlt]; rw [hLf]
     ·rw [hLf, EL_add hc hcl hoj hjL]
     ·rw [hLf, ML_add hc hcl hoj hjL]
    ·have hg' : gate ops oj (EL ops rs E0 (fun k => listed.getD k false) ops.size) = some false := by rw [gate_same see1]; exact hg
     rw [if_neg (by rw [gate_wanted hg' hsat]; simp)]
     have hs2 := sat_skip hsat hdj
     refine ih _ γ' _ w' (by simpa using hsz) hcl' hcnt' hγ (sat_mono (sat_same hs2 (fun i => rfl) ?_ ?_) fun i hi => ?_)
     ·rw [hLf, EL_add hc hcl hoj hjL, hsk]; rfl
     ·rw [hLf, ML_add hc hcl hoj hjL, hsk]
      funext i; simp [updM, skipRec, look]
     ·rw [hLf, ← DL_add hlt]; exact both_mono _ _ i hi
 refine wp_region_any hm (main ops.size _ γ a _ (by simp) ?_ ?_ (Agree.refl _ _) (sat_drew (sat_mono (sat_same hs (fun _ => rfl) ?_ ?_) ?_)))
 ·intro k ok hk hL
  simp only [Array.getD_eq_getD_getElem?, Array.getElem?_replicate] at hL
  split at hL <;> simp at hL
 ·refine Nat.le_trans (List.countP_le_length) (by simp)
 ·funext t
  show E0 t = lastOf _ _ _ _
  rw [lastOf_more (n := 0) _ (Nat.zero_le _) (fun k _ hk => by simp [hk])]; rfl
 ·funext i
  show M0 i = lastOf _ _ _ _
  rw [lastOf_more (n := 0) _ (Nat.zero_le _) (fun k _ hk => by simp [hk])]; rfl
 ·intro i hi
  simp only [lowB] at hi
  simp [DL, hi]

theorem in_order (hsp : ∀ f s, sp f = some s → SpecOK I P f s) {rs : Nat → Rec} {B : Nat} {E0 : Nat → Option SV} {M0 : Nat → Option Res} {id : Nat} {l : List Oper}
  (hval : ∀ j o, l[j]? = some o → Valid P sp l.toArray rs E0 M0 B j o) (hsc : ∀ j o, l[j]? = some o → recOk B (fun j k => Nat.blt k j) j (rs j) = true) (hdst : ∀ (j : Nat) (o : Oper) (d : Tmp), l[j]? = some o → o.dst = some d → d < N)
  (hs : Sat I N w0 S0 γ (lowB B) E0 M0 a w) (hQ : ∀ γ' a' w', Agree (lowB B · = true) γ γ' → Sat I N w0 S0 γ' (lowB (B + 64 * l.length)) (EL l.toArray rs E0 (fun _ => true) l.length) (ML rs M0 (fun _ => true) l.length) a' w' → Q .normal a' w') :
  (Code.region id l.toArray false).wp P Q a w := by
 refine wp_region_lit ?_
 have main : ∀ (m : List Oper) (k : Nat) (γ' : Vn) (a' : Act) (w' : World), k + m.length = l.length → (∀ i, m[i]? = l[k + i]?) → Agree (lowB B · = true) γ γ' → Sat I N w0 S0 γ' (lowB (B + 64 * k)) (EL l.toArray rs E0 (fun _ => true) k) (ML rs M0 (fun _ => true) k) a' w' → wpList P l.toArray Q m a' w' := by
  intro m
  induction m with
  | nil =>
   intro k γ' a' w' hk _ hγ hsat
   have : k = l.length := by simpa using hk
   subst this
   exact hQ γ' a' w' hγ hsat
  | cons o m ih =>
   intro k γ' a' w' hk hm hγ hsat
   have ho : l[k]? = some o := by simpa using (hm 0).symm
   have hoA : l.toArray[k]? = some o := by simpa using ho
   have hd : ∀ x, o.dst = some x → x < N := fun x hx => hdst k o x ho hx
   have hm' : ∀ i, m[i]? = l[k + 1 + i]? := fun i => by have := hm (i + 1); simpa [Nat.add_assoc, Nat.add_comm 1 i] using this
   have hk' : k + 1 + m.length = l.length := by simp at hk; omega
   unfold wpList
   rcases hval k o ho with ⟨hg, hst⟩ | ⟨hg, hsk⟩
   ·rw [if_pos (gate_wanted hg hsat)]
    refine .inl ?_
    have mono : ∀ i, idOk B (fun j k => Nat.blt k j) k i = true → both (lowB (B + 64 * k)) (B + 64 * k) i = true := by
     intro i hi
     simp only [idOk, Bool.or_eq_true, blt_iff] at hi
     simp only [both, lowB, Bool.or_eq_true, blt_iff, fresh_iff]
     rcases hi with (h | h) | h
     ·left; omega
     ·have := zbE h; omega
     ·left; omega
    have hrec := recIn_of (L := fun _ => true) (n := l.length) (by omega : k < l.length) (hsc k o ho) (fun j hj => ⟨rfl, by have := blt_iff.1 hj; omega⟩)
    have hin : RecIn (lowB (B + 64 * k)) (B + 64 * k) (rs k) := by
     have h := hsc k o ho
     simp only [recOk, zaT] at h
     refine ⟨SV.ids_mono mono _ h.1, fun i x hx => ?_⟩
     obtain ⟨p, hp, rfl, rfl⟩ : ∃ p ∈ (rs k).effs, p.1 = i ∧ p.2 = x := by
      clear h hrec hst hval hsc hQ
      generalize (rs k).effs = l at hx ⊢
      induction l with
      | nil => simp [look] at hx
      | cons p l ih =>
       obtain ⟨k, y⟩ := p
       rw [look_cons] at hx
       split at hx
       ·rename_i e; simp only [zsI] at hx; exact ⟨_, List.mem_cons_self .., e, hx⟩
       ·obtain ⟨q, hq, e⟩ := ih hx; exact ⟨q, List.mem_cons_of_mem _ hq, e⟩
     have := List.all_eq_true.1 h.2 p hp
     simp only [zaT] at this
     exact ⟨mono _ this.1, res_ids_mono mono _ this.2⟩
    have hfr : ∀ i, fresh (B + 64 * k) i = true → lowB (B + 64 * k) i = false := by
     intro i hi
     have := (fresh_iff.1 hi).1
     cases h : lowB (B + 64 * k) i with
     | false => rfl
     | true => have := blt_iff.1 h; omega
    refine Oper.wp_mono ?_ (step_sound hsp hst hsat hfr hd hin)
    rintro a2 w2 ⟨γ2, hγ2, hs2⟩
    refine ih (k + 1) γ2 a2 w2 hk' hm' (hγ.trans (hγ2.mono fun i hi => ?_)) (sat_mono (sat_same hs2 (fun i => rfl) ?_ ?_) ?_)
    ·simp only [lowB, blt_iff] at hi ⊢; omega
    ·rw [EL_succ _ _ _ _ rfl hoA]
    ·rw [ML_succ _ _ _ _ rfl]
    ·intro i hi
     simp only [both, lowB, Bool.or_eq_true, blt_iff, fresh_iff] at hi ⊢
     omega
   ·rw [if_neg (by rw [gate_wanted hg hsat]; simp)]
    refine ih (k + 1) γ' _ w' hk' hm' hγ (sat_mono (sat_same (sat_skip hsat hd) (fun i => rfl) ?_ ?_) ?_)
    ·rw [EL_succ _ _ _ _ rfl hoA, hsk]; rfl
    ·rw [ML_succ _ _ _ _ rfl, hsk]; funext i; simp [updM, skipRec, look]
    ·intro i hi
     simp only [lowB, blt_iff] at hi ⊢; omega
 refine main l 0 γ a w (by simp) (fun i => by simp) (Agree.refl _ _) (sat_same hs (fun i => by simp) rfl rfl)
end
end Sx
