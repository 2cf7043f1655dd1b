/- slices.Insert at structs of five cells, as the library's own text has it: all four roads. -/
import Derived.Test.YtcdmmfelagbpdaaGreatSy
import Derived.Test.YtcdmmfelagbpdaaGreatLeaf
import Derived.Test.YtcdmmfelagbpdaaGreatKp
import Derived.WalkKit
import Derived.Lib.Walk
import Derived.Lib.SliceRun
import Derived.Lib.JoinLaws
import Derived.Lib.AppendZeros
import Derived.Lib.Overlaps
import Derived.Laws.Externs
import Derived.Laws.CopyRow
import Derived.Laws.IdiomCopy
import Derived.Lib.AppendZerosOnto
import Derived.Shelf.RegionOpenPlain
namespace Go.Proofs.YtcdmmfelagbpdaaGreat
open Go.RowKit Go.Lib
set_option linter.unusedVariables false
set_option linter.unusedSimpArgs false
theorem in_wp_copy {P : Program} (w : World) {o : Oper} {a : Act} {K : Act → World → Prop} {Q : Exit → Act → World → Prop} (d s : Operand) (t t' : TypeId)
  (ho : o.op = .call { callee := .builtin .copy, args := #[d, s], argTypes := #[t, t'] }) (v u : Value) (hd : a.eval d = v) (hs : a.eval s = u) {v' : Value} {w' : World}
  (hr : (Builtin.copy_ #[t, t'] o.type #[v, u]).run P w = .ok v' w') (h : K (a.put o.dst v') w') : o.wp P a w K Q := by
 unfold Oper.wp execOp
 simp only [ho, resolve, invoke, builtin, Sem.run_bind, Sem.run_pure, Result.andThen_ok, List.map_toArray, List.map_cons, List.map_nil, hd, hs, hr]
 exact h
theorem in_wpl_copy {P : Program} (w : World) {ops : Array Oper} {rest : List Oper} {o : Oper} {a : Act} {Q : Exit → Act → World → Prop} (hgd : o.guard = none) (d s : Operand) (t t' : TypeId)
  (ho : o.op = .call { callee := .builtin .copy, args := #[d, s], argTypes := #[t, t'] }) (v u : Value) (hd : a.eval d = v) (hs : a.eval s = u) {v' : Value} {w' : World}
  (hr : (Builtin.copy_ #[t, t'] o.type #[v, u]).run P w = .ok v' w') (h : wpList P ops Q rest (a.put o.dst v') w') : wpList P ops Q (o :: rest) a w :=
 wpList_plain hgd fun _ hK => in_wp_copy w d s t t' ho v u hd hs hr (hK _ _ h)
theorem in_step_copy {P : Program} {ops : Array Oper} {o : Oper} {a : Act} {w : World} {K : Act → World → Prop} {Q : Exit → Act → World → Prop} {E : Prop}
  (hg : o.guard = none) (d x : Operand) (dT sT : TypeId) (hop : o.op = Op.call { callee := Callee.builtin Builtin.copy, args := #[d, x], argTypes := #[dT, sT] })
  (v u : Value) (hd : a.eval d = v) (hx : a.eval x = u) {v' : Value} {w' : World} (hr : (Builtin.copy_ #[dT, sT] o.type #[v, u]).run P w = .ok v' w') (hK : K (a.put o.dst v') w') :
  if Region.wanted o (yielded ops a.tmps) = true then Oper.wp P o a w K Q else E := by
 have hw : Region.wanted o (yielded ops a.tmps) = true := by simp [Region.wanted, hg]
 rw [if_pos hw]
 unfold Oper.wp
 simp [execOp, hop, resolve, invoke, builtin, hd, hx, hr, Result.andThen]
 exact hK
theorem in_copy {P : Program} (w : World) (dT sT ty elem : TypeId) (sz g o dLen dCap : Nat) (a : Addr) (sLen sCap m : Nat) (cur : Array Value) (t : TypeId) (cs : List Value)
  (hu : P.underlying dT = some (.slice elem)) (hs : (P.info? elem).map (·.size) = some sz)
  (hg : w.heap[g]? = some (.cells cur t (0, 0))) (hm : Nat.min sLen dLen = m) (hn : cs.length = m * sz)
  (hsrc : ∀ j v, cs[j]? = some v → w.cell? (a.add j) = some v) (hfit : o + cs.length ≤ cur.size) (h1 : ∀ v ∈ cs, v.oneCell' = true) :
  (Builtin.copy_ #[dT, sT] ty #[.slice (some ⟨g, o, none⟩) dLen dCap, .slice (some a) sLen sCap]).run P w =
   .ok (goInt m) (w.setRow g (cur.toList.take o ++ cs ++ cur.toList.drop (o + cs.length)).toArray) := by
 have hl := run_loadCells_list (P := P) w a cs hsrc
 rw [hn] at hl
 have hst := run_storeCells_at P g o t cs 0 cur w hg (by simpa using hfit) h1
 cases hq : P.info? elem with
 | none => simp [hq] at hs
 | some i =>
  have hi : i.size = sz := by simpa [hq] using hs
  simp [Builtin.copy_, run_underlying hu, Builtin.lenOf, Builtin.firstCells, sizeOf, typeInfo, hq, hi, hm, hl, hst]
theorem ins_list {α : Type} {A xs vs : List α} {a N : Nat} (hx : A.take N = xs) (h1 : a ≤ N) (h2 : N + 5 ≤ A.length) (hv : vs.length = 5) :
  ((A.take (a + 5) ++ xs.drop a ++ A.drop (a + 5 + (N - a))).take a ++ vs ++ (A.take (a + 5) ++ xs.drop a ++ A.drop (a + 5 + (N - a))).drop (a + 5)).take (N + 5) = xs.take a ++ vs ++ xs.drop a ∧ True := by
 refine ⟨?_, trivial⟩
 subst hx
 have l1 : (A.take (a + 5)).length = a + 5 := by simp; omega
 have e1 : (A.take (a + 5) ++ (A.take N).drop a ++ A.drop (a + 5 + (N - a))).take a = (A.take N).take a := by
  rw [List.append_assoc, List.take_append_of_le_length (by rw [l1]; omega), List.take_take, List.take_take, Nat.min_eq_left (by omega), Nat.min_eq_left h1]
 have e2 : (A.take (a + 5) ++ (A.take N).drop a ++ A.drop (a + 5 + (N - a))).drop (a + 5) = (A.take N).drop a ++ A.drop (a + 5 + (N - a)) := by
  rw [List.append_assoc, List.drop_append_of_le_length (by rw [l1]; exact Nat.le_refl _), List.drop_eq_nil_of_le (by rw [l1]; exact Nat.le_refl _), List.nil_append]
 rw [e1, e2, ← List.append_assoc]
 apply List.take_left'
 simp [hv]; omega
abbrev cT : TypeId := 62
abbrev csT : TypeId := 52
set_option maxHeartbeats 4000000 in
set_option maxRecDepth 100000 in
theorem ins_shift (g n c i vb : Nat) (cur : Array Value) (xs vs : List Value) (tv : TypeId) (vcur : Array Value) (w : World) (hi : i < n) (hroom : n + 1 ≤ c) (hc63 : c ≤ 9223372036854775807) (hvb : vb ≠ g)
  (hg : w.heap[g]? = some (.cells cur cT (0, 0))) (hcs : cur.size = c * 5) (hx : cur.toList.take (n * 5) = xs) (hxl : xs.length = n * 5)
  (hv : w.heap[vb]? = some (.cells vcur tv (0, 0))) (hvs : vcur.toList = vs) (hvl : vs.length = 5) (h1c : ∀ v ∈ xs, v.oneCell' = true) (h1v : ∀ v ∈ vs, v.oneCell' = true) :
  Calls Tryz.prog 67 #[.slice (some ⟨g, 0, none⟩) n c, .int .i64 i, .slice (some ⟨vb, 0, none⟩) 1 1] w fun e w' =>
   ∃ cur', e = .returned (.slice (some ⟨g, 0, none⟩) (n + 1) c) ∧ w' = w.drew.setRow g cur' ∧ cur'.size = c * 5 ∧ cur'.toList.take ((n + 1) * 5) = xs.take (i * 5) ++ vs ++ xs.drop (i * 5) := by
 have hsz : (Tryz.prog.info? cT).map (·.size) = some 5 := by kernel_rfl
 have hut : Tryz.prog.underlying csT = some (.slice cT) := by kernel_rfl
 have hz2 : ¬ ((i : Int) = (n : Int)) := by omega
 have hwd : (w.drew).heap[g]? = some (.cells cur cT (0, 0)) := hg
 have hov : ∀ lb cb, (callFunc 90 #[.slice (some ⟨vb, 0, none⟩) 1 1, .slice (some ⟨g, (i + 1) * 5, none⟩) lb cb]).run Tryz.prog w = .ok (.value (.bool false)) w := fun lb cb => by
  rw [run_callFunc_extern Tryz.func90 (by kernel_rfl) (by kernel_rfl) (by kernel_rfl) (e := Extern.SlicesOverlaps.overlaps #[csT, csT] #[4]) (by kernel_rfl),
   Lib.run_overlaps_apart w csT 4 cT hut 5 (fun w => by kernel_rfl) ⟨vb, 0, none⟩ ⟨g, (i + 1) * 5, none⟩ 1 1 lb cb hvb tv cT vcur.size cur.size (by simp [World.shape?, hv]) (by simp [World.shape?, hg]) (by omega) (by simp [World.frozen?, hv]) (by simp [World.frozen?, hv])]
  rfl
 have hw1 : IntKind.i64.wrap ((i : Int) + 1) = (i : Int) + 1 := by rw [IntKind.wrap_i64]; omega
 have hb1 : (0 : Int) ≤ (i : Int) + 1 := by omega
 have hin : i ≤ n := by omega
 have htn : ((i : Int) + 1).toNat = i + 1 := by omega
 have hb2 : ¬ (c = i + 1) := by omega
 have hb3 : (i : Int) ≤ (n : Int) + 1 := by omega
 have hb4 : ¬ (c = i) := by omega
 have hdl : (xs.drop (i * 5)).length = (n - i) * 5 := by rw [List.length_drop, hxl, Nat.sub_mul]
 have mixed : Tryz.prog.follows .mixedOrders = true := by kernel_rfl
 have hcp1 : ∀ ty dc sc, (Builtin.copy_ #[csT, csT] ty #[.slice (some ⟨g, (i + 1) * 5, none⟩) (n - i) dc, .slice (some ⟨g, i * 5, none⟩) (n + 1 - i) sc]).run Tryz.prog w.drew = .ok (goInt (n - i : Nat)) (w.drew.setRow g (cur.toList.take ((i + 1) * 5) ++ xs.drop (i * 5) ++ cur.toList.drop ((i + 1) * 5 + (xs.drop (i * 5)).length)).toArray) := fun ty dc sc => by
  refine in_copy w.drew csT csT ty cT 5 g ((i + 1) * 5) (n - i) dc ⟨g, i * 5, none⟩ (n + 1 - i) sc (n - i) cur cT (xs.drop (i * 5)) hut hsz hwd (by simp only [Nat.min_def]; split <;> omega) hdl (fun j v hj => ?_) ?_ (fun v hv => h1c v (List.mem_of_mem_drop hv))
  ·rw [Sx.add_off]
   rw [List.getElem?_drop, ← hx, List.getElem?_take] at hj
   split at hj
   ·rw [cell_of_row w.drew _ _ _ _ _ hwd]; simpa using hj
   ·cases hj
  ·rw [hdl, hcs]; omega
 obtain ⟨cur1, hc1⟩ : ∃ cur1 : Array Value, cur1 = (cur.toList.take ((i + 1) * 5) ++ xs.drop (i * 5) ++ cur.toList.drop ((i + 1) * 5 + (xs.drop (i * 5)).length)).toArray := ⟨_, rfl⟩
 rw [← hc1] at hcp1
 have hs1 : cur1.size = c * 5 := by
  rw [hc1]
  simp only [List.size_toArray, List.length_append, List.length_take, List.length_drop, Array.length_toList, hcs, hxl]
  omega
 have hg1 : (w.drew.setRow g cur1).heap[g]? = some (.cells cur1 cT (0, 0)) := setRow_heap w.drew g cur _ cT _ hwd
 have hv1 : (w.drew.setRow g cur1).heap[vb]? = some (.cells vcur tv (0, 0)) := by rw [setRow_other w.drew g vb _ hvb]; exact hv
 have hcp2 : ∀ (W : World), W.heap = (w.drew.setRow g cur1).heap → ∀ ty dc, (Builtin.copy_ #[csT, csT] ty #[.slice (some ⟨g, i * 5, none⟩) (n + 1 - i) dc, .slice (some ⟨vb, 0, none⟩) 1 1]).run Tryz.prog W = .ok (goInt (1 : Nat)) (W.setRow g (cur1.toList.take (i * 5) ++ vs ++ cur1.toList.drop (i * 5 + vs.length)).toArray) := fun W hW ty dc => by
  refine in_copy W csT csT ty cT 5 g (i * 5) (n + 1 - i) dc ⟨vb, 0, none⟩ 1 1 1 cur1 cT vs hut hsz (by rw [hW]; exact hg1) (by simp only [Nat.min_def]; split <;> omega) (by rw [hvl]) (fun j v hj => ?_) ?_ h1v
  ·rw [Sx.add_off, cell_of_row W _ _ _ _ _ (by rw [hW]; exact hv1)]
   rw [← hvs] at hj
   simpa using hj
  ·rw [hvl, hs1]; omega
 go_enter Tryz.func67, Tryz.ntmps67
 go_wp2_with (simp only [hov])
 go_region_law_o (refine in_step_copy rfl _ _ csT csT rfl _ _ (by simp [Act.eval, Act.put]) (by simp [Act.eval, Act.put]) (hcp1 _ _ _) ?_)
 go_wp2_with (at_builtin; refine in_wpl_copy _ rfl _ _ csT csT rfl _ _ rfl rfl (hcp2 _ rfl _ _) ?_)
 go_ret
 have hd5 : (xs.drop (i * 5)).length = n * 5 - i * 5 := by rw [List.length_drop, hxl]
 have hA : cur.toList.length = c * 5 := by simpa using hcs
 obtain ⟨k1, k2⟩ := ins_list (A := cur.toList) (xs := xs) (vs := vs) (a := i * 5) (N := n * 5) hx (by omega) (by omega) hvl
 refine ⟨_, rfl, setRow_setRow _ _ _ _, ?_, ?_⟩
 ·simp only [List.size_toArray, List.length_append, List.length_take, List.length_drop, Array.length_toList, hcs, hxl, hvl]
  omega
 ·rw [show (n + 1) * 5 = n * 5 + 5 by omega, ← k1]
  simp only [List.append_assoc, show (i + 1) * 5 = i * 5 + 5 by omega, show i * 5 + 5 + (n - i) * 5 = i * 5 + 5 + (n * 5 - i * 5) by omega]
theorem cT_info : ∃ ti, Tryz.prog.info? cT = some ti ∧ ti.size = 5 ∧ ti.bytes = 40 ∧ ∃ z, ti.zero = some z ∧ z.cells.size = 5 := by
 have hinf : (Tryz.prog.info? cT).map (fun i => (i.size, i.bytes, i.zero.map fun z => z.cells.size)) = some (5, 40, some 5) := by kernel_rfl
 cases hti : Tryz.prog.info? cT with
 | none => rw [hti] at hinf; cases hinf
 | some ti =>
  rw [hti] at hinf
  simp only [Option.map_some, Option.some.injEq, Prod.mk.injEq, Option.map_eq_some_iff] at hinf
  obtain ⟨h1, h2, z, h3, h4⟩ := hinf
  exact ⟨ti, rfl, h1, h2, z, h3, h4⟩
abbrev kC : List IntKind := [.i64, .i64, .i64, .u64, .i64]
set_option maxHeartbeats 4000000 in
set_option maxRecDepth 100000 in
theorem ins_end (v : Value) (l : List (List Int)) (x : List Int) (vb : Nat) (tv : TypeId) (vcur : Array Value) (w : World) (hl : l.length ≤ 1000)
  (hown : w.ownsRow 0 cT 5 v l.length (Sx.Cont.structs kC l).cells) (hv : w.heap[vb]? = some (.cells vcur tv (0, 0))) (hvs : vcur.toList = (Sx.Cont.structs kC [x]).cells) :
  Calls Tryz.prog 67 #[v, .int .i64 l.length, .slice (some ⟨vb, 0, none⟩) 1 1] w fun e w' =>
   ∃ v', e = .returned v' ∧ w'.ownsRow 0 cT 5 v' (l.length + 1) (Sx.Cont.structs kC (l ++ [x])).cells ∧ w.grownBy w' v.ownBlock ∧ (v'.ownBlock = v.ownBlock ∨ v'.ownBlock = some w.heap.size) := by
 have hut : Tryz.prog.underlying csT = some (.slice cT) := by kernel_rfl
 obtain ⟨ti, hti, h5, hby, z, hz, hz5⟩ := cT_info
 obtain ⟨v', w', hrun, h1, h2, h3⟩ := Sx.append_structs_run (P := Tryz.prog) (t := csT) (ks := kC) hut hti hz hz5 h5 (by decide) csT hown (vx := .slice (some ⟨vb, 0, none⟩) 1 1) (l2 := [x]) (.inr ⟨⟨vb, 0, none⟩, 1, rfl, fun j u hj => by
  rw [Sx.add_off, cell_of_row w _ _ _ _ _ hv]
  rw [← hvs] at hj
  simpa using hj⟩) (by rw [hby]; simp only [List.length_cons, List.length_nil]; omega) (by simp only [List.length_cons, List.length_nil]; omega)
 rcases hown.2 with ⟨rfl, h0⟩ | ⟨g, cap, cur, rfl, _, hg, hc1, hc2, _⟩
 ·have hl0 : l = [] := List.eq_nil_of_length_eq_zero h0
  subst hl0
  go_enter Tryz.func67, Tryz.ntmps67
  go_wp2_with (at_builtin; refine Lib.wpList_append_run _ rfl _ _ _ _ rfl _ _ rfl rfl _ _ hrun ?_)
  go_ret
  exact ⟨v', rfl, h1, h2, h3⟩
 ·have hc63 : cap ≤ 9223372036854775807 := hc2
  go_enter Tryz.func67, Tryz.ntmps67
  go_wp2_with (at_builtin; refine Lib.wpList_append_run _ rfl _ _ _ _ rfl _ _ rfl rfl _ _ hrun ?_)
  all_goals (go_ret; exact ⟨v', rfl, h1, h2, h3⟩)
set_option maxHeartbeats 4000000 in
set_option maxRecDepth 100000 in
theorem ins_grow (g n c i vb : Nat) (cur : Array Value) (xs vs : List Value) (tv : TypeId) (vcur : Array Value) (w : World) (hi : i < n) (hnc : n ≤ c) (hroom : c < n + 1) (hn1 : n ≤ 1000)
  (hg : w.heap[g]? = some (.cells cur cT (0, 0))) (hcs : cur.size = c * 5) (hx : cur.toList.take (n * 5) = xs) (hxl : xs.length = n * 5)
  (hv : w.heap[vb]? = some (.cells vcur tv (0, 0))) (hvs : vcur.toList = vs) (hvl : vs.length = 5) (h1c : ∀ v ∈ xs, v.oneCell' = true) (h1v : ∀ v ∈ vs, v.oneCell' = true) :
  Calls Tryz.prog 67 #[.slice (some ⟨g, 0, none⟩) n c, .int .i64 i, .slice (some ⟨vb, 0, none⟩) 1 1] w fun e w' =>
   ∃ (G : Nat) (R A B : Array Value), e = .returned (.slice (some ⟨w.heap.size, 0, none⟩) (n + 1) G) ∧ w' = (((w.alloc (.cells R cT)).drew.setRow w.heap.size A).drew).setRow w.heap.size B ∧ R.size = G * 5 ∧ A.size = G * 5 ∧ B.size = G * 5 ∧ n + 1 ≤ G ∧ G ≤ 9223372036854775807 ∧ B.toList.take ((n + 1) * 5) = xs.take (i * 5) ++ vs ++ xs.drop (i * 5) := by
 obtain ⟨ti, hti, h5, hby, z, hz, hz5⟩ := cT_info
 have hsz : (Tryz.prog.info? cT).map (·.size) = some 5 := by kernel_rfl
 have hut : Tryz.prog.underlying csT = some (.slice cT) := by kernel_rfl
 have hit : Tryz.prog.underlying 3 = some (.int .i64) := by kernel_rfl
 have mixed : Tryz.prog.follows .mixedOrders = true := by kernel_rfl
 have hz2 : ¬ ((i : Int) = (n : Int)) := by omega
 have hz3 : (c : Int) < (n : Int) + 1 := by omega
 have hkk : (n : Int) + 1 - (i : Int) = ((n + 1 - i : Nat) : Int) := by omega
 have hik : i + (n + 1 - i) = n + 1 := by omega
 have hgw : g < w.heap.size := (Array.getElem?_eq_some_iff.1 hg).1
 have hvw : vb < w.heap.size := (Array.getElem?_eq_some_iff.1 hv).1
 have hcur : cur.toList.length = c * 5 := by simpa using hcs
 have hold : (Builtin.firstCells ti.size i (.slice (some ⟨g, 0, none⟩) i c)).run Tryz.prog w.drew = .ok (xs.take (i * 5)).toArray w.drew := by
  rw [h5]
  refine run_firstCells_some w.drew 5 i ⟨g, 0, none⟩ i c (xs.take (i * 5)) (by rw [List.length_take]; omega) (fun j v hj => ?_)
  rw [Sx.add_off, cell_of_row w.drew _ _ _ _ _ (show w.drew.heap[g]? = some (.cells cur cT (0, 0)) from hg)]
  rw [List.getElem?_take] at hj
  split at hj
  ·rw [← hx, List.getElem?_take] at hj
   split at hj
   ·simpa using hj
   ·cases hj
  ·cases hj
 obtain ⟨G, hG⟩ : ∃ G, G = grownCap w (n + 1) c cT := ⟨_, rfl⟩
 obtain ⟨R, hR⟩ : ∃ R : Array Value, R = (xs.take (i * 5)).toArray ++ Builtin.zeroCells z.cells (n + 1 - i) ++ Builtin.zeroCells z.cells (G - (n + 1)) := ⟨_, rfl⟩
 have hGn : n + 1 ≤ G := by rw [hG]; exact grownCap_ge w _ _ _
 have hG63 : G ≤ 9223372036854775807 := by
  have := grownCap_le_maxLen w (n + 1) c cT (by unfold maxLen; omega)
  rw [← hG] at this
  exact this
 have hRs : R.size = G * 5 := by
  rw [hR]
  simp only [Array.size_append, List.size_toArray, List.length_take, Builtin.zeroCells, Array.size_map, Array.size_range, hz5, hxl]
  omega
 have hrz : ∀ ty, (Builtin.append_ #[csT, 3] ty #[.slice (some ⟨g, 0, none⟩) i c, .int .i64 ((n : Int) + 1 - (i : Int))]).run Tryz.prog w =
   .ok (.slice (some ⟨w.heap.size, 0, none⟩) (n + 1) G) (w.drew.alloc (.cells R cT)) := fun ty => by
  have h := Lib.run_append_grow_zeros (P := Tryz.prog) w csT 3 ty cT ti z .i64 .i64 hut hit hti hz (some ⟨g, 0, none⟩) i c (xs.take (i * 5)) hold (n + 1 - i) (by omega) (by omega) (by omega) (by omega) (by rw [hby]; omega) (by rw [hby, hik]; exact growslice_fits (by omega) (by omega))
  rw [hik, ← hG, ← hR] at h
  rw [hkk]
  exact h
 obtain ⟨A, hA⟩ : ∃ A : Array Value, A = (R.toList.take (i * 5) ++ vs ++ R.toList.drop (i * 5 + vs.length)).toArray := ⟨_, rfl⟩
 have hRl : R.toList.length = G * 5 := by simpa using hRs
 have hAs : A.size = G * 5 := by
  rw [hA]
  simp only [List.size_toArray, List.length_append, List.length_take, List.length_drop, hRl, hvl]
  omega
 have hR1 : (w.drew.alloc (.cells R cT)).heap[w.heap.size]? = some (.cells R cT (0, 0)) := Sx.alloc_new _ _
 have hcpA : ∀ (W : World), W.heap = (w.drew.alloc (.cells R cT)).heap → ∀ ty dc, (Builtin.copy_ #[csT, csT] ty #[.slice (some ⟨w.heap.size, i * 5, none⟩) (n + 1 - i) dc, .slice (some ⟨vb, 0, none⟩) 1 1]).run Tryz.prog W = .ok (goInt (1 : Nat)) (W.setRow w.heap.size A) := fun W hW ty dc => by
  rw [hA]
  refine in_copy W csT csT ty cT 5 w.heap.size (i * 5) (n + 1 - i) dc ⟨vb, 0, none⟩ 1 1 1 R cT vs hut hsz (by rw [hW]; exact hR1) (by simp only [Nat.min_def]; split <;> omega) (by rw [hvl]) (fun j v hj => ?_) ?_ h1v
  ·rw [Sx.add_off, cell_of_row W _ _ _ _ _ (by rw [hW, Sx.alloc_old w.drew _ hvw]; exact hv)]
   rw [← hvs] at hj
   simpa using hj
  ·rw [hvl, hRs]; omega
 have hA1 : ((w.drew.alloc (.cells R cT)).setRow w.heap.size A).heap[w.heap.size]? = some (.cells A cT (0, 0)) := setRow_heap _ _ _ _ cT _ hR1
 have hcpB : ∀ (W : World), W.heap = ((w.drew.alloc (.cells R cT)).setRow w.heap.size A).heap → ∀ ty dc sc, (Builtin.copy_ #[csT, csT] ty #[.slice (some ⟨w.heap.size, (i + 1) * 5, none⟩) (n - i) dc, .slice (some ⟨g, i * 5, none⟩) (n - i) sc]).run Tryz.prog W = .ok (goInt (n - i : Nat)) (W.setRow w.heap.size (A.toList.take ((i + 1) * 5) ++ xs.drop (i * 5) ++ A.toList.drop ((i + 1) * 5 + (xs.drop (i * 5)).length)).toArray) := fun W hW ty dc sc => by
  refine in_copy W csT csT ty cT 5 w.heap.size ((i + 1) * 5) (n - i) dc ⟨g, i * 5, none⟩ (n - i) sc (n - i) A cT (xs.drop (i * 5)) hut hsz (by rw [hW]; exact hA1) (by simp only [Nat.min_def]; split <;> omega) (by rw [List.length_drop, hxl, Nat.sub_mul]) (fun j v hj => ?_) ?_ (fun v hv => h1c v (List.mem_of_mem_drop hv))
  ·have hgW : W.heap[g]? = some (.cells cur cT (0, 0)) := by rw [hW, setRow_other _ _ _ _ (by omega), Sx.alloc_old w.drew _ hgw]; exact hg
   rw [Sx.add_off, cell_of_row W _ _ _ _ _ hgW]
   rw [List.getElem?_drop, ← hx, List.getElem?_take] at hj
   split at hj
   ·simpa using hj
   ·cases hj
  ·rw [List.length_drop, hxl, hAs]; omega
 have hw1 : IntKind.i64.wrap ((i : Int) + 1) = (i : Int) + 1 := by rw [IntKind.wrap_i64]; omega
 have hb1 : (0 : Int) ≤ (i : Int) + 1 := by omega
 have hin : i ≤ n := by omega
 have htn : ((i : Int) + 1).toNat = i + 1 := by omega
 have hb3 : (i : Int) ≤ (n : Int) := by omega
 have hGi : ¬ (G = i) := by omega
 have hGim : ¬ (G = i + 1) := by omega
 have hci : ¬ (c = i) := by omega
 have hE1 : ((w.alloc (.cells R cT)).drew).heap = (w.drew.alloc (.cells R cT)).heap := rfl
 have hE2 : (((w.alloc (.cells R cT)).drew.setRow w.heap.size A).drew).heap = ((w.drew.alloc (.cells R cT)).setRow w.heap.size A).heap := rfl
 have hx5 : (xs.take (i * 5)).length = i * 5 := by rw [List.length_take, hxl]; omega
 have hA5 : A.toList.take ((i + 1) * 5) = xs.take (i * 5) ++ vs := by
  have e1 : R.toList.take (i * 5) = xs.take (i * 5) := by
   rw [hR]
   simp only [Array.toList_append, List.append_assoc]
   exact List.take_left' hx5
  rw [hA]
  simp only [e1]
  exact List.take_left' (by rw [List.length_append, hx5, hvl]; omega)
 clear hkk hik hold hR hG hRl hA
 go_enter Tryz.func67, Tryz.ntmps67
 go_wp2_with (first
  | (at_builtin; refine Lib.wpList_append_run _ rfl _ _ _ _ rfl _ _ rfl rfl _ _ (hrz _) ?_)
  | (at_builtin; refine in_wpl_copy _ rfl _ _ csT csT rfl _ _ rfl rfl (hcpA _ hE1 _ _) ?_))
 go_region_law_o (refine in_step_copy rfl _ _ csT csT rfl (.slice (some ⟨w.heap.size, (i + 1) * 5, none⟩) (n - i) (G - (i + 1))) (.slice (some ⟨g, i * 5, none⟩) (n - i) (c - i)) (by simp [Act.eval, Act.put]) (by simp [Act.eval, Act.put]) (hcpB _ hE2 _ (G - (i + 1)) (c - i)) ?_)
 go_wp2
 go_ret
 have hd5 : (xs.drop (i * 5)).length = n * 5 - i * 5 := by rw [List.length_drop, hxl]
 refine ⟨G, R, A, _, rfl, rfl, hRs, hAs, ?_, hGn, hG63, ?_⟩
 ·simp only [List.size_toArray, List.length_append, List.length_take, List.length_drop, hxl]
  have : A.toList.length = G * 5 := by simpa using hAs
  omega
 ·refine Eq.trans (congrArg (List.take ((n + 1) * 5)) (show _ = (xs.take (i * 5) ++ vs ++ xs.drop (i * 5)) ++ A.toList.drop ((i + 1) * 5 + (n * 5 - i * 5)) from by simp [List.append_assoc])) (List.take_left' ?_)
  rw [List.length_append, List.length_append, hx5, hvl, hd5]; omega
theorem flat_drop5 (l : List (List Int)) (k : Nat) (h : k ≤ l.length) : (Sx.Cont.structs kC l).cells.drop (k * 5) = (Sx.Cont.structs kC (l.drop k)).cells := by
 have e : (Sx.Cont.structs kC l).cells = (Sx.Cont.structs kC (l.take k)).cells ++ (Sx.Cont.structs kC (l.drop k)).cells := by
  simp only [Sx.Cont.cells]
  rw [← List.flatMap_append, List.take_append_drop]
 rw [e]
 exact List.drop_left' (by rw [Sx.Cont.cells_length]; simp only [Sx.Cont.n, Sx.Cont.sz, List.length_take]; rw [Nat.min_eq_left h]; rfl)
theorem flat_take5 (l : List (List Int)) (k : Nat) : (Sx.Cont.structs kC l).cells.take (k * 5) = (Sx.Cont.structs kC (l.take k)).cells :=
 Sx.flat_take (f := fun xs => (Sx.ecells kC xs).toList) (m := 5) l k (fun y => by simp [Sx.ecells_size])
theorem ins_cells (l : List (List Int)) (x : List Int) (i : Nat) (h : i ≤ l.length) : (Sx.Cont.structs kC (l.take i ++ [x] ++ l.drop i)).cells = (Sx.Cont.structs kC l).cells.take (i * 5) ++ (Sx.Cont.structs kC [x]).cells ++ (Sx.Cont.structs kC l).cells.drop (i * 5) := by
 rw [flat_take5, flat_drop5 l i h]
 simp [Sx.Cont.cells]
theorem len5 (l : List (List Int)) : (Sx.Cont.structs kC l).cells.length = l.length * 5 := Sx.Cont.cells_length (.structs kC l)
theorem ins_any (v : Value) (l : List (List Int)) (x : List Int) (i vb : Nat) (tv : TypeId) (vcur : Array Value) (w : World) (hl : l.length ≤ 1000) (hi : i ≤ l.length)
  (hown : w.ownsRow 0 cT 5 v l.length (Sx.Cont.structs kC l).cells) (hvb : v.ownBlock ≠ some vb) (hv : w.heap[vb]? = some (.cells vcur tv (0, 0))) (hvs : vcur.toList = (Sx.Cont.structs kC [x]).cells) :
  Calls Tryz.prog 67 #[v, .int .i64 i, .slice (some ⟨vb, 0, none⟩) 1 1] w fun e w' =>
   ∃ v', e = .returned v' ∧ w'.ownsRow 0 cT 5 v' (l.length + 1) (Sx.Cont.structs kC (l.take i ++ [x] ++ l.drop i)).cells ∧ w.grownBy w' v.ownBlock ∧ (v'.ownBlock = v.ownBlock ∨ v'.ownBlock = some w.heap.size) := by
 rcases Nat.lt_or_ge i l.length with hlt | hge
 ·rcases hown.2 with ⟨rfl, h0⟩ | ⟨g, cap, cur, rfl, _, hg, hc1, hc2, hcs, htk⟩
  ·omega
  ·have hvg : vb ≠ g := fun e => hvb (by rw [e]; rfl)
   have h1x : ∀ v ∈ (Sx.Cont.structs kC l).cells, v.oneCell' = true := Sx.structs_one
   have h1v : ∀ v ∈ (Sx.Cont.structs kC [x]).cells, v.oneCell' = true := Sx.structs_one
   rcases Nat.lt_or_ge cap (l.length + 1) with hr | hr
   ·refine (ins_grow g l.length cap i vb cur _ _ tv vcur w hlt hc1 hr hl hg hcs htk (len5 l) hv hvs (len5 [x]) h1x h1v).mono ?_
    rintro e w' ⟨G, R, A, B, rfl, rfl, hR, hA, hB, hG1, hG2, htB⟩
    have hh1 : (w.alloc (.cells R cT)).drew.heap[w.heap.size]? = some (.cells R cT (0, 0)) := Sx.alloc_new _ _
    have hh2 : (((w.alloc (.cells R cT)).drew.setRow w.heap.size A).drew).heap[w.heap.size]? = some (.cells A cT (0, 0)) := setRow_heap _ _ _ _ cT _ hh1
    have hh3 : ((((w.alloc (.cells R cT)).drew.setRow w.heap.size A).drew).setRow w.heap.size B).heap[w.heap.size]? = some (.cells B cT (0, 0)) := setRow_heap _ _ _ _ cT _ hh2
    refine ⟨_, rfl, ⟨by rw [len5]; simp only [List.length_append, List.length_take, List.length_drop, List.length_cons, List.length_nil]; omega, .inr ⟨w.heap.size, G, B, rfl, Nat.zero_le _, hh3, hG1, hG2, hB, ?_⟩⟩, ⟨rfl, rfl, rfl, ?_, fun k hk _ => ?_⟩, .inr rfl⟩
    ·rw [htB, ins_cells l x i hi]
    ·rw [setRow_size]
     show w.heap.size ≤ ((w.alloc (.cells R cT)).drew.setRow w.heap.size A).heap.size
     rw [setRow_size]
     show w.heap.size ≤ (w.heap.push _).size
     simp
    ·have hne : k ≠ w.heap.size := by omega
     rw [setRow_other _ _ _ _ hne]
     show ((w.alloc (.cells R cT)).drew.setRow w.heap.size A).heap[k]? = _
     rw [setRow_other _ _ _ _ hne]
     exact Sx.alloc_old w _ hk
   ·refine (ins_shift g l.length cap i vb cur _ _ tv vcur w hlt hr hc2 hvg hg hcs htk (len5 l) hv hvs (len5 [x]) h1x h1v).mono ?_
    rintro e w' ⟨cur', rfl, rfl, hs', ht'⟩
    have hh : (w.drew.setRow g cur').heap[g]? = some (.cells cur' cT (0, 0)) := setRow_heap _ _ _ _ cT _ hg
    refine ⟨_, rfl, ⟨by rw [len5]; simp only [List.length_append, List.length_take, List.length_drop, List.length_cons, List.length_nil]; omega, .inr ⟨g, cap, cur', rfl, Nat.zero_le _, hh, hr, hc2, hs', ?_⟩⟩, ⟨rfl, rfl, rfl, by rw [setRow_size]; exact Nat.le_refl _, fun k hk hne => setRow_other _ _ _ _ (fun e => hne (by rw [e]; rfl))⟩, .inl rfl⟩
    rw [ht', ins_cells l x i hi]
 ·obtain rfl : i = l.length := by omega
  refine (ins_end v l x vb tv vcur w hl hown hv hvs).mono ?_
  rintro e w' ⟨v', rfl, h1, h2, h3⟩
  exact ⟨v', rfl, by rw [List.take_of_length_le (Nat.le_refl _), List.drop_eq_nil_of_le (Nat.le_refl _), List.append_nil]; exact h1, h2, h3⟩
open Sx in
def g_ins (ds : List Dt) : Option (Bool × List Bool × (List Bool → Post)) := match ds with
 | [.structs l, .v (.int .i64 k), .node [.v (.int .i64 f), .v (.int .i64 i), .v (.int .i64 a), .v (.int .u64 q), .v (.int .i64 e)]] => some (Nat.ble l.length 1000 && (decide (0 ≤ k) && decide (k ≤ (l.length : Int))), [], fun _ => ⟨[.row 64], [(64, .own cT (.structs kC (l.take k.toNat ++ [[f, i, a, q, e]] ++ l.drop k.toNat)))]⟩)
 | _ => none
open Sx in
theorem ok_ins (I : Sx.Interp) : Sx.SpecOK I Tryz.prog 67 (pspec [.ownS cT kC, .v, .lit cT 1 [.v, .v, .v, .v, .v]] false g_ins) := by
 refine spec_patH Tryz.func67 (by kernel_rfl) (by kernel_rfl) (by decide) ?_ ?_
 ·intro ds p bs F h
  unfold g_ins at h
  split at h
  ·simp only [Option.some.injEq, Prod.mk.injEq] at h
   obtain ⟨_, _, rfl⟩ := h
   kernel_rfl
  ·cases h
 ·intro ds bs F γ T0 a w hlen h hs
  unfold g_ins at h
  split at h
  ·rename_i l k f i am q e
   simp only [Option.some.injEq, Prod.mk.injEq, Bool.and_eq_true, decide_eq_true_eq] at h
   obtain ⟨⟨h1, h2, h3⟩, _, rfl⟩ := h
   have h1 := Nat.le_of_ble_eq_true h1
   obtain ⟨j, rfl⟩ := Int.eq_ofNat_of_zero_le h2
   have hj : j ≤ l.length := by omega
   have m0 : Sx.look (mks [.ownS cT kC, .v, .lit cT 1 [.v, .v, .v, .v, .v]] [.structs l, .v (.int .i64 (j : Int)), .node [.v (.int .i64 f), .v (.int .i64 i), .v (.int .i64 am), .v (.int .u64 q), .v (.int .i64 e)]] 0).2 0 = some (.own cT (.structs kC l)) := rfl
   have m1 : Sx.look (mks [.ownS cT kC, .v, .lit cT 1 [.v, .v, .v, .v, .v]] [.structs l, .v (.int .i64 (j : Int)), .node [.v (.int .i64 f), .v (.int .i64 i), .v (.int .i64 am), .v (.int .u64 q), .v (.int .i64 e)]] 0).2 1 = some (.rblk cT [.v (.int .i64 f), .v (.int .i64 i), .v (.int .i64 am), .v (.int .u64 q), .v (.int .i64 e)]) := rfl
   obtain ⟨hown, hfoot⟩ := hs.mem.ok 0 _ m0
   have hblk := hs.mem.ok 1 _ m1
   have hvb : (γ.val 0).ownBlock ≠ some (γ.blk 1) := fun e => hs.mem.apart 0 1 _ _ _ (by decide) m0 m1 rfl ((hfoot _).2 e) rfl
   have hT : ∀ b, (γ.val 0).ownBlock = some b → T0.w b := fun b hb => by
    rcases hs.ownm 0 _ b m0 rfl ((hfoot b).2 hb) with h | h
    ·have := hs.mem.low 0 _ b m0 ((hfoot b).2 hb); omega
    ·exact h
   refine (ins_any (γ.val 0) l [f, i, am, q, e] j (γ.blk 1) cT _ w h1 hj hown hvb hblk (by simp [SV.dens, SV.den]; rfl)).mono ?_
   rintro e' w' ⟨v', rfl, o1, o2, o3⟩
   have hlow : ∀ b, v'.ownBlock = some b → b < w'.heap.size := fun b hb => own_low o1 b hb
   have hlen' : (l.take j ++ [[f, i, am, q, e]] ++ l.drop j).length = l.length + 1 := by
    simp only [List.length_append, List.length_take, List.length_drop, List.length_cons, List.length_nil]; omega
   refine ⟨γ.row' 64 v' (fun b => v'.ownBlock = some b), a, row'_agree (by decide), ?_, ⟨fun t x h => by simp [Sx.look] at h, fun t x h => by simp [Sx.look] at h, ⟨fun m r h => ?_, fun m r b h hb => ?_, fun m n r s b hmn h h' => ?_⟩, fun m r h => ⟨rfl, Res.ids_true r⟩, ⟨o2.os, o2.tape, o2.output, o2.size, fun b hb hn => o2.block b hb (fun e => hn (hT b e.symm))⟩, fun m r b h hb => ?_, hs.size, hs.defers, hs.amb⟩⟩
   ·simp [tupled, SV.den, row'_val]
   ·obtain ⟨rfl, rfl⟩ := look_one' h
    simp only [ResOK, row'_val, row'_foot]
    refine ⟨?_, fun b => by first | trivial | exact Iff.rfl⟩
    simp only [Cont.n, hlen', Int.toNat_natCast]
    exact o1
   ·obtain ⟨rfl, rfl⟩ := look_one' h
    simp only [Res.foot, row'_foot] at hb
    exact hlow b hb
   ·obtain ⟨rfl, _⟩ := look_one' h
    obtain ⟨rfl, _⟩ := look_one' h'
    exact absurd rfl hmn
   ·obtain ⟨rfl, rfl⟩ := look_one' h
    simp only [Res.foot, row'_foot] at hb
    rcases o3 with h4 | h4
    ·exact .inr (.inl (hT b (h4 ▸ hb)))
    ·rw [h4] at hb
     simp only [Option.some.injEq] at hb
     exact .inl (by omega)
  ·cases h
end Go.Proofs.YtcdmmfelagbpdaaGreat
