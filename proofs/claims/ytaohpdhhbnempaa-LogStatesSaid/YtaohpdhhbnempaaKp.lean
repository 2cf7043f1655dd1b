/- What a call leaves of memory: Kp w w': all that was there is as it was; new blocks may lie behind it. -/
import Derived.Below
import Derived.WalkSmall
import Derived.BigFrame
import Derived.Laws.Rows
import Derived.Laws.Tables
import Derived.BigQuiet
import Derived.Lib.QuietBelow
namespace Ckp
open Go Go.RowKit Go.Sort
set_option linter.unusedVariables false
def Kp (w w' : World) : Prop := Below w.heap.size w w'
theorem Kp.refl (w : World) : Kp w w := Below.refl _ _
theorem Kp.below {w w' : World} (h : Kp w w') : Below w.heap.size w w' := h
theorem Kp.size {w w' : World} (h : Kp w w') : w.heap.size ≤ w'.heap.size := Below.size h
theorem Kp.trans {a b c : World} (h : Kp a b) (k : Kp b c) : Kp a c := Below.trans h (Below.mono k h.size)
/-- Some draws between. -/
theorem Kp.trans' {a b c : World} {n : Nat} (h : Kp a b) (k : Kp (b.drewN n) c) : Kp a c := Kp.trans (Kp.trans h (below_drewN (Below.refl _ _) n)) k
theorem Kp.drew {a w : World} (h : Kp a w) : Kp a w.drew := Below.drew h
theorem Kp.drewN {a w : World} (h : Kp a w) (n : Nat) : Kp a (w.drewN n) := below_drewN h n
theorem Kp.alloc {a w : World} (h : Kp a w) (o : Obj) : Kp a (w.alloc o) := Below.alloc h h.size o
theorem Kp.setCell {a w : World} (h : Kp a w) {p : Addr} (hp : a.heap.size ≤ p.block) (u : Value) : Kp a (w.setCell p u) := Below.setCell h hp u
theorem Kp.cell {w w' : World} (h : Kp w w') {p : Addr} (hp : p.block < w.heap.size) : w'.cell? p = w.cell? p := Below.cell h hp
theorem Kp.frozen {w w' : World} (h : Kp w w') {p : Addr} (hp : p.block < w.heap.size) : w'.frozen? p = w.frozen? p := Below.frozen h hp
theorem Kp.block {w w' : World} (h : Kp w w') {k : Nat} (hk : k < w.heap.size) : w'.heap[k]? = w.heap[k]? := Below.block h k hk
theorem load_row {P : Program} {ops : Array Oper} {rest : List Oper} {o : Oper} {a : Act} {w : World} {Q : Exit → Act → World → Prop} (hgd : Region.wanted o (yielded ops a.tmps) = true) (ty : TypeId) (x : Operand) (ho : o.op = .load ty x)
  (g : Nat) (hx : a.eval x = .pointer (some ⟨g, 0, none⟩)) (t : TypeId) (cs : Array Value) (fr : Nat × Nat) (d : TypeDesc) (hg : w.heap[g]? = some (.cells cs t fr))
  (hu : P.underlying ty = some d) (hd : (match d with | .struct _ | .array _ _ => true | _ => false) = true) (hi : (P.info? ty).map (·.size) = some cs.size)
  (h : wpList P ops Q rest (a.put o.dst (.agg cs)) w) : wpList P ops Q (o :: rest) a w :=
 BigFrame.wpList_want hgd fun _ hK => wp_load_row ty x ho g hx t cs fr d hg hu hd hi (hK _ _ h)
theorem cell_new_at (w : World) (k : Nat) (cs : Array Value) (t : TypeId) (j : Nat) : ((w.drewN k).alloc (.cells cs t)).cell? ⟨w.heap.size, j, none⟩ = cs[j]? :=
 cell_of_row _ _ _ _ _ _ (heap_alloc_new (w.drewN k) (.cells cs t))
theorem frozen_new_at (w : World) (k : Nat) (cs : Array Value) (t : TypeId) (j : Nat) : ((w.drewN k).alloc (.cells cs t)).frozen? ⟨w.heap.size, j, none⟩ = false :=
 frozen_of_row _ _ _ _ _ (heap_alloc_new (w.drewN k) (.cells cs t))
theorem row_set (w : World) (k : Nat) (cs cs' : Array Value) (t : TypeId) (j : Nat) (v : Value) (h : cs.setIfInBounds j v = cs') :
  (((w.drewN k).alloc (.cells cs t)).setCell ⟨w.heap.size, j, none⟩ v).heap[w.heap.size]? = some (.cells cs' t (0, 0)) := by
 rw [← h]; exact heap_setCell_same _ _ _ _ _ _ (heap_alloc_new (w.drewN k) (.cells cs t))
theorem kp_set (w : World) (k : Nat) (cs : Array Value) (t : TypeId) (j : Nat) (v : Value) : Kp w (((w.drewN k).alloc (.cells cs t)).setCell ⟨w.heap.size, j, none⟩ v) :=
 (((Kp.refl w).drewN k).alloc _).setCell (Nat.le_refl _) v
theorem size_set (w : World) (k : Nat) (cs : Array Value) (t : TypeId) (p : Addr) (v : Value) : w.heap.size < (((w.drewN k).alloc (.cells cs t)).setCell p v).heap.size := by
 simp [World.setCell, World.alloc]
theorem row_lt {w : World} {g : Nat} {o : Obj} (h : w.heap[g]? = some o) : g < w.heap.size := by
 rcases Nat.lt_or_ge g w.heap.size with h1 | h1
 ·exact h1
 ·rw [Array.getElem?_eq_none h1] at h; cases h
/-! A region that draws its order, of loads and calls that may lay new blocks: the class of worlds is 'grow (redrawn w d) os'. -/
theorem row_later {w : World} {g : Nat} {o : Obj} (h : w.heap[g]? = some o) : ∀ w', (∃ p : Regrown, w' = grow (redrawn w p.d) p.os) → w'.heap[g]? = some o := by
 rintro w' ⟨p, rfl⟩
 have hlt : g < w.heap.size := by
  rcases Nat.lt_or_ge g w.heap.size with h1 | h1
  ·exact h1
  ·rw [Array.getElem?_eq_none h1] at h; cases h
 rw [(below_regrown w p.d p.os).block g hlt]; exact h
theorem kp_later {w w' : World} (h : ∃ p : Regrown, w' = grow (redrawn w p.d) p.os) : Kp w w' := by
 obtain ⟨p, rfl⟩ := h; exact below_regrown w p.d p.os
theorem calls_kp {P : Program} {f : FuncId} {args : Array Value} {w : World} {d : Nat} {os : Array Obj} {v : Value}
  (h : Calls P f args (grow (redrawn w d) os) fun e w' => e = .returned v ∧ Kp (grow (redrawn w d) os) w') : Calls P f args (grow (redrawn w d) os) fun e w'' => e = .returned v ∧ ∃ p : Regrown, w'' = grow (redrawn w p.d) p.os := Calls.regrown_of h
theorem calls_same {P : Program} {f : FuncId} {args : Array Value} {w : World} {d : Nat} {os : Array Obj} {v : Value}
  (h : Calls P f args (grow (redrawn w d) os) fun e w' => e = .returned v ∧ grow (redrawn w d) os = w') : Calls P f args (grow (redrawn w d) os) fun e w'' => e = .returned v ∧ ∃ p : Regrown, w'' = grow (redrawn w p.d) p.os :=
 h.mono fun _ _ ⟨he, hw⟩ => ⟨he, ⟨d, os⟩, hw.symm⟩
theorem calls_drew {P : Program} {f : FuncId} {args : Array Value} {w : World} {d : Nat} {os : Array Obj} {v : Value}
  (h : Calls P f args (grow (redrawn w d) os) fun e w' => e = .returned v ∧ ∃ n, w' = (grow (redrawn w d) os).drewN n) : Calls P f args (grow (redrawn w d) os) fun e w'' => e = .returned v ∧ ∃ p : Regrown, w'' = grow (redrawn w p.d) p.os :=
 Calls.regrown_of (h.mono fun _ _ ⟨he, n, hn⟩ => ⟨he, by rw [hn]; exact below_drewN (Below.refl _ _) n⟩)
theorem quiet_load_row {P : Program} {ops : Array Oper} {C : World → Prop} {Q : Act → Prop} {rest : List Oper} {o : Oper} {a : Act} (hgd : Region.wanted o (yielded ops a.tmps) = true) (ty : TypeId) (x : Operand) (ho : o.op = .load ty x)
  (g : Nat) (hx : a.eval x = .pointer (some ⟨g, 0, none⟩)) (t : TypeId) (cs : Array Value) (fr : Nat × Nat) (d : TypeDesc) (hg : ∀ w, C w → w.heap[g]? = some (.cells cs t fr))
  (hu : P.underlying ty = some d) (hd : (match d with | .struct _ | .array _ _ => true | _ => false) = true) (hi : (P.info? ty).map (·.size) = some cs.size)
  (h : wpQuiet P ops C Q rest (a.put o.dst (.agg cs))) : wpQuiet P ops C Q (o :: rest) a := by
 refine wpQuiet_step fun K hK => ?_
 rw [if_pos hgd]
 refine ⟨.agg cs, fun w hw => ?_, hK _ h⟩
 unfold Oper.quietAt execOp
 simp only [ho, hx, Instr.loadAt, Instr.sureAddr, Sem.run_bind, Sem.run_pure, Result.andThen_ok, run_loadVar_row w g t ty cs fr d (hg w hw) hu hd hi]
 exact ⟨rfl, rfl⟩
theorem store_row {P : Program} {ops : Array Oper} {rest : List Oper} {o : Oper} {a : Act} {w : World} {Q : Exit → Act → World → Prop} (hgd : Region.wanted o (yielded ops a.tmps) = true) (ty : TypeId) (x y : Operand) (ho : o.op = .store ty x y)
  (g : Nat) (hx : a.eval x = .pointer (some ⟨g, 0, none⟩)) (cells : Array Value) (hy : a.eval y = .agg cells) (t : TypeId) (old : Array Value) (hg : w.heap[g]? = some (.cells old t (0, 0)))
  (hi : (P.info? ty).map (·.size) = some cells.size) (hold : old.size = cells.size) (h1 : cells.all (·.oneCell') = true)
  (h : wpList P ops Q rest (a.put o.dst undef) (w.setRow g cells)) : wpList P ops Q (o :: rest) a w := by
 refine BigFrame.wpList_want hgd fun K hK => ?_
 unfold Oper.wp execOp
 simp only [ho, hx, hy, Instr.storeAt, Instr.sureAddr, Sem.run_bind, Sem.run_pure, Result.andThen_ok, run_storeVar_row w g t ty old cells hg hi hold h1]
 exact hK _ _ h
end Ckp
