/- What a call leaves of memory: Kp w w': all that was there is as it was; new blocks may lie behind it. -/
import Derived.Below
import Derived.WalkSmall
import Derived.BigFrame
import Derived.Laws.Rows
namespace Ckp
open Go Go.RowKit
def Kp (w w' : World) : Prop := Below w.heap.size w w'
theorem Kp.refl (w : World) : Kp w w := Below.refl _ _
theorem Kp.below {w w' : World} (h : Kp w w') : Below w.heap.size w w' := h
theorem Kp.size {w w' : World} (h : Kp w w') : w.heap.size ≤ w'.heap.size := Below.size h
theorem Kp.trans {a b c : World} (h : Kp a b) (k : Kp b c) : Kp a c := Below.trans h (Below.mono k h.size)
theorem Kp.drew {a w : World} (h : Kp a w) : Kp a w.drew := Below.drew h
theorem Kp.drewN {a w : World} (h : Kp a w) (n : Nat) : Kp a (w.drewN n) := below_drewN h n
theorem Kp.alloc {a w : World} (h : Kp a w) (o : Obj) : Kp a (w.alloc o) := Below.alloc h h.size o
theorem Kp.setCell {a w : World} (h : Kp a w) {p : Addr} (hp : a.heap.size ≤ p.block) (u : Value) : Kp a (w.setCell p u) := Below.setCell h hp u
theorem Kp.cell {w w' : World} (h : Kp w w') {p : Addr} (hp : p.block < w.heap.size) : w'.cell? p = w.cell? p := Below.cell h hp
theorem Kp.frozen {w w' : World} (h : Kp w w') {p : Addr} (hp : p.block < w.heap.size) : w'.frozen? p = w.frozen? p := Below.frozen h hp
theorem Kp.block {w w' : World} (h : Kp w w') {k : Nat} (hk : k < w.heap.size) : w'.heap[k]? = w.heap[k]? := Below.block h k hk
theorem load_row {P : Program} {ops : Array Oper} {rest : List Oper} {o : Oper} {a : Act} {w : World} {Q : Exit → Act → World → Prop} (hgd : Region.wanted o (yielded ops a.tmps) = true) (ty : TypeId) (x : Operand) (ho : o.op = .load ty x)
    (g : Nat) (hx : a.eval x = .pointer (some ⟨g, 0, none⟩)) (t : TypeId) (cs : Array Value) (fr : Nat × Nat) (d : TypeDesc) (hg : w.heap[g]? = some (.cells cs t fr))
    (hu : P.underlying ty = some d) (hd : (match d with | .struct _ | .array _ _ => true | _ => false) = true) (hi : (P.info? ty).map (·.size) = some cs.size)
    (h : wpList P ops Q rest (a.put o.dst (.agg cs)) w) : wpList P ops Q (o :: rest) a w :=
  BigFrame.wpList_want hgd fun _ hK => wp_load_row ty x ho g hx t cs fr d hg hu hd hi (hK _ _ h)
theorem cell_new_at (w : World) (k : Nat) (cs : Array Value) (t : TypeId) (j : Nat) : ((w.drewN k).alloc (.cells cs t)).cell? ⟨w.heap.size, j, none⟩ = cs[j]? :=
  cell_of_row _ _ _ _ _ _ (heap_alloc_new (w.drewN k) (.cells cs t))
theorem frozen_new_at (w : World) (k : Nat) (cs : Array Value) (t : TypeId) (j : Nat) : ((w.drewN k).alloc (.cells cs t)).frozen? ⟨w.heap.size, j, none⟩ = false :=
  frozen_of_row _ _ _ _ _ (heap_alloc_new (w.drewN k) (.cells cs t))
theorem row_set (w : World) (k : Nat) (cs cs' : Array Value) (t : TypeId) (j : Nat) (v : Value) (h : cs.setIfInBounds j v = cs') :
    (((w.drewN k).alloc (.cells cs t)).setCell ⟨w.heap.size, j, none⟩ v).heap[w.heap.size]? = some (.cells cs' t (0, 0)) := by
  rw [← h]; exact heap_setCell_same _ _ _ _ _ _ (heap_alloc_new (w.drewN k) (.cells cs t))
theorem kp_set (w : World) (k : Nat) (cs : Array Value) (t : TypeId) (j : Nat) (v : Value) : Kp w (((w.drewN k).alloc (.cells cs t)).setCell ⟨w.heap.size, j, none⟩ v) :=
  (((Kp.refl w).drewN k).alloc _).setCell (Nat.le_refl _) v
theorem size_set (w : World) (k : Nat) (cs : Array Value) (t : TypeId) (p : Addr) (v : Value) : w.heap.size < (((w.drewN k).alloc (.cells cs t)).setCell p v).heap.size := by
  simp [World.setCell, World.alloc]
end Ckp
