/- Steps of the walk through a region that draws its order (XWild). -/
import Derived.Test.YtcdmmfelagbpdaaWild
import Derived.Conc.MuLone
namespace Cwl
open Go Go.RowKit Go.Sort Ckp
set_option linter.unusedVariables false
section
variable {P : Program} {ops : Array Oper} {w0 : World} {n : Nat} {fin : Act → List Wild → Prop} {o : Oper} {rest : List Oper} {a : Act} {ws : List Wild}
theorem h_nil (h : fin a ws) : wHead P ops n w0 fin [] a ws := h
theorem h_skip (hw : Region.wanted o (yielded ops a.tmps) = false) (h : wHead P ops n w0 fin rest (a.put o.dst undef) ws) : wHead P ops n w0 fin (o :: rest) a ws := .inr ⟨hw, h⟩
/-- An operation that yields, the world as it was. -/
theorem h_val (v : Value) (hw : Region.wanted o (yielded ops a.tmps) = true) (hr : ∀ w, Kp w0 w → (execOp a.eval o).run P w = .ok (.value v) w) (h : wHead P ops n w0 fin rest (a.put o.dst v) ws) : wHead P ops n w0 fin (o :: rest) a ws :=
 .inl ⟨hw, .inl ⟨v, fun w hk => by unfold wAt; rw [hr w hk]; exact ⟨Kp.refl w, 0, rfl, trivial⟩, h⟩⟩
/-- An operation that is no call of a Go function, as the kit's quiet step shows it. -/
def noEnter : Op → Bool
 | .move _ | .assign _ | .build .. | .load .. | .binOp .. | .unOp .. | .convert .. | .slice .. | .fieldAddr .. | .field .. | .indexAddr .. | .index .. | .extract .. | .pick .. => true
 | _ => false
theorem bindv_enter {s : Sem Value} {w w' : World} {f : FuncId} {args : Array Value} (h : (do pure (Next.value (← s)) : Sem Next).run P w = .ok (.enter f args) w') : False := by
 simp only [Sem.run_bind] at h
 generalize hr : s.run P w = r at h
 cases r with
 | ok v w1 => simp [Result.andThen_ok] at h
 | halt x w1 => simp [Result.andThen] at h
theorem not_enter (hc : noEnter o.op = true) {w w' : World} {f : FuncId} {args : Array Value} (h : (execOp a.eval o).run P w = .ok (.enter f args) w') : False := by
 obtain ⟨dst, op, type, pos, after, guard⟩ := o
 simp only at hc
 unfold execOp at h
 cases op <;> simp only [noEnter] at hc <;> simp only at h
 all_goals first | (cases hc; done) | exact bindv_enter h | skip
 ·simp [Sem.run_pure] at h
 ·simp [Sem.run_pure] at h
 ·rename_i c x y
  simp only [Sem.run_bind] at h
  generalize hr : (asBool (a.eval c)).run P w = r at h
  cases r with
  | ok v w1 => simp [Result.andThen_ok] at h
  | halt x w1 => simp [Result.andThen] at h
theorem h_pure (hw : Region.wanted o (yielded ops a.tmps) = true) (hc : noEnter o.op = true) (h : ∀ K : Act → Prop, (∀ a, wHead P ops n w0 fin rest a ws → K a) → o.quiet P a (fun w => ∃ p : Regrown, w = grow (redrawn w0 p.d) p.os) K) : wHead P ops n w0 fin (o :: rest) a ws := by
 obtain ⟨v, h1, h2⟩ := h (fun a => wHead P ops n w0 fin rest a ws) (fun _ h => h)
 refine .inl ⟨hw, .inl ⟨v, fun w hk => ?_, h2⟩⟩
 have h3 := h1 w (regrown_of_below hk)
 unfold Oper.quietAt at h3
 unfold wAt
 generalize hr : (execOp a.eval o).run P w = r at h3
 cases r with
 | ok nx w' =>
  cases nx <;> simp only [Oper.quietUpon] at h3 <;> simp only [wUpon]
  case value u => exact ⟨h3.1 ▸ Kp.refl w, 0, h3.2, trivial⟩
  case skip => exact ⟨h3.1 ▸ Kp.refl w, 0, h3.2.symm, trivial⟩
  case enter fn args => exact (not_enter hc hr).elim
 | halt x w' => simp only [Oper.quietUpon] at h3
theorem run_enter {k : FuncId} {fn : Func} {xs : Array Operand} {ts : Array TypeId} {args : Array Value} (ho : o.op = .call { callee := .value (.func k), args := xs, argTypes := ts }) (hf : P.funcs[k]? = some fn) (hn : (fn.name == "runtime.NumGoroutine") = false) (hb : fn.body.isSome = true)
  (ha : args = (xs.toList.map a.eval).toArray) (w : World) : (execOp a.eval o).run P w = .ok (.enter k args) w := by
 obtain ⟨c, hc⟩ := Option.isSome_iff_exists.1 hb
 have ha : xs.map a.eval = args := by rw [ha, ← Array.toList_map]
 have h := MuLone.run_callFunc_enter hf hn hc args w
 unfold execOp
 simp only [ho, resolve, ha, Act.eval, Deferred.ofValue, Sem.run_bind, Sem.run_pure, Result.andThen_ok, invoke, Array.empty_append, Array.append_empty]
 exact h
/-- A call of a Go function whose value is told. -/
theorem h_call (k : FuncId) (fn : Func) (xs : Array Operand) (ts : Array TypeId) (args : Array Value) (v : Value) (hw : Region.wanted o (yielded ops a.tmps) = true) (ho : o.op = .call { callee := .value (.func k), args := xs, argTypes := ts })
  (hf : P.funcs[k]? = some fn) (hn : (fn.name == "runtime.NumGoroutine") = false) (hb : fn.body.isSome = true) (ha : args = (xs.toList.map a.eval).toArray)
  (hc : ∀ w, Kp w0 w → Calls P k args w fun e w' => e = .returned v ∧ Kp w w') (h : wHead P ops n w0 fin rest (a.put o.dst v) ws) : wHead P ops n w0 fin (o :: rest) a ws :=
 .inl ⟨hw, .inl ⟨v, fun w hk => by
  unfold wAt; rw [run_enter ho hf hn hb ha w]
  exact ⟨rfl, (hc w hk).mono fun e w' ⟨he, hk'⟩ => ⟨0, he, hk', trivial⟩⟩, h⟩⟩
/-- A call of a Go function whose value hangs on the order. -/
theorem h_calls (f : Nat → Value) (D : Nat → World → Prop) (k : FuncId) (fn : Func) (xs : Array Operand) (ts : Array TypeId) (args : Array Value) (hw : Region.wanted o (yielded ops a.tmps) = true) (ho : o.op = .call { callee := .value (.func k), args := xs, argTypes := ts })
  (hf : P.funcs[k]? = some fn) (hn : (fn.name == "runtime.NumGoroutine") = false) (hb : fn.body.isSome = true) (ha : args = (xs.toList.map a.eval).toArray) (hno : noLook ops n o = true) (hst : Stable D)
  (hc : ∀ w, Kp w0 w → Calls P k args w fun e w' => ∃ g, e = .returned (f g) ∧ Kp w w' ∧ D g w') (h : wHead P ops n w0 fin rest a (ws ++ [(o.dst, f, D)])) : wHead P ops n w0 fin (o :: rest) a ws :=
 .inl ⟨hw, .inr ⟨f, D, hno, hst, fun w hk => by
  unfold wAt; rw [run_enter ho hf hn hb ha w]
  exact ⟨rfl, hc w hk⟩, h⟩⟩
/-- An operation that hands back something and lays new blocks. -/
theorem h_wild (f : Nat → Value) (D : Nat → World → Prop) (hw : Region.wanted o (yielded ops a.tmps) = true) (hno : noLook ops n o = true) (hst : Stable D)
  (hr : ∀ w, Kp w0 w → ∃ g w', (execOp a.eval o).run P w = .ok (.value (f g)) w' ∧ Kp w w' ∧ D g w') (h : wHead P ops n w0 fin rest a (ws ++ [(o.dst, f, D)])) : wHead P ops n w0 fin (o :: rest) a ws :=
 .inl ⟨hw, .inr ⟨f, D, hno, hst, fun w hk => by
  obtain ⟨g, w', hr, h1, h2⟩ := hr w hk
  unfold wAt; rw [hr]
  exact ⟨h1, g, rfl, h2⟩, h⟩⟩
def ptr (g : Nat) : Value := .pointer (some ⟨g, 0, none⟩)
/-- A block that is there, whole, and new. -/
def rowD (w0 : World) (cs : Array Value) (t : TypeId) (g : Nat) (w : World) : Prop := w0.heap.size ≤ g ∧ w.heap[g]? = some (.cells cs t (0, 0))
theorem stable_row (w0 : World) (cs : Array Value) (t : TypeId) : Stable (rowD w0 cs t) := fun g w w' h hk => ⟨h.1, (hk.block (row_lt h.2)).trans h.2⟩
theorem kp_new (w : World) (o : Obj) : Kp w (w.alloc o) := (Kp.refl w).alloc o
theorem h_load_row (ty : TypeId) (x : Operand) (g : Nat) (t : TypeId) (cs : Array Value) (fr : Nat × Nat) (d : TypeDesc) (hw : Region.wanted o (yielded ops a.tmps) = true) (ho : o.op = .load ty x) (hx : a.eval x = .pointer (some ⟨g, 0, none⟩)) (hg : w0.heap[g]? = some (.cells cs t fr))
  (hu : P.underlying ty = some d) (hd : (match d with | .struct _ | .array _ _ => true | _ => false) = true) (hi : (P.info? ty).map (·.size) = some cs.size)
  (h : wHead P ops n w0 fin rest (a.put o.dst (.agg cs)) ws) : wHead P ops n w0 fin (o :: rest) a ws :=
 h_val (.agg cs) hw (fun w hk => by
  have hg' : w.heap[g]? = some (.cells cs t fr) := (hk.block (row_lt hg)).trans hg
  unfold execOp
  simp only [ho, hx, Instr.loadAt, Instr.sureAddr, Sem.run_bind, Sem.run_pure, Result.andThen_ok, run_loadVar_row w g t ty cs fr d hg' hu hd hi]) h
theorem h_build (t : TypeId) (ps : Array (Nat × Operand)) (vs : Array (Nat × Value)) (v : Value) (hw : Region.wanted o (yielded ops a.tmps) = true) (ho : o.op = .build t ps) (hvs : vs = (ps.toList.map fun p => (p.1, a.eval p.2)).toArray) (hr : ∀ w, (Instr.build t vs).run P w = .ok v w)
  (h : wHead P ops n w0 fin rest (a.put o.dst v) ws) : wHead P ops n w0 fin (o :: rest) a ws :=
 h_val v hw (fun w _ => by
  have e : (ps.map fun p => (p.1, a.eval p.2)) = vs := by rw [hvs, ← Array.toList_map]
  unfold execOp
  simp only [ho, Sem.run_bind]
  show ((Instr.build t (ps.map fun p => (p.1, a.eval p.2))).run P w).andThen _ = _
  rw [e, hr w]; rfl) h
theorem h_alloc (ty : TypeId) (cs : Array Value) (hw : Region.wanted o (yielded ops a.tmps) = true) (ho : o.op = .alloc ty) (hr : ∀ w, (Instr.alloc ty true (.tuple #[])).run P w = .ok (.pointer (some ⟨w.heap.size, 0, none⟩)) (w.alloc (.cells cs ty))) (hno : noLook ops n o = true)
  (h : wHead P ops n w0 fin rest a (ws ++ [(o.dst, ptr, rowD w0 cs ty)])) : wHead P ops n w0 fin (o :: rest) a ws :=
 h_wild ptr (rowD w0 cs ty) hw hno (stable_row _ _ _) (fun w hk => ⟨w.heap.size, w.alloc (.cells cs ty), by unfold execOp; simp only [ho, Sem.run_bind, hr w, Sem.run_pure, Result.andThen_ok]; rfl, kp_new _ _, hk.size, heap_alloc_new w _⟩) h
end
/-! Whole variables, their cells behind a name. -/
section
variable {P : Program} {ops : Array Oper} {rest : List Oper} {o : Oper} {a : Act} {Q : Exit → Act → World → Prop}
theorem setRow_alloc (W : World) (old cs : Array Value) (t : TypeId) : (W.alloc (.cells old t)).setRow W.heap.size cs = W.alloc (.cells cs t) := by
 have h := heap_alloc_new W (.cells old t)
 have e : ∀ k : Nat, ((W.alloc (.cells old t)).setRow W.heap.size cs).heap[k]? = (W.alloc (.cells cs t)).heap[k]? := by
  intro k
  by_cases hk : k = W.heap.size
  ·subst hk; rw [setRow_heap _ _ _ _ _ _ h, heap_alloc_new]
  ·rw [setRow_other _ _ _ _ hk]
   rcases Nat.lt_or_ge k W.heap.size with hlt | hge
   ·rw [(kp_new W _).block hlt, (kp_new W _).block hlt]
   ·rw [Array.getElem?_eq_none (by simp; omega), Array.getElem?_eq_none (by simp; omega)]
 have e2 : ((W.alloc (.cells old t)).setRow W.heap.size cs).heap = (W.alloc (.cells cs t)).heap := Array.ext_getElem? e
 have e3 : ((W.alloc (.cells old t)).setRow W.heap.size cs) = { W.alloc (.cells old t) with heap := (W.alloc (.cells cs t)).heap } := by rw [← e2]; rfl
 rw [e3]; rfl
theorem alloc_law (hgd : Region.wanted o (yielded ops a.tmps) = true) (ty : TypeId) (cs : Array Value) (ho : o.op = .alloc ty) {w : World} (hr : ∀ w, (Instr.alloc ty true (.tuple #[])).run P w = .ok (.pointer (some ⟨w.heap.size, 0, none⟩)) (w.alloc (.cells cs ty)))
  (h : wpList P ops Q rest (a.put o.dst (.pointer (some ⟨w.heap.size, 0, none⟩))) (w.alloc (.cells cs ty))) : wpList P ops Q (o :: rest) a w := by
 refine BigFrame.wpList_want hgd fun K hK => ?_
 unfold Oper.wp execOp
 simp only [ho, hr w, Sem.run_bind, Sem.run_pure, Result.andThen_ok]
 exact hK _ _ h
theorem store_new (hgd : Region.wanted o (yielded ops a.tmps) = true) (ty : TypeId) (x y : Operand) (ho : o.op = .store ty x y) {W : World} {old : Array Value} {t : TypeId} (hx : a.eval x = .pointer (some ⟨W.heap.size, 0, none⟩)) (cells : Array Value) (hy : a.eval y = .agg cells)
  (hi : (P.info? ty).map (·.size) = some cells.size) (hold : old.size = cells.size) (h1 : cells.all (·.oneCell') = true)
  (h : wpList P ops Q rest (a.put o.dst undef) (W.alloc (.cells cells t))) : wpList P ops Q (o :: rest) a (W.alloc (.cells old t)) :=
 store_row hgd ty x y ho W.heap.size hx cells hy t old (heap_alloc_new W _) hi hold h1 (by rw [setRow_alloc]; exact h)
end
theorem heap_kp {w w' : World} {g : Nat} {o : Obj} (h : w.heap[g]? = some o) (k : Kp w w') : w'.heap[g]? = some o := (k.block (row_lt h)).trans h
theorem heap_new_at (W : World) (o : Obj) {k : Nat} (hk : k = W.heap.size) : (W.alloc o).heap[k]? = some o := by rw [hk]; exact heap_alloc_new W o
theorem bcell {W w1 : World} (hb : Kp W w1) : (∀ b o, b < W.heap.size → w1.cell? ⟨b, o, none⟩ = W.cell? ⟨b, o, none⟩) ∧ (∀ b o, b < W.heap.size → w1.frozen? ⟨b, o, none⟩ = W.frozen? ⟨b, o, none⟩) :=
 ⟨fun b o h => hb.cell (p := ⟨b, o, none⟩) h, fun b o h => hb.frozen (p := ⟨b, o, none⟩) h⟩
end Cwl
