/- Regions that draw their order, of operations that read, call and lay new blocks, and that end in a sequence: one walk in the text's order serves all orders. A value that hangs on the order (an address of a new block) is 'wild': told by a property alone. -/
import Derived.Test.YtcdmmfelagbpdaaKp
import Derived.StillTail
import Derived.Deep.Quiet
import Derived.BigQuiet
import Derived.Lib.QuietBelow
namespace Cwl
open Go Go.RowKit Go.Sort Ckp
set_option linter.unusedVariables false

abbrev Wild := Option Tmp × (Nat → Value) × (Nat → World → Prop)
inductive Rec where
 | det (v : Value)
 | skip
 | wild (f : Nat → Value) (D : Nat → World → Prop)
def Rec.val : Rec → Nat → Value
 | .det v, _ => v
 | .skip, _ => undef
 | .wild f _, g => f g
def Rec.tame : Rec → Bool
 | .wild _ _ => false
 | _ => true

def Rec.one : Rec → Option Tmp → List Wild
 | .wild f D, d => [(d, f, D)]
 | _, _ => []
section
variable {P : Program} {ops : Array Oper} {w0 : World} {n : Nat}

def wUpon (P : Program) (w : World) (f : Nat → Value) (D : Nat → World → Prop) : Result Next → Prop
 | .ok (.value u) w' => Kp w w' ∧ ∃ g, u = f g ∧ D g w'
 | .ok .skip w' => Kp w w' ∧ ∃ g, undef = f g ∧ D g w'
 | .ok (.enter fn args) w' => w' = w ∧ Calls P fn args w (fun e w'' => ∃ g, e = .returned (f g) ∧ Kp w w'' ∧ D g w'')
 | _ => False
def wAt (P : Program) (o : Oper) (a : Act) (w : World) (f : Nat → Value) (D : Nat → World → Prop) : Prop := wUpon P w f D ((execOp a.eval o).run P w)
def Stable (D : Nat → World → Prop) : Prop := ∀ g w w', D g w → Kp w w' → D g w'
/-- Nobody of the first n looks at this one's slot. -/
def noLook (ops : Array Oper) (n : Nat) (o : Oper) : Bool := (ops.toList.take n).all fun p => match o.dst with | some d => !(p.looksAt ops).contains d | none => true

def wHead (P : Program) (ops : Array Oper) (n : Nat) (w0 : World) (fin : Act → List Wild → Prop) : List Oper → Act → List Wild → Prop
 | [], a, ws => fin a ws
 | o :: rest, a, ws =>
  (Region.wanted o (yielded ops a.tmps) = true ∧ ((∃ v, (∀ w, Kp w0 w → wAt P o a w (fun _ => v) (fun _ _ => True)) ∧ wHead P ops n w0 fin rest (a.put o.dst v) ws)
    ∨ ∃ f D, noLook ops n o = true ∧ Stable D ∧ (∀ w, Kp w0 w → wAt P o a w f D) ∧ wHead P ops n w0 fin rest a (ws ++ [(o.dst, f, D)])))
  ∨ (Region.wanted o (yielded ops a.tmps) = false ∧ wHead P ops n w0 fin rest (a.put o.dst undef) ws)

def RecOk (P : Program) (ops : Array Oper) (n : Nat) (w0 : World) (o : Oper) (a : Act) : Rec → Prop
 | .det v => Region.wanted o (yielded ops a.tmps) = true ∧ ∀ w, Kp w0 w → wAt P o a w (fun _ => v) (fun _ _ => True)
 | .skip => Region.wanted o (yielded ops a.tmps) = false
 | .wild f D => Region.wanted o (yielded ops a.tmps) = true ∧ noLook ops n o = true ∧ Stable D ∧ ∀ w, Kp w0 w → wAt P o a w f D

def puts (L : List (Option Tmp × Value)) (a : Act) : Act := L.foldl (fun a p => a.put p.1 p.2) a
theorem puts_cons (p : Option Tmp × Value) (L : List (Option Tmp × Value)) (a : Act) : puts (p :: L) a = puts L (a.put p.1 p.2) := rfl
theorem puts_append (L M : List (Option Tmp × Value)) (a : Act) : puts (L ++ M) a = puts M (puts L a) := by unfold puts; rw [List.foldl_append]
def dstOf (ops : Array Oper) (i : Nat) : Option Tmp := (ops[i]?).bind (·.dst)
def vals (ops : Array Oper) (rs : Nat → Rec) (γ : Nat → Nat) (Is : List Nat) : List (Option Tmp × Value) := Is.map fun i => (dstOf ops i, (rs i).val (γ i))
def tameOf (rs : Nat → Rec) (k m : Nat) : List Nat := (List.range' k m).filter fun i => (rs i).tame
def wildsOf (ops : Array Oper) (rs : Nat → Rec) (k m : Nat) : List Wild := (List.range' k m).flatMap fun i => (rs i).one (dstOf ops i)

theorem extract {fin : Act → List Wild → Prop} : ∀ (l : List Oper) (k : Nat) (a : Act) (ws : List Wild), (∀ j, j < l.length → l[j]? = ops[k + j]?) → wHead P ops n w0 fin l a ws →
  ∃ rs : Nat → Rec, (∀ j o, j < l.length → ops[k + j]? = some o → RecOk P ops n w0 o (puts (vals ops rs (fun _ => 0) (tameOf rs k j)) a) (rs (k + j))) ∧
   fin (puts (vals ops rs (fun _ => 0) (tameOf rs k l.length)) a) (ws ++ wildsOf ops rs k l.length)
 | [], k, a, ws, _, h => ⟨fun _ => .skip, fun j o hj => absurd hj (Nat.not_lt_zero _), by simpa [wildsOf, tameOf, vals, puts, wHead] using h⟩
 | o :: l, k, a, ws, hl, h => by
  have h0 : ops[k]? = some o := by simpa using (hl 0 (by simp)).symm
  have hd : dstOf ops k = o.dst := by unfold dstOf; rw [h0]; rfl
  have hl' : ∀ j, j < l.length → l[j]? = ops[k + 1 + j]? := fun j hj => by
   have := hl (j + 1) (by simp; omega)
   simpa [Nat.add_assoc, Nat.add_comm 1 j] using this
  -- one record ahead of the others
  have glue : ∀ (r : Rec) (a' : Act) (ws' : List Wild), RecOk P ops n w0 o a r → (r.tame = true → a' = a.put o.dst (r.val 0)) → (r.tame = false → a' = a) →
    (ws' = ws ++ r.one o.dst) → wHead P ops n w0 fin l a' ws' →
    ∃ rs : Nat → Rec, (∀ j o', j < (o :: l).length → ops[k + j]? = some o' → RecOk P ops n w0 o' (puts (vals ops rs (fun _ => 0) (tameOf rs k j)) a) (rs (k + j))) ∧
     fin (puts (vals ops rs (fun _ => 0) (tameOf rs k (o :: l).length)) a) (ws ++ wildsOf ops rs k (o :: l).length) := by
   intro r a' ws' hr ht hw hws hrest
   obtain ⟨rs, h1, h2⟩ := extract l (k + 1) a' ws' hl' hrest
   have hsame : ∀ m, tameOf (fun i => if i = k then r else rs i) (k + 1) m = tameOf rs (k + 1) m := by
    intro m
    unfold tameOf
    apply List.filter_congr
    intro x hx
    have : x ≠ k := by have := List.mem_range'_1.1 hx; omega
    simp [this]
   have hvals : ∀ m, vals ops (fun i => if i = k then r else rs i) (fun _ => 0) (tameOf rs (k + 1) m) = vals ops rs (fun _ => 0) (tameOf rs (k + 1) m) := by
    intro m
    unfold vals
    apply List.map_congr_left
    intro x hx
    have : x ≠ k := by
     have := List.mem_range'_1.1 (List.mem_filter.1 hx).1
     omega
    simp [this]
   have hput : ∀ m, puts (vals ops (fun i => if i = k then r else rs i) (fun _ => 0) (tameOf (fun i => if i = k then r else rs i) k (m + 1))) a = puts (vals ops rs (fun _ => 0) (tameOf rs (k + 1) m)) a' := by
    intro m
    have e : tameOf (fun i => if i = k then r else rs i) k (m + 1) = (if r.tame = true then [k] else []) ++ tameOf rs (k + 1) m := by
     rw [← hsame m]
     unfold tameOf
     rw [List.range'_succ, List.filter_cons]
     simp only [if_true]
     split <;> rfl
    rw [e]
    by_cases hr : r.tame = true
    ·rw [if_pos hr, ht hr]
     simp only [List.singleton_append]
     show puts ((dstOf ops k, (if k = k then r else rs k).val 0) :: vals ops _ _ _) a = _
     rw [puts_cons, hvals, hd, if_pos rfl]
    ·rw [if_neg hr, hw (by simpa using hr), List.nil_append, hvals]
   refine ⟨fun i => if i = k then r else rs i, ?_, ?_⟩
   ·intro j o' hj ho'
    cases j with
    | zero =>
     have : o' = o := by rw [Nat.add_zero, h0] at ho'; exact (Option.some.inj ho').symm
     subst this
     simpa [tameOf, vals, puts] using hr
    | succ j =>
     rw [hput j]
     have e : k + (j + 1) = k + 1 + j := by omega
     rw [e] at ho' ⊢
     have e4 : (fun i => if i = k then r else rs i) (k + 1 + j) = rs (k + 1 + j) := if_neg (by omega)
     rw [e4]
     exact h1 j o' (by simpa using hj) ho'
   ·have e1 := hput l.length
    rw [List.length_cons, e1]
    have e2 : wildsOf ops (fun i => if i = k then r else rs i) k (l.length + 1) = r.one o.dst ++ wildsOf ops rs (k + 1) l.length := by
     unfold wildsOf
     rw [List.range'_succ, List.flatMap_cons]
     have e3 : (List.range' (k + 1) l.length).flatMap (fun i => (if i = k then r else rs i).one (dstOf ops i)) = (List.range' (k + 1) l.length).flatMap (fun i => (rs i).one (dstOf ops i)) := by
      rw [List.flatMap_def, List.flatMap_def]
      congr 1
      apply List.map_congr_left
      intro x hx
      have : x ≠ k := by have := List.mem_range'_1.1 hx; omega
      simp [this]
     rw [e3]
     show (if k = k then r else rs k).one (dstOf ops k) ++ _ = _
     rw [if_pos rfl, hd]
    rw [e2, ← List.append_assoc, ← hws]
    exact h2
  rcases h with ⟨hw, h | h⟩ | ⟨hw, h⟩
  ·obtain ⟨v, h1, h2⟩ := h
   exact glue (.det v) _ ws ⟨hw, h1⟩ (fun _ => rfl) (fun h => by cases h) (by simp [Rec.one]) h2
  ·obtain ⟨f, D, h1, h2, h3, h4⟩ := h
   exact glue (.wild f D) a _ ⟨hw, h1, h2, h3⟩ (fun h => by cases h) (fun _ => rfl) rfl h4
  ·exact glue .skip _ ws hw (fun _ => rfl) (fun h => by cases h) (by simp [Rec.one]) h

/-! Slots behind puts. -/
theorem put_at (a : Act) (d : Tmp) (v : Value) : (a.put (some d) v).tmps[d]? = a.tmps[d]?.map fun _ => v := by
 simp only [Act.put, Array.getElem?_setIfInBounds]
 simp
 split
 ·rename_i h; simp [h]
 ·rename_i h; simp [Array.getElem?_eq_none (Nat.le_of_not_lt h)]
theorem put_other (a : Act) (x : Option Tmp) (t : Tmp) (v : Value) (h : x ≠ some t) : (a.put x v).tmps[t]? = a.tmps[t]? := by
 cases x with
 | none => rfl
 | some d =>
  have hne : d ≠ t := fun e => h (e ▸ rfl)
  simp [Act.put, Array.getElem?_setIfInBounds_ne hne]
theorem puts_not (L : List (Option Tmp × Value)) : ∀ (a : Act) (t : Tmp), (∀ p ∈ L, p.1 ≠ some t) → (puts L a).tmps[t]? = a.tmps[t]? := by
 induction L with
 | nil => intro a t _; rfl
 | cons p L ih =>
  intro a t h
  rw [puts_cons, ih _ t (fun q hq => h q (List.mem_cons_of_mem _ hq)), put_other _ _ _ _ (h p (List.mem_cons_self ..))]
theorem puts_defers (L : List (Option Tmp × Value)) : ∀ (a : Act), (puts L a).defers = a.defers := by
 induction L with
 | nil => intro a; rfl
 | cons p L ih => intro a; rw [puts_cons, ih]; cases hp : p.1 <;> rfl
/-- The first n slots' own places are apart. -/
def Own (ops : Array Oper) (n : Nat) : Prop := ∀ i j, i < n → j < n → i ≠ j → ∀ d, dstOf ops i = some d → dstOf ops j ≠ some d
theorem vals_at (hown : Own ops n) (rs : Nat → Rec) (γ : Nat → Nat) : ∀ (Is : List Nat) (a : Act), (∀ i ∈ Is, i < n) → Is.Nodup → ∀ i t, i ∈ Is → dstOf ops i = some t →
  (puts (vals ops rs γ Is) a).tmps[t]? = a.tmps[t]?.map fun _ => (rs i).val (γ i)
 | [], a, _, _, i, t, hi, _ => by cases hi
 | x :: Is, a, hn, hd, i, t, hi, ht => by
  show (puts ((dstOf ops x, (rs x).val (γ x)) :: vals ops rs γ Is) a).tmps[t]? = _
  rw [puts_cons]
  rw [List.nodup_cons] at hd
  rcases List.mem_cons.1 hi with rfl | hi'
  ·rw [puts_not]
   ·rw [ht]; exact put_at a t _
   ·intro p hp
    obtain ⟨j, hj, rfl⟩ := List.mem_map.1 hp
    have hne : i ≠ j := fun e => hd.1 (e ▸ hj)
    exact hown i j (hn _ (List.mem_cons_self ..)) (hn _ (List.mem_cons_of_mem _ hj)) hne t ht
  ·rw [vals_at hown rs γ Is _ (fun j hj => hn j (List.mem_cons_of_mem _ hj)) hd.2 i t hi' ht]
   have hne : i ≠ x := fun e => hd.1 (e ▸ hi')
   rw [put_other _ _ _ _ (hown i x (hn _ hi) (hn _ (List.mem_cons_self ..)) hne t ht)]
theorem vals_not (rs : Nat → Rec) (γ : Nat → Nat) (Is : List Nat) (a : Act) (t : Tmp) (h : ∀ i ∈ Is, dstOf ops i ≠ some t) : (puts (vals ops rs γ Is) a).tmps[t]? = a.tmps[t]? :=
 puts_not _ a t fun p hp => by
  obtain ⟨j, hj, rfl⟩ := List.mem_map.1 hp
  exact h j hj
theorem act_ext {a b : Act} (h1 : a.defers = b.defers) (h2 : ∀ t : Nat, a.tmps[t]? = b.tmps[t]?) : a = b := by
 cases a; cases b
 simp only at h1 h2
 subst h1
 congr
 exact Array.ext_getElem? h2
/-- The same slots written with the same values. -/
theorem vals_same (hown : Own ops n) (rs : Nat → Rec) (γ : Nat → Nat) {Is Js : List Nat} (a : Act) (hI : ∀ i ∈ Is, i < n) (hdI : Is.Nodup) (hJ : ∀ i ∈ Js, i < n) (hdJ : Js.Nodup) (h : ∀ i, i ∈ Is ↔ i ∈ Js) :
  puts (vals ops rs γ Is) a = puts (vals ops rs γ Js) a := by
 refine act_ext (by rw [puts_defers, puts_defers]) fun t => ?_
 by_cases ht : ∃ i ∈ Is, dstOf ops i = some t
 ·obtain ⟨i, hi, hd⟩ := ht
  rw [vals_at hown rs γ Is a hI hdI i t hi hd, vals_at hown rs γ Js a hJ hdJ i t ((h i).1 hi) hd]
 ·rw [vals_not rs γ Is a t (fun i hi hd => ht ⟨i, hi, hd⟩), vals_not rs γ Js a t (fun i hi hd => ht ⟨i, (h i).2 hi, hd⟩)]

theorem exec_same (o : Oper) (hs : ∀ cs b, o.op ≠ .select cs b) (a a' : Act) (h : ∀ t ∈ o.looksAt ops, a.tmps[t]? = a'.tmps[t]?) : execOp a.eval o = execOp a'.eval o :=
 execOp_congr o hs fun x hx => by
  cases x with
  | tmp t =>
   have := h t (List.mem_append_left _ (List.mem_filterMap.2 ⟨.tmp t, by simpa using hx, rfl⟩))
   simp only [Act.eval, Array.getD_eq_getD_getElem?, this]
  | _ => rfl
theorem wanted_same (o : Oper) (a a' : Act) (h : ∀ t ∈ o.looksAt ops, a.tmps[t]? = a'.tmps[t]?) : Region.wanted o (yielded ops a.tmps) = Region.wanted o (yielded ops a'.tmps) := by
 unfold Region.wanted
 cases hg : o.guard with
 | none => rfl
 | some gw =>
  obtain ⟨g, want⟩ := gw
  have hy : yielded ops a.tmps g = yielded ops a'.tmps g := by
   unfold yielded
   cases ht : (ops[g]?).bind (·.dst) with
   | none => rfl
   | some t => have h5 := h t (by simp [Oper.looksAt, hg, ht]); simp [h5]
  simp only [hy]
theorem RecOk.move {o : Oper} {a a' : Act} {r : Rec} (hs : ∀ cs b, o.op ≠ .select cs b) (h : ∀ t ∈ o.looksAt ops, a.tmps[t]? = a'.tmps[t]?) (hr : RecOk P ops n w0 o a r) : RecOk P ops n w0 o a' r := by
 have e1 := exec_same o hs a a' h
 have e2 := wanted_same o a a' h
 cases r <;> simp only [RecOk, wAt] at hr ⊢ <;> rw [← e2] <;> (try rw [← e1]) <;> exact hr

/-- What the frame of a region's first n operations must be. -/
structure Shape (ops : Array Oper) (n : Nat) : Prop where
 sel : Region.noSelect ops = true
 size : n < ops.size
 sink : Region.sinkB .any ops n = true
 chain : Region.chainB .any ops n = true
 own : Own ops n
 up : ∀ i o, i < n → ops[i]? = some o → ∀ e ∈ o.after, Region.binds .any e = true → e.on < i
 pair : ∀ i j oi oj, i < j → j < n → ops[i]? = some oi → ops[j]? = some oj → Region.waitsFor .any ops j i = true ∨ oi.apart ops oj = true
def pairB (ops : Array Oper) (n : Nat) : Bool := (List.range n).all fun j => (List.range j).all fun i =>
 match ops[i]?, ops[j]? with
 | some oi, some oj => Region.waitsFor .any ops j i || oi.apart ops oj
 | _, _ => true
def ownB (ops : Array Oper) (n : Nat) : Bool := (List.range n).all fun j => (List.range j).all fun i => match dstOf ops i, dstOf ops j with | some d, some e => d != e | _, _ => true
def upB (ops : Array Oper) (n : Nat) : Bool := (List.range n).all fun i => match ops[i]? with | some o => o.after.all (fun e => !Region.binds .any e || decide (e.on < i)) | none => true
def headDone (ops : Array Oper) (n : Nat) : Array Bool := ((List.range ops.size).map fun i => decide (i < n)).toArray
def shapeB (ops : Array Oper) (n : Nat) : Bool := Region.noSelect ops && decide (n < ops.size) && Region.sinkB .any ops n && Region.chainB .any ops n && ownB ops n && pairB ops n && upB ops n
theorem shape_of (h : shapeB ops n = true) : Shape ops n := by
 simp only [shapeB, Bool.and_eq_true, decide_eq_true_eq] at h
 obtain ⟨⟨⟨⟨⟨⟨h1, h2⟩, h3⟩, h4⟩, h5⟩, h6⟩, h7⟩ := h
 have ho : ∀ i j, i < j → j < n → ∀ d, dstOf ops i = some d → dstOf ops j ≠ some d := by
  intro i j hij hj d hd he
  have := List.all_eq_true.1 (List.all_eq_true.1 h5 j (List.mem_range.2 hj)) i (List.mem_range.2 hij)
  simp [hd, he] at this
 refine ⟨h1, h2, h3, h4, ?_, ?_, ?_⟩
 ·intro i j hi hj hne d hd he
  rcases Nat.lt_or_ge i j with h | h
  ·exact ho i j h hj d hd he
  ·exact ho j i (by omega) hi d he hd
 ·intro i o hi ho e he hb
  have := List.all_eq_true.1 h7 i (List.mem_range.2 hi)
  simp only [ho] at this
  have := Array.all_eq_true'.1 this e he
  simpa [hb] using this
 ·intro i j oi oj hij hj hi' hj'
  have := List.all_eq_true.1 (List.all_eq_true.1 h6 j (List.mem_range.2 hj)) i (List.mem_range.2 hij)
  simp only [hi', hj', Bool.or_eq_true] at this
  exact this
theorem wait_of {i j : Nat} {oj : Oper} (hj : ops[j]? = some oj) (h : Region.waitsFor .any ops j i = true) : ∃ e ∈ oj.after, Region.binds .any e = true ∧ e.on = i := by
 obtain ⟨oj', h1, h2⟩ := Region.waitsFor_spec h
 rw [hj] at h1
 injection h1 with h1
 subst h1
 exact h2

/-- Where the walk in any order stands. -/
structure St (ops : Array Oper) (n : Nat) (rs : Nat → Rec) (w0 : World) (a0 : Act) (listed : Array Bool) (r : Act) (w : World) (Is : List Nat) (γ : Nat → Nat) : Prop where
 inv : HeadInv .any ops n listed
 nodup : Is.Nodup
 mem : ∀ i, i ∈ Is ↔ i < n ∧ listed.getD i true = true
 act : r = puts (vals ops rs γ Is) a0
 kp : Kp w0 w
 wild : ∀ i ∈ Is, ∀ f D, rs i = .wild f D → D (γ i) w
theorem getD_true_false {listed : Array Bool} {i : Nat} (hi : i < listed.size) : listed.getD i true = listed.getD i false := by
 simp [hi]
theorem Oper.wp_of_wAt {o : Oper} {a : Act} {f : Nat → Value} {D : Nat → World → Prop} {K' : Act → World → Prop} {Q' : Exit → Act → World → Prop} {w : World}
  (h : wAt P o a w f D) (hk : ∀ g w', Kp w w' → D g w' → K' (a.put o.dst (f g)) w') : o.wp P a w K' Q' := by
 unfold wAt at h
 unfold Oper.wp
 generalize (execOp a.eval o).run P w = r at *
 cases r with
 | ok nx w' =>
  cases nx <;> simp only [wUpon] at h <;> simp only [Oper.upon]
  case value u =>
   obtain ⟨h1, g, rfl, h2⟩ := h
   exact hk g w' h1 h2
  case skip =>
   obtain ⟨h1, g, e, h2⟩ := h
   rw [e]
   exact hk g w' h1 h2
  case enter fn args =>
   obtain ⟨rfl, hc⟩ := h
   exact hc.mono fun e w'' ⟨g, he, h1, h2⟩ => by subst he; exact hk g w'' h1 h2
 | halt x w' => simp only [wUpon] at h

theorem agree {rs : Nat → Rec} {a0 : Act} (hS : Shape ops n) (hrs : ∀ j o, j < n → ops[j]? = some o → RecOk P ops n w0 o (puts (vals ops rs (fun _ => 0) (tameOf rs 0 j)) a0) (rs j))
  {listed : Array Bool} {r : Act} {w : World} {Is : List Nat} {γ : Nat → Nat} (st : St ops n rs w0 a0 listed r w Is γ) {j : Nat} {oj : Oper} (hj : ops[j]? = some oj) (hr : j ∈ Region.ready .any ops listed) (hjn : j < n) :
  ∀ t ∈ oj.looksAt ops, (puts (vals ops rs (fun _ => 0) (tameOf rs 0 j)) a0).tmps[t]? = r.tmps[t]? := by
 intro t ht
 obtain ⟨hun, oj', hoj', hall⟩ := mem_ready.1 hr
 have : oj' = oj := Option.some.inj (hoj'.symm.trans hj)
 subst this
 have hsz : ∀ i, i < n → i < listed.size := fun i hi => by rw [st.inv.size]; have := hS.size; omega
 have hIn : ∀ i ∈ Is, i < n := fun i hi => ((st.mem i).1 hi).1
 have htn : ∀ i ∈ tameOf rs 0 j, i < n := fun i hi => by
  have := List.mem_range'_1.1 (List.mem_filter.1 hi).1
  omega
 have htd : (tameOf rs 0 j).Nodup := List.Pairwise.filter _ (List.nodup_range' (s := 0) (n := j))
 rw [st.act]
 by_cases hex : ∃ i, i < n ∧ dstOf ops i = some t
 ·obtain ⟨i, hi, hd⟩ := hex
  have uniq : ∀ k, k < n → dstOf ops k = some t → k = i := fun k hk hdk => by
   rcases Nat.decEq k i with h | h
   ·exact absurd hd (hS.own k i hk hi h t hdk)
   ·exact h
  have hoi : ∃ oi, ops[i]? = some oi := ⟨_, Array.getElem?_eq_getElem (by have := hS.size; omega)⟩
  obtain ⟨oi, hoi⟩ := hoi
  have hdi : oi.dst = some t := by unfold dstOf at hd; rw [hoi] at hd; exact hd
  have hnotap : ∀ hap : oi.apart ops oj' = true, False := fun hap => (Oper.apart_spec hap).1 t hdi ht
  have hnotap' : ∀ hap : oj'.apart ops oi = true, False := fun hap => (Oper.apart_spec hap).2.2 t hdi ht
  have htame : (rs i).tame = true := by
   cases hri : rs i with
   | det v => rfl
   | skip => rfl
   | wild f D =>
    have h1 := hrs i oi hi hoi
    rw [hri] at h1
    have h2 := h1.2.1
    unfold noLook at h2
    have hmem : oj' ∈ ops.toList.take n := by
     refine List.mem_iff_getElem?.2 ⟨j, ?_⟩
     rw [List.getElem?_take, if_pos hjn]
     simpa using hj
    have h3 := List.all_eq_true.1 h2 oj' hmem
    simp only [hdi] at h3
    simp at h3
    exact absurd ht h3
  have hij : i ≠ j ∨ i = j := by omega
  rcases Nat.lt_trichotomy i j with hlt | heq | hgt
  ·-- i waits before j
   have hp := hS.pair i j oi oj' hlt hjn hoi hj
   have hwt : Region.waitsFor .any ops j i = true := by
    rcases hp with h | h
    ·exact h
    ·exact (hnotap h).elim
   obtain ⟨e, he, hb, hon⟩ := wait_of hj hwt
   have hli := hall e he hb
   rw [hon] at hli
   have hiI : i ∈ Is := (st.mem i).2 ⟨hi, by rw [getD_true_false (hsz i hi)]; exact hli⟩
   have hiT : i ∈ tameOf rs 0 j := List.mem_filter.2 ⟨List.mem_range'_1.2 ⟨by omega, by omega⟩, htame⟩
   rw [vals_at hS.own rs γ Is a0 hIn st.nodup i t hiI hd, vals_at hS.own rs _ _ a0 htn htd i t hiT hd]
   cases hri : rs i with
   | det v => rfl
   | skip => rfl
   | wild f D => rw [hri] at htame; cases htame
  ·subst heq
   rw [vals_not rs γ Is a0 t, vals_not rs _ _ a0 t]
   ·intro k hk hdk
    have := uniq k (htn k hk) hdk
    have := List.mem_range'_1.1 (List.mem_filter.1 hk).1
    omega
   ·intro k hk hdk
    have := uniq k (hIn k hk) hdk
    subst this
    have h1 := ((st.mem _).1 hk).2
    rw [hun] at h1; cases h1
  ·have hp := hS.pair j i oj' oi hgt hi hj hoi
   have hwt : Region.waitsFor .any ops i j = true := by
    rcases hp with h | h
    ·exact h
    ·exact (hnotap' h).elim
   rw [vals_not rs γ Is a0 t, vals_not rs _ _ a0 t]
   ·intro k hk hdk
    have := uniq k (htn k hk) hdk
    have := List.mem_range'_1.1 (List.mem_filter.1 hk).1
    omega
   ·intro k hk hdk
    have := uniq k (hIn k hk) hdk
    subst this
    obtain ⟨e, he, hb, hon⟩ := wait_of hoi hwt
    have h1 := ((st.mem _).1 hk).2
    rw [getD_true_false (hsz _ hi)] at h1
    have h2 := st.inv.closed _ oi hoi h1 e he hb
    rw [hon, getD_both hun] at h2
    cases h2
 ·rw [vals_not rs γ Is a0 t, vals_not rs _ _ a0 t]
  ·intro k hk hdk; exact hex ⟨k, htn k hk, hdk⟩
  ·intro k hk hdk; exact hex ⟨k, hIn k hk, hdk⟩
def left (n : Nat) (listed : Array Bool) : Nat := (List.range n).countP fun i => listed.getD i true == false
theorem countP_one {p q : Nat → Bool} {i : Nat} (hp : p i = true) (hq : ∀ j, j ≠ i → q j = p j) (hqi : q i = false) : ∀ {l : List Nat}, l.Nodup → i ∈ l → l.countP p = l.countP q + 1
 | [], _, h => by cases h
 | x :: l, hd, h => by
  rw [List.nodup_cons] at hd
  by_cases hx : x = i
  ·subst hx
   have e : l.countP q = l.countP p := by
    apply List.countP_congr
    intro y hy
    rw [hq y (fun e => hd.1 (e ▸ hy))]
   rw [List.countP_cons, List.countP_cons, hp, hqi, e]; simp
  ·have hm : i ∈ l := by rcases List.mem_cons.1 h with h | h; exact absurd h.symm hx; exact h
   rw [List.countP_cons, List.countP_cons, hq x hx, countP_one hp hq hqi hd.2 hm]; omega
theorem least (p : Nat → Prop) (hp : ∀ i, p i ∨ ¬ p i) : ∀ k, (∃ i, i < k ∧ p i) → ∃ i, i < k ∧ p i ∧ ∀ j, j < i → ¬ p j
 | 0, ⟨i, h, _⟩ => by omega
 | k + 1, ⟨i, h, hi⟩ => by
  rcases hp i with _ | h0
  ·by_cases he : ∃ j, j < k ∧ p j
   ·obtain ⟨j, h1, h2, h3⟩ := least p hp k he
    exact ⟨j, by omega, h2, h3⟩
   ·have : i = k := by
     rcases Nat.lt_or_ge i k with h4 | h4
     ·exact absurd ⟨i, h4, hi⟩ he
     ·omega
    subst this
    exact ⟨i, by omega, hi, fun j hj hpj => he ⟨j, hj, hpj⟩⟩
  ·exact absurd hi h0

theorem head_any {rs : Nat → Rec} {a0 : Act} {g : Nat} {Q' : Exit → Act → World → Prop} (hS : Shape ops n) (hrs : ∀ j o, j < n → ops[j]? = some o → RecOk P ops n w0 o (puts (vals ops rs (fun _ => 0) (tameOf rs 0 j)) a0) (rs j))
  (hend : ∀ r w γ, Kp w0 w → (∀ i, i < n → ∀ f D, rs i = .wild f D → D (γ i) w) → r = puts (vals ops rs γ (List.range' 0 n)) a0 → wpAny P .any ops Q' g (headDone ops n) r w) :
  ∀ (f : Nat) (listed : Array Bool) (r : Act) (w : World) (Is : List Nat) (γ : Nat → Nat), St ops n rs w0 a0 listed r w Is γ → left n listed = f → wpAny P .any ops Q' (f + g) listed r w
 | 0, listed, r, w, Is, γ, st, hf => by
  have hall : ∀ i, i < n → listed.getD i true = true := fun i hi => by
   have := List.countP_eq_zero.1 hf i (List.mem_range.2 hi)
   simpa using this
  have hl : listed = headDone ops n := by
   apply Array.ext_getElem?
   intro i
   unfold headDone
   by_cases hi : i < ops.size
   ·have hi' : i < listed.size := by rw [st.inv.size]; exact hi
    rw [Array.getElem?_eq_getElem hi']
    by_cases hin : i < n
    ·have := hall i hin
     simp [hi'] at this
     simp [hi, hin, this]
    ·have := st.inv.tail i (by omega) hi
     simp [hi'] at this
     simp [hi, hin, this]
   ·rw [Array.getElem?_eq_none (by rw [st.inv.size]; omega)]
    exact (Array.getElem?_eq_none (by simp; omega)).symm
  have hmem : ∀ i, i ∈ Is ↔ i ∈ List.range' 0 n := fun i => by
   rw [st.mem, List.mem_range'_1]
   exact ⟨fun h => ⟨by omega, by omega⟩, fun h => ⟨by omega, hall i (by omega)⟩⟩
  rw [Nat.zero_add, hl]
  refine hend r w γ st.kp (fun i hi f D e => st.wild i ((hmem i).2 (List.mem_range'_1.2 ⟨by omega, by omega⟩)) f D e) ?_
  rw [st.act]
  exact vals_same hS.own rs γ a0 (fun i hi => ((st.mem i).1 hi).1) st.nodup (fun i hi => by have := List.mem_range'_1.1 hi; omega) List.nodup_range' hmem
 | f + 1, listed, r, w, Is, γ, st, hf => by
  have hsz : ∀ i, i < n → i < listed.size := fun i hi => by rw [st.inv.size]; have := hS.size; omega
  have hex : ∃ i, i < n ∧ listed.getD i true = false := by
   have : 0 < left n listed := by omega
   obtain ⟨i, hi, h⟩ := List.countP_pos_iff.1 this
   exact ⟨i, List.mem_range.1 hi, by simpa using h⟩
  obtain ⟨i, hi, hun, hlow⟩ := least (fun i => listed.getD i true = false) (fun i => by cases listed.getD i true <;> simp) n hex
  have hri : i ∈ Region.ready .any ops listed := by
   have hoi := Array.getElem?_eq_getElem (show i < ops.size by have := hS.size; omega)
   refine mem_ready.2 ⟨hun, _, hoi, fun e he hb => ?_⟩
   have h1 := hS.up i _ hi hoi e he hb
   have h2 := hlow _ h1
   rw [← getD_true_false (hsz _ (by omega))]
   simpa using h2
  rw [show f + 1 + g = (f + g) + 1 by omega]
  refine ⟨fun h => (by rw [h] at hri; cases hri), fun j hj => ?_⟩
  have hjn : j < n := by
   rcases Nat.lt_or_ge j n with h | h
   ·exact h
   ·exact absurd hj (tail_waits hS.sink hS.chain hS.size st.inv _ i rfl hi hun j h)
  obtain ⟨hjun, oj, hoj, hall⟩ := mem_ready.1 hj
  have hjI : j ∉ Is := fun h => by have := ((st.mem j).1 h).2; rw [hjun] at this; cases this
  have hag := agree hS hrs st hoj hj hjn
  have hok := (hrs j oj hjn hoj).move (Region.noSelect_spec hS.sel j oj · · hoj) hag
  have hdst : dstOf ops j = oj.dst := by unfold dstOf; rw [hoj]; rfl
  -- the state behind it
  have next : ∀ (gv : Nat) (w' : World), Kp w w' → (∀ f D, rs j = .wild f D → D gv w') → wpAny P .any ops Q' (f + g) (listed.setIfInBounds j true) (r.put oj.dst ((rs j).val gv)) w' := by
   intro gv w' hk hD
   have hne : ∀ k ∈ Is, k ≠ j := fun k hk e => hjI (e ▸ hk)
   refine head_any hS hrs hend f _ _ w' (Is ++ [j]) (fun k => if k = j then gv else γ k) ⟨st.inv.set hj hjn, ?_, ?_, ?_, st.kp.trans hk, ?_⟩ ?_
   ·rw [List.nodup_append]
    exact ⟨st.nodup, by simp, fun a ha b hb => by rw [List.mem_singleton] at hb; subst hb; exact hne a ha⟩
   ·intro k
    rw [List.mem_append, List.mem_singleton, st.mem]
    by_cases hkj : k = j
    ·subst hkj
     simp [hjn, hsz _ hjn]
    ·rw [getD_set_ne true (Ne.symm hkj)]
     simp [hkj]
   ·unfold vals
    rw [List.map_append, puts_append, st.act]
    have e : Is.map (fun i => (dstOf ops i, (rs i).val (if i = j then gv else γ i))) = Is.map (fun i => (dstOf ops i, (rs i).val (γ i))) := List.map_congr_left fun k hk => by rw [if_neg (hne k hk)]
    rw [e]
    show _ = puts [(dstOf ops j, (rs j).val (if j = j then gv else γ j))] _
    rw [if_pos rfl, hdst]; rfl
   ·intro k hk f D e
    rcases List.mem_append.1 hk with hk | hk
    ·have hkn := ((st.mem k).1 hk).1
     show D (if k = j then gv else γ k) w'
     rw [if_neg (hne k hk)]
     have hoi := Array.getElem?_eq_getElem (show k < ops.size by have := hS.size; omega)
     have h1 := hrs k _ hkn hoi
     rw [e] at h1
     exact h1.2.2.1 _ _ _ (st.wild k hk f D e) ‹Kp w w'›
    ·rw [List.mem_singleton] at hk
     subst hk
     show D (if k = k then gv else γ k) w'
     rw [if_pos rfl]
     exact hD f D e
   ·have := countP_one (p := fun i => listed.getD i true == false) (q := fun i => (listed.setIfInBounds j true).getD i true == false) (i := j) (by simp only [hjun]; rfl)
     (fun k hk => by simp only [getD_set_ne true (Ne.symm hk)]) (by simp [hsz _ hjn]) (List.nodup_range (n := n)) (List.mem_range.2 hjn)
    unfold left at hf ⊢
    omega
  unfold wpOp
  simp only [hoj]
  cases hr : rs j with
  | det v =>
   rw [hr] at hok next
   simp only [hok.1, if_true]
   exact .inl (Oper.wp_of_wAt (hok.2 w st.kp) fun gv w' hk _ => next gv w' hk (fun f D e => by cases e))
  | skip =>
   rw [hr] at hok next
   have hw : Region.wanted oj (yielded ops r.tmps) = false := hok
   simp only [hw, Bool.false_eq_true, if_false]
   exact next 0 w (Kp.refl w) (fun f D e => by cases e)
  | wild f' D' =>
   rw [hr] at hok next
   simp only [hok.1, if_true]
   exact .inl (Oper.wp_of_wAt (hok.2.2.2 w st.kp) fun gv w' hk hd => next gv w' hk (fun f D e => by cases e; exact hd))

/-- What is asked at the head's end: the tail, for whatever the wild ones are. -/
def finish (P : Program) (ops : Array Oper) (Q : Exit → Act → World → Prop) (tl : List Oper) : List Wild → Act → World → Prop
 | [], a, w => wpList P ops Q tl a w
 | (d, f, D) :: ws, a, w => ∀ g, D g w → finish P ops Q tl ws (a.put d (f g)) w
theorem finish_puts {Q : Exit → Act → World → Prop} {tl : List Oper} {rs : Nat → Rec} {γ : Nat → Nat} {w : World} : ∀ (Js : List Nat) (a : Act), (∀ i ∈ Js, ∀ f D, rs i = .wild f D → D (γ i) w) → finish P ops Q tl (Js.flatMap fun i => (rs i).one (dstOf ops i)) a w →
  wpList P ops Q tl (puts (vals ops rs γ (Js.filter fun i => !(rs i).tame)) a) w
 | [], a, _, h => h
 | j :: Js, a, hD, h => by
  rw [List.flatMap_cons] at h
  rw [List.filter_cons]
  have hD' := fun i hi => hD i (List.mem_cons_of_mem _ hi)
  cases hr : rs j with
  | det v => rw [hr] at h; exact finish_puts Js a hD' h
  | skip => rw [hr] at h; exact finish_puts Js a hD' h
  | wild f D =>
   rw [hr] at h
   have h1 := h (γ j) (hD j (List.mem_cons_self ..) f D hr)
   have h2 := finish_puts Js _ hD' h1
   have e : puts (vals ops rs γ (j :: Js.filter fun i => !(rs i).tame)) a = puts (vals ops rs γ (Js.filter fun i => !(rs i).tame)) (a.put (dstOf ops j) (f (γ j))) := by
    show puts ((dstOf ops j, (rs j).val (γ j)) :: vals ops rs γ _) a = _
    rw [puts_cons, hr]; rfl
   show wpList P ops Q tl (puts (vals ops rs γ (j :: Js.filter fun i => !(rs i).tame)) a) w
   rw [e]
   exact h2
end
def regionB (ops : Array Oper) (n : Nat) : Bool := shapeB ops n && Region.seqB .any ops (ops.size - n) n (headDone ops n)
/-- A region that draws its order: its first n operations walked once, in the text's order; then its tail. -/
theorem wp_region_wild {P : Program} {id : Nat} {Q : Exit → Act → World → Prop} {a : Act} {w : World} {l : List Oper} (n : Nat) (hm : P.follows .mixedOrders = true) (hB : regionB l.toArray n = true)
  (h : wHead P l.toArray n w (fun a' ws => ∀ wx, Kp w wx → finish P l.toArray Q (l.drop n) ws a' wx) (l.take n) a []) : (Code.region id l.toArray true).wp P Q a w := by
 simp only [regionB, Bool.and_eq_true] at hB
 have hS := shape_of hB.1
 have hn : n < l.length := by have := hS.size; simpa using this
 have htl : (l.take n).length = n := by simp; omega
 obtain ⟨rs, h1, h2⟩ := extract (l.take n) 0 a [] (fun j hj => by rw [htl] at hj; simp [hj]) h
 rw [htl] at h1 h2
 rw [List.nil_append] at h2
 refine wp_region_any hm ?_
 have hgo := head_any (Q' := Q) (g := l.toArray.size - n) hS (fun j o hj ho => by have := h1 j o hj (by simpa using ho); simpa using this) (fun r wx γ hk hD hr => by
  have h3 := h2 wx hk
  have h4 := finish_puts (γ := γ) (List.range' 0 n) _ (fun i hi f D e => hD i (by have := List.mem_range'_1.1 hi; omega) f D e) h3
  have e1 : vals l.toArray rs (fun _ => 0) (tameOf rs 0 n) = vals l.toArray rs γ (tameOf rs 0 n) := by
   unfold vals
   apply List.map_congr_left
   intro i hi
   have ht := (List.mem_filter.1 hi).2
   cases hri : rs i with
   | det v => rfl
   | skip => rfl
   | wild f D => rw [hri] at ht; cases ht
  rw [e1, ← puts_append] at h4
  have e2 : puts (vals l.toArray rs γ (tameOf rs 0 n) ++ vals l.toArray rs γ ((List.range' 0 n).filter fun i => !(rs i).tame)) a = r := by
   rw [hr]
   unfold vals
   rw [← List.map_append]
   refine vals_same hS.own rs γ a ?_ ?_ ?_ List.nodup_range' ?_
   ·intro i hi
    rcases List.mem_append.1 hi with hi | hi
    ·have := List.mem_range'_1.1 (List.mem_filter.1 hi).1; omega
    ·have := List.mem_range'_1.1 (List.mem_filter.1 hi).1; omega
   ·rw [List.nodup_append]
    refine ⟨List.Pairwise.filter _ List.nodup_range', List.Pairwise.filter _ List.nodup_range', fun x hx y hy e => ?_⟩
    have hx2 := (List.mem_filter.1 hx).2
    have hy2 := (List.mem_filter.1 hy).2
    subst e
    rw [hx2] at hy2; cases hy2
   ·intro i hi; have := List.mem_range'_1.1 hi; omega
   ·intro i
    rw [List.mem_append]
    unfold tameOf
    rw [List.mem_filter, List.mem_filter]
    cases (rs i).tame <;> simp
  rw [e2] at h4
  have hdl : (l.drop n).length = l.toArray.size - n := by simp
  have h5 := wpAny_of_seq (md := .any) (Q' := Q) (l.drop n) n (headDone l.toArray n) r wx (fun j => by simp [List.getElem?_drop]) (by rw [hdl]; exact hB.2) h4
  rwa [hdl] at h5) n (Array.replicate l.toArray.size false) a { w with drawn := w.drawn + 1 } [] (fun _ => 0)
  ⟨⟨by simp, fun j oj _ hl => (by rw [getD_replicate_false] at hl; cases hl), fun t _ ht => getD_in (by simpa using ht) (getD_replicate_false _ _)⟩, by simp, fun i => ⟨fun h => absurd h (by simp), fun ⟨hi, hl⟩ => by
    rw [getD_true_false (by simp; omega), getD_replicate_false] at hl
    exact absurd hl (by simp)⟩, rfl, (Kp.refl w).drew, fun i hi => absurd hi (by simp)⟩ (by
   unfold left
   rw [List.countP_eq_length.2]
   ·simp
   ·intro i hi
    have hi' := List.mem_range.1 hi
    rw [getD_true_false (by simp; omega), getD_replicate_false]; rfl)
 rw [show n + (l.toArray.size - n) = l.toArray.size by simp; omega] at hgo
 exact hgo
end Cwl
