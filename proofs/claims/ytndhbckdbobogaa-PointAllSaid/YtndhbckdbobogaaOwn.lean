/- Slices of one-cell elements: Sl: a slice that reads as a list; append to a slice that the call itself made. -/
import Derived.Test.YtndhbckdbobogaaKp
import Derived.Laws.AppendOwnNone
import Derived.Laws.OwnMore
import Derived.Maps.AppendAt
import Derived.Deep.AppendLies
import Derived.OwnWalk
namespace Ckp
open Go Go.RowKit
set_option linter.unusedVariables false

theorem add_block (a : Addr) (n : Nat) : (a.add n).block = a.block := by unfold Addr.add; split <;> rfl
theorem add_add (a : Addr) (i j : Nat) : (a.add i).add j = a.add (i + j) := by
  unfold Addr.add
  by_cases hi : i = 0 <;> by_cases hj : j = 0 <;> simp [hi, hj, Nat.add_assoc]
theorem add_zero (a : Addr) : a.add 0 = a := by unfold Addr.add; simp

/-- A slice that reads as a list of cells. -/
def Sl (w : World) (A : Option Addr) (xs : List Value) : Prop := 0 < xs.length → ∃ ad, A = some ad ∧ ad.block < w.heap.size ∧ ∀ j u, xs[j]? = some u → w.cell? (ad.add j) = some u
theorem Sl.nil (w : World) (A : Option Addr) : Sl w A [] := fun h => absurd h (by decide)
theorem Sl.keep {w w' : World} {A : Option Addr} {xs : List Value} (h : Sl w A xs) (hk : Kp w w') : Sl w' A xs := by
  intro h0
  obtain ⟨ad, e, hb, hc⟩ := h h0
  refine ⟨ad, e, Nat.lt_of_lt_of_le hb hk.size, fun j u hu => ?_⟩
  rw [hk.cell (p := ad.add j) (by rw [add_block]; exact hb)]
  exact hc j u hu
theorem Sl.row {w : World} {g : Nat} {cs : Array Value} {t : TypeId} {fr : Nat × Nat} (h : w.heap[g]? = some (.cells cs t fr)) : Sl w (some ⟨g, 0, none⟩) cs.toList := by
  intro _
  refine ⟨_, rfl, row_lt h, fun j u hu => ?_⟩
  have e : (⟨g, 0, none⟩ : Addr).add j = ⟨g, j, none⟩ := by unfold Addr.add; split <;> simp_all
  rw [e, cell_of_row w g j cs t fr h]
  simpa using hu
theorem Sl.take {w : World} {A : Option Addr} {xs : List Value} (h : Sl w A xs) (k : Nat) : Sl w A (xs.take k) := by
  intro h0
  rw [List.length_take] at h0
  obtain ⟨ad, e, hb, hc⟩ := h (by omega)
  refine ⟨ad, e, hb, fun j u hu => hc j u ?_⟩
  rw [List.getElem?_take] at hu
  split at hu
  · exact hu
  · cases hu
theorem Sl.drop {w : World} {A : Option Addr} {xs : List Value} (h : Sl w A xs) (k : Nat) : Sl w (A.map (·.add k)) (xs.drop k) := by
  intro h0
  rw [List.length_drop] at h0
  obtain ⟨ad, rfl, hb, hc⟩ := h (by omega)
  refine ⟨ad.add k, rfl, by rw [add_block]; exact hb, fun j u hu => ?_⟩
  rw [add_add]
  exact hc _ u (by rw [← hu, List.getElem?_drop])
theorem Sl.cut {w : World} {A : Option Addr} {xs : List Value} (h : Sl w A xs) (k cap : Nat) (hc : xs.length ≤ cap) : Sl w (if cap = k then A else Option.map (fun x => x.add k) A) (xs.drop k) := by
  by_cases e : cap = k
  · rw [if_pos e, List.drop_eq_nil_of_le (by omega)]; exact Sl.nil w A
  · rw [if_neg e]; exact h.drop k
theorem Sl.of_own {w : World} {base : Nat} {e : TypeId} {A : Option Addr} {n c : Nat} {xs : List Value} (h : w.ownsRow base e 1 (.slice A n c) n xs) : Sl w A xs := by
  intro h0
  have hn : 0 < n := by have := h.1; omega
  obtain ⟨g, cap, hv, _, hlt⟩ := h.form hn
  have hA : A = some ⟨g, 0, none⟩ := by injection hv
  subst hA
  exact ⟨_, rfl, hlt, h.cells (g := g) rfl⟩

/-- A slice type's row of the program's tables: its elements' type, zero, bytes. -/
structure SlT (P : Program) (t e : TypeId) (z : Value) (bytes : Nat) : Prop where
  ht : P.underlying t = some (.slice e)
  hi : (P.info? e).map (fun i => (i.zero, i.size, i.bytes)) = some (some z, 1, bytes)
  hz : z.cells.size = 1

theorem own_kp {w0 w w' : World} {e : TypeId} {n : Nat} {v : Value} {xs : List Value} (hK : Kp w0 w) (hown : w.ownsRow w0.heap.size e 1 v n xs) (hg : w.grownBy w' v.ownBlock) : Kp w0 w' :=
  Below.grown hK hg hK.size (fun k hk => (hown.lt k hk).1)

theorem append_sl {P : Program} {t e : TypeId} {z : Value} {bytes : Nat} (T : SlT P t e z bytes) {w : World} {ops : Array Oper} {rest : List Oper} {o : Oper} {a : Act} {Q : Exit → Act → World → Prop} (hgd : o.guard = none) (s x : Operand)
    (ho : o.op = .call { callee := .builtin .append, args := #[s, x], argTypes := #[t, t] })
    (w0 : World) (hK : Kp w0 w) (v : Value) (n : Nat) (xs : List Value) (hs : a.eval s = v) (hown : w.ownsRow w0.heap.size e 1 v n xs)
    (A : Option Addr) (m c : Nat) (news : List Value) (hx : a.eval x = .slice A m c) (hm : news.length = m) (hr : Sl w A news) (hnone : A = none → c = 0) (h1 : ∀ u ∈ news, u.oneCell' = true)
    (h63 : n + m ≤ maxLen) (hbytes : (n + m) * bytes ≤ 140737488355328)
    (h : ∀ v' w', w'.ownsRow w0.heap.size e 1 v' (n + m) (xs ++ news) → Kp w0 w' → w.grownBy w' v.ownBlock → (v'.ownBlock = v.ownBlock ∨ v'.ownBlock = some w.heap.size) → wpList P ops Q rest (a.put o.dst v') w') :
    wpList P ops Q (o :: rest) a w := by
  obtain ⟨i, hi, hz0, hz1, hz2⟩ := info_parts T.hi
  cases A with
  | none =>
    have hc := hnone rfl
    subst hc
    have hm0 : news = [] := by
      cases news with
      | nil => rfl
      | cons y ys => obtain ⟨ad, e, _⟩ := hr (by simp); cases e
    subst hm0
    have hm' : m = 0 := by simpa using hm.symm
    subst hm'
    refine wpList_append_own_none hgd s x t ho w0.heap.size e i 1 T.ht hi v n xs hs hown hx ?_
    exact h v w (by simpa using hown) hK ⟨rfl, rfl, rfl, Nat.le_refl _, fun _ _ _ => rfl⟩ (Or.inl rfl)
  | some ad =>
    refine wpList_append_own_at w hgd s x t ho w0.heap.size e i z 1 bytes T.ht hi hz0 hz1 hz2 T.hz (by decide) v n xs hs hown ad m c news hx (by rw [hm, Nat.mul_one]) ?_ h1 h63 hbytes hK.size ?_
    · intro j u hu
      have h0 : 0 < news.length := by
        rcases Nat.eq_zero_or_pos news.length with h2 | h2
        · rw [List.eq_nil_of_length_eq_zero h2] at hu; simp at hu
        · exact h2
      obtain ⟨ad', e1, _, hc⟩ := hr h0
      injection e1 with e1
      subst e1
      exact hc j u hu
    · intro v' w' ho' hg _ hat
      exact h v' w' ho' (own_kp hK hown hg) hg hat
end Ckp
