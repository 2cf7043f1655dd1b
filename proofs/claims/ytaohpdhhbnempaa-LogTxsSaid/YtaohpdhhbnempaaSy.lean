/- A symbolic machine over the model, and that what it reckons is so: no statement of the program itself. -/
import Derived.Test.YtaohpdhhbnempaaSw
import Derived.Scope
import Derived.LoopN
set_option linter.unusedVariables false
set_option linter.unusedSimpArgs false
/- The walk: what is to be shown of a piece of code, reckoned out of its text. -/
namespace Sx
open Go
set_option linter.unusedVariables false
set_option linter.unusedSimpArgs false

/-! What is ahead of what in a region. -/
def bitsOf (acc : List Nat) (o : Oper) : Nat := o.after.toList.foldl (fun s e => match Region.binds .any e with
 | true => (s ||| 2 ^ e.on) ||| acc.getD e.on 0
 | false => s) 0
def befGo (acc : List Nat) : List Oper → List Nat
 | [] => acc
 | o :: rest => befGo (acc ++ [bitsOf acc o]) rest
def befOf (bs : List Nat) (j i : Nat) : Bool := Nat.testBit (bs.getD j 0) i
theorem befGo_acc : ∀ (l : List Oper) (acc : List Nat) (j : Nat), j < acc.length → (befGo acc l).getD j 0 = acc.getD j 0
 | [], _, _, _ => rfl
 | o :: l, acc, j, h => by
  rw [befGo, befGo_acc l _ j (by simp; omega)]
  simp [List.getD, List.getElem?_append_left h]
theorem befGo_at : ∀ (l : List Oper) (acc : List Nat) (k : Nat) (o : Oper), l[k]? = some o → ∃ acc', (∀ j, j < acc.length + k → acc'.getD j 0 = (befGo acc l).getD j 0) ∧ (∀ j, acc.length + k ≤ j → acc'.getD j 0 = 0) ∧ (befGo acc l).getD (acc.length + k) 0 = bitsOf acc' o
 | [], _, _, _, h => by simp at h
 | o' :: l, acc, 0, o, h => by
  simp only [List.getElem?_cons_zero, zsI] at h
  subst h
  refine ⟨acc, fun j hj => ?_, fun j hj => by simp [List.getD, List.getElem?_eq_none (by omega : acc.length ≤ j)], ?_⟩
  ·rw [befGo, befGo_acc l _ j (by simp; omega)]
   simp [List.getD, List.getElem?_append_left (by omega : j < acc.length)]
  ·rw [befGo, befGo_acc l _ _ (by simp)]
   simp [List.getD]
 | o' :: l, acc, k + 1, o, h => by
  obtain ⟨acc', h1, h2, h3⟩ := befGo_at l (acc ++ [bitsOf acc o']) k o (by simpa using h)
  simp only [zlA, List.length_singleton] at h1 h2 h3
  refine ⟨acc', fun j hj => h1 j (by omega), fun j hj => h2 j (by omega), ?_⟩
  rw [befGo]
  rw [show acc.length + (k + 1) = acc.length + 1 + k by omega]
  exact h3
theorem bits_spec {acc : List Nat} {i : Nat} : ∀ (es : List Edge) (s : Nat), Nat.testBit (es.foldl (fun s e => match Region.binds .any e with
  | true => (s ||| 2 ^ e.on) ||| acc.getD e.on 0
  | false => s) s) i = true → Nat.testBit s i = true ∨ ∃ e ∈ es, Region.binds .any e = true ∧ (e.on = i ∨ Nat.testBit (acc.getD e.on 0) i = true)
 | [], s, h => .inl h
 | e :: es, s, h => by
  rw [List.foldl_cons] at h
  rcases bits_spec es _ h with h1 | ⟨e', he, h2⟩
  ·cases hb : Region.binds .any e with
   | false => rw [hb] at h1; exact .inl h1
   | true =>
    rw [hb] at h1
    simp only [Nat.testBit_or, Bool.or_eq_true, Nat.testBit_two_pow] at h1
    rcases h1 with (h1 | h1) | h1
    ·exact .inl h1
    ·exact .inr ⟨e, List.mem_cons_self .., hb, .inl (by simpa using h1)⟩
    ·exact .inr ⟨e, List.mem_cons_self .., hb, .inr h1⟩
  ·exact .inr ⟨e', List.mem_cons_of_mem _ he, h2⟩
def upOk (l : List Oper) : Nat → Bool
 | k => (l.zipIdx k).all fun p => p.1.after.all fun e => !Region.binds .any e || Nat.blt e.on p.2
def pairsOk (ops : Array Oper) (bs : List Nat) (j : Nat) (oj : Oper) (rj : Rec) : List (Oper × Rec) → Nat → Bool
 | [], _ => true
 | (oi, ri) :: rest, i => (befOf bs j i || (oi.apart ops oj && memApart ri rj && memApart rj ri)) && pairsOk ops bs j oj rj rest (i + 1)
def confGo (ops : Array Oper) (bs : List Nat) (B : Nat) (all : List (Oper × Rec)) : List (Oper × Rec) → Nat → Bool
 | [], _ => true
 | (o, r) :: rest, j => recOk B (befOf bs) j r && pairsOk ops bs j o r (all.take j) 0 && confGo ops bs B all rest (j + 1)
def confB (ops : List Oper) (recs : List Rec) (B : Nat) : Bool := upOk ops 0 && confGo ops.toArray (befGo [] ops) B (ops.zip recs) (ops.zip recs) 0
theorem pairsOk_spec {ops : Array Oper} {bs : List Nat} {j : Nat} {oj : Oper} {rj : Rec} : ∀ (l : List (Oper × Rec)) (k : Nat), pairsOk ops bs j oj rj l k = true → ∀ i p, l[i]? = some p → befOf bs j (k + i) = true ∨ (p.1.apart ops oj = true ∧ memApart p.2 rj = true ∧ memApart rj p.2 = true)
 | [], _, _, i, p, hi => by simp at hi
 | q :: l, k, h, i, p, hi => by
  obtain ⟨oi, ri⟩ := q
  simp only [pairsOk, zaT, Bool.or_eq_true] at h
  cases i with
  | zero =>
   simp only [List.getElem?_cons_zero, zsI] at hi
   subst hi
   rcases h.1 with h1 | h1
   ·exact .inl h1
   ·exact .inr ⟨h1.1.1, h1.1.2, h1.2⟩
  | succ i =>
   have := pairsOk_spec l (k + 1) h.2 i p (by simpa using hi)
   rwa [show k + (i + 1) = k + 1 + i by omega]
theorem confGo_spec {ops : Array Oper} {bs : List Nat} {B : Nat} {all : List (Oper × Rec)} : ∀ (l : List (Oper × Rec)) (k : Nat), confGo ops bs B all l k = true → ∀ i p, l[i]? = some p → recOk B (befOf bs) (k + i) p.2 = true ∧ pairsOk ops bs (k + i) p.1 p.2 (all.take (k + i)) 0 = true
 | [], _, _, i, p, hi => by simp at hi
 | q :: l, k, h, i, p, hi => by
  obtain ⟨oi, ri⟩ := q
  simp only [confGo, zaT] at h
  cases i with
  | zero =>
   simp only [List.getElem?_cons_zero, zsI] at hi
   subst hi
   exact ⟨h.1.1, h.1.2⟩
  | succ i =>
   have := confGo_spec l (k + 1) h.2 i p (by simpa using hi)
   rwa [show k + (i + 1) = k + 1 + i by omega]
theorem conf_of {l : List Oper} {recs : List Rec} {rs : Nat → Rec} {B : Nat} (h : confB l recs B = true) (hr : ∀ k, k < l.length → recs[k]? = some (rs k)) : Conf l.toArray rs B (befOf (befGo [] l)) := by
 simp only [confB, zaT] at h
 obtain ⟨hup, hgo⟩ := h
 have hz : ∀ (k : Nat) (o : Oper), l[k]? = some o → (l.zip recs)[k]? = some (o, rs k) := fun k o ho => by
  have hlt := (List.getElem?_eq_some_iff.1 ho).1
  rw [List.getElem?_zip_eq_some]
  exact ⟨ho, hr k hlt⟩
 have hup' : ∀ (j : Nat) (oj : Oper), l.toArray[j]? = some oj → ∀ e ∈ oj.after, Region.binds .any e = true → e.on < j := fun j oj hj e he hb => by
  have hj' : l[j]? = some oj := by simpa using hj
  have hm : (oj, j) ∈ l.zipIdx 0 := by rw [List.mem_iff_getElem?]; exact ⟨j, by simp [hj']⟩
  have h1 := List.all_eq_true.1 hup (oj, j) hm
  have h2 := Array.all_eq_true'.1 h1 e he
  simp only [hb, Bool.not_true, Bool.false_or] at h2
  exact blt_iff.1 h2
 refine ⟨fun i j oi oj hij hi hj => ?_, fun j i oj hj hb => ?_, hup', fun k o ho => ?_⟩
 ·have hi' : l[i]? = some oi := by simpa using hi
  have hj' : l[j]? = some oj := by simpa using hj
  obtain ⟨_, h2⟩ := confGo_spec _ 0 hgo j (oj, rs j) (hz j oj hj')
  have h3 := pairsOk_spec _ 0 h2 i (oi, rs i) (by rw [List.getElem?_take, if_pos (by omega)]; exact hz i oi hi')
  simpa using h3
 ·have hj' : l[j]? = some oj := by simpa using hj
  obtain ⟨acc', h1, h2, h3⟩ := befGo_at l [] j oj hj'
  simp only [List.length_nil, Nat.zero_add] at h1 h2 h3
  unfold befOf at hb
  rw [h3] at hb
  rcases bits_spec _ 0 hb with h4 | ⟨e, he, hbe, h4⟩
  ·simp at h4
  ·refine ⟨e, by simpa using he, hbe, ?_⟩
   rcases h4 with h4 | h4
   ·exact .inl h4
   ·have hlt := hup' j oj hj e (by simpa using he) hbe
    rw [h1 _ hlt] at h4
    exact .inr h4
 ·have ho' : l[k]? = some o := by simpa using ho
  have := (confGo_spec _ 0 hgo k (o, rs k) (hz k o ho')).1
  simpa using this

/-! The walk through a region. -/
def putL (env : Env) (d : Option Tmp) (v : SV) : Env := match d with
 | none => env
 | some d => (d, v) :: env
theorem look_putL (env : Env) (d : Option Tmp) (v : SV) : look (putL env d v) = putE (look env) d v := by
 cases d with
 | none => rfl
 | some d => funext t; simp only [putL, putE]; rw [look_cons]
theorem look_upd (effs : List (Nat × Res)) (mem : Mem) : look (effs ++ mem) = updM effs (look mem) := by
 funext i; rw [look_append]; rfl
def gateK (ops : Array Oper) (o : Oper) (env : Env) (K : Env → Bool → Prop) : Prop := match o.guard with
 | none => K env true
 | some (j, want) => match (ops[j]?).bind (·.dst) with
  | some d => match look env d with
   | some (.v (.bool t)) => match t with
    | true => K ((d, .v (.bool true)) :: env) want
    | false => K ((d, .v (.bool false)) :: env) (!want)
   | some (.v (.tuple _)) => K env false
   | _ => False
  | none => False
theorem gateK_elim {ops : Array Oper} {o : Oper} {env : Env} {K : Env → Bool → Prop} (h : gateK ops o env K) : ∃ env' g, look env' = look env ∧ gate ops o (look env) = some g ∧ K env' g := by
 unfold gateK at h
 unfold gate
 split at h
 ·rename_i hg; exact ⟨env, true, rfl, by simp [hg], h⟩
 ·rename_i j want hg
  split at h
  ·rename_i d hd
   split at h
   ·rename_i t ht
    have e : ∀ v, look env d = some v → look ((d, v) :: env) = look env := fun v hv => by
     funext t
     rw [look_cons]
     split
     ·rename_i e; subst e; exact hv.symm
     ·rfl
    split at h
    ·exact ⟨_, _, e _ ht, by simp [hg, hd, ht], h⟩
    ·exact ⟨_, _, e _ ht, by simp [hg, hd, ht], h⟩
   ·rename_i t ht
    exact ⟨_, _, rfl, by simp [hg, hd, ht], h⟩
   ·exact h.elim
  ·exact h.elim
/-! What a step yields is evaluated at once: the kernel would else come to it again and again. -/
def forceX (x : Value) (K : Value → Prop) : Prop := match x with
 | .bool b => K (.bool b)
 | .int k n => K (.int k n)
 | .agg a => K (.agg a)
 | x => K x
def forceV (v : SV) (K : SV → Prop) : Prop := match v with
 | .v x => forceX x fun x => K (.v x)
 | .ptr i o => K (.ptr i o)
 | .sl i o l c => K (.sl i o l c)
 | .row i => K (.row i)
 | .el i s k c => K (.el i s k c)
 | .sel i k => K (.sel i k)
 | .selp i p k => K (.selp i p k)
 | .agg xs => K (.agg xs)
 | v => K v
def forceE : List (Nat × Res) → (List (Nat × Res) → Prop) → Prop
 | [], K => K []
 | p :: l, K => match p with
  | (i, r) => match r with
   | .arr t n a => forceE l fun l => K ((i, .arr t n a) :: l)
   | .blk t cs => forceE l fun l => K ((i, .blk t cs) :: l)
   | .rblk t cs => forceE l fun l => K ((i, .rblk t cs) :: l)
   | .ro c => forceE l fun l => K ((i, .ro c) :: l)
   | .own e c => forceE l fun l => K ((i, .own e c) :: l)
   | r => forceE l fun l => K ((i, r) :: l)
def forceR (r : Rec) (K : Rec → Prop) : Prop := forceV r.v fun v => forceE r.effs fun e => K ⟨v, e, r.rd⟩
theorem forceX_eq (x : Value) (K : Value → Prop) : forceX x K = K x := by unfold forceX; split <;> rfl
theorem forceV_eq (v : SV) (K : SV → Prop) : forceV v K = K v := by unfold forceV; split <;> first | exact forceX_eq _ _ | rfl
theorem forceE_eq : ∀ (l : List (Nat × Res)) (K : List (Nat × Res) → Prop), forceE l K = K l
 | [], K => rfl
 | (i, r) :: l, K => by cases r <;> exact forceE_eq l _
theorem forceR_eq (r : Rec) (K : Rec → Prop) : forceR r K = K r := by unfold forceR; rw [forceV_eq, forceE_eq]
section
variable (P : Program) (sp : FuncId → Option Spec) (ops : Array Oper) (draw : Bool) (B : Nat)
def runR : List Oper → Nat → Env → Mem → List Rec → (Env → Mem → List Rec → Prop) → Prop
 | [], _, env, mem, recs, K => K env mem recs
 | o :: rest, k, env, mem, recs, K => gateK ops o env fun env' g => match g with
  | true => step P sp o (look env') (look mem) (B + 64 * k) (fun r => forceR r fun r => runR rest (k + 1) (putL env' o.dst r.v) (r.effs ++ mem) (r :: recs) K) False (flagged ops.toList)
  | false => runR rest (k + 1) (putL env' o.dst (.v undef)) mem (skipRec :: recs) K
end
theorem EL_congr {ops : Array Oper} {rs rs' : Nat → Rec} {E0 : Nat → Option SV} {L : Nat → Bool} : ∀ {n : Nat}, (∀ k, k < n → rs k = rs' k) → EL ops rs E0 L n = EL ops rs' E0 L n := by
 intro n h
 funext t
 unfold EL
 induction n with
 | zero => rfl
 | succ n ih => simp only [lastOf]; rw [h n (by omega), ih (fun k hk => h k (by omega))]
theorem ML_congr {rs rs' : Nat → Rec} {M0 : Nat → Option Res} {L : Nat → Bool} : ∀ {n : Nat}, (∀ k, k < n → rs k = rs' k) → ML rs M0 L n = ML rs' M0 L n := by
 intro n h
 funext t
 unfold ML
 induction n with
 | zero => rfl
 | succ n ih => simp only [lastOf]; rw [h n (by omega), ih (fun k hk => h k (by omega))]
theorem runR_elim {P : Program} {sp : FuncId → Option Spec} {all : List Oper} {B : Nat} {E0 : Nat → Option SV} {M0 : Nat → Option Res} {K : Env → Mem → List Rec → Prop} :
  ∀ (rest : List Oper) (k : Nat) (env : Env) (mem : Mem) (recs : List Rec) (rs : Nat → Rec), k + rest.length = all.length → (∀ i, rest[i]? = all[k + i]?) → recs.length = k → (∀ i, i < k → recs.reverse[i]? = some (rs i)) → look env = EL all.toArray rs E0 (fun _ => true) k → look mem = ML rs M0 (fun _ => true) k →
   runR P sp all.toArray B rest k env mem recs K →
   ∃ (rs' : Nat → Rec) (env' : Env) (mem' : Mem) (recs' : List Rec), (∀ i, i < k → rs' i = rs i) ∧ (∀ j o, k ≤ j → all[j]? = some o → Valid P sp all.toArray rs' E0 M0 B j o) ∧ look env' = EL all.toArray rs' E0 (fun _ => true) all.length ∧ look mem' = ML rs' M0 (fun _ => true) all.length ∧ (∀ i, i < all.length → recs'.reverse[i]? = some (rs' i)) ∧ K env' mem' recs'
 | [], k, env, mem, recs, rs, hk, _, hl, hr, hE, hM, h => by
  have hk' : k = all.length := by simpa using hk
  subst hk'
  exact ⟨rs, env, mem, recs, fun _ _ => rfl, fun j o hj hjo => absurd (List.getElem?_eq_some_iff.1 hjo).1 (by omega), hE, hM, hr, h⟩
 | o :: rest, k, env, mem, recs, rs, hk, hm, hl, hr, hE, hM, h => by
  have ho : all[k]? = some o := by simpa using (hm 0).symm
  have hoA : all.toArray[k]? = some o := by simpa using ho
  have hm' : ∀ i, rest[i]? = all[k + 1 + i]? := fun i => by have := hm (i + 1); simpa [Nat.add_assoc, Nat.add_comm 1 i] using this
  have hk' : k + 1 + rest.length = all.length := by simp at hk; omega
  have glue : ∀ (r : Rec) (env' : Env) (mem' : Mem), look env' = putE (look env) o.dst r.v → look mem' = updM r.effs (look mem) →
    ((gate all.toArray o (look env) = some true ∧ step P sp o (look env) (look mem) (B + 64 * k) some none (flagged all.toArray.toList) = some r) ∨ (gate all.toArray o (look env) = some false ∧ r = skipRec)) →
    runR P sp all.toArray B rest (k + 1) env' mem' (r :: recs) K → 
    ∃ (rs' : Nat → Rec) (env' : Env) (mem' : Mem) (recs' : List Rec), (∀ i, i < k → rs' i = rs i) ∧ (∀ j o, k ≤ j → all[j]? = some o → Valid P sp all.toArray rs' E0 M0 B j o) ∧ look env' = EL all.toArray rs' E0 (fun _ => true) all.length ∧ look mem' = ML rs' M0 (fun _ => true) all.length ∧ (∀ i, i < all.length → recs'.reverse[i]? = some (rs' i)) ∧ K env' mem' recs' := by
   intro r env' mem' he hme hv hrun
   have hlow : ∀ i, i < k → (fun i => if i = k then r else rs i) i = rs i := fun i hi => if_neg (by omega)
   obtain ⟨rs', e1, m1, rc, h1, h2, h3, h4, h5, h6⟩ := runR_elim rest (k + 1) env' mem' (r :: recs) (fun i => if i = k then r else rs i) hk' hm' (by simp [hl]) (fun i hi => by
     rw [List.reverse_cons]
     by_cases hik : i = k
     ·subst hik
      rw [List.getElem?_append_right (by simp [hl])]
      simp [hl]
     ·rw [List.getElem?_append_left (by simp [hl]; omega), hr i (by omega), if_neg hik])
    (by rw [he, EL_succ _ _ _ _ rfl hoA, hE, EL_congr (rs' := rs) hlow, if_pos rfl]) (by rw [hme, ML_succ _ _ _ _ rfl, hM, ML_congr (rs' := rs) hlow, if_pos rfl]) hrun
   refine ⟨rs', e1, m1, rc, fun i hi => (h1 i (by omega)).trans (hlow i hi), fun j oj hj hoj => ?_, h3, h4, h5, h6⟩
   by_cases hjk : j = k
   ·subst hjk
    rw [ho] at hoj
    cases hoj
    have hrk : rs' j = r := by rw [h1 j (by omega)]; exact if_pos rfl
    have hEk : EL all.toArray rs' E0 (fun _ => true) j = look env := by
     rw [hE]; exact EL_congr fun i hi => (h1 i (by omega)).trans (hlow i hi)
    have hMk : ML rs' M0 (fun _ => true) j = look mem := by
     rw [hM]; exact ML_congr fun i hi => (h1 i (by omega)).trans (hlow i hi)
    unfold Valid
    rw [hEk, hMk, hrk]
    exact hv
   ·exact h2 j oj (by omega) hoj
  rw [runR] at h
  obtain ⟨env', g, he, hg, hK⟩ := gateK_elim h
  cases g with
  | true =>
   simp only [] at hK
   rw [he] at hK
   obtain ⟨r, hr1, hr2⟩ := step_some hK
   rw [forceR_eq] at hr2
   exact glue r _ _ (by rw [look_putL, he]) (by rw [look_upd]) (.inl ⟨hg, hr1⟩) hr2
  | false =>
   simp only [] at hK
   exact glue skipRec _ _ (by rw [look_putL, he]; rfl) (by funext i; simp [updM, skipRec, look]) (.inr ⟨hg, rfl⟩) hK
end Sx

/- The walk through a function. -/
namespace Sx
open Go
set_option linter.unusedVariables false
set_option linter.unusedSimpArgs false

inductive Un (α : Type) where
 | walk (n : Nat)
 | join (n : Nat) (pt : Nat → α)
 | fix (κ : α → Nat)
instance {α : Type} {n : Nat} : OfNat (Un α) n := ⟨.walk n⟩
def allN : Nat → Nat → (Nat → Prop) → Prop
 | 0, _, _ => True
 | m + 1, k, p => p k ∧ allN m (k + 1) p
theorem allN_spec {p : Nat → Prop} : ∀ (m k : Nat), allN m k p → ∀ r, k ≤ r → r < k + m → p r
 | 0, k, _, r, h1, h2 => by omega
 | m + 1, k, h, r, h1, h2 => by
  by_cases hr : r = k
  ·subst hr; exact h.1
  ·exact allN_spec m (k + 1) h.2 r (by omega) (by omega)
structure Ann where
 α : Type
 keep : List Nat
 ren : List (Nat × TypeId × Cont)
 env : Nat → α → Env
 mem : Nat → α → Mem
 C : α → Prop
 μ : α → Nat
 un : Un α
def Ann.walk (n : Nat) : Ann := ⟨Unit, [], [], fun _ _ => [], fun _ _ => [], fun _ => True, fun _ => 0, .walk n⟩
def unroll (f : Nat → Env → Mem → (Exit → Nat → Env → Mem → Prop) → Prop) (K : Exit → Nat → Env → Mem → Prop) : Nat → Nat → Env → Mem → Prop
 | 0, _, _, _ => False
 | n + 1, B, env, mem => f B env mem fun e B' env' mem' => match e with
  | .normal => unroll f K n B' env' mem'
  | e => K e B' env' mem'
mutual
def SV.ren (ρ : Nat → Nat) : SV → SV
 | .v x => .v x
 | .ptr i o => .ptr (ρ i) o
 | .sl i o l c => .sl (ρ i) o l c
 | .row i => .row (ρ i)
 | .el i sz k c => .el (ρ i) sz k c
 | .nilq i neg => .nilq (ρ i) neg
 | .sel i k => .sel (ρ i) k
 | .selp i pre k => .selp (ρ i) pre k
 | .agg xs => .agg (SV.rens ρ xs)
 | .tup xs => .tup (SV.rens ρ xs)
 | .fn f xs => .fn f (SV.rens ρ xs)
def SV.rens (ρ : Nat → Nat) : List SV → List SV
 | [] => []
 | x :: xs => SV.ren ρ x :: SV.rens ρ xs
end
def Vn.comp (γ : Vn) (ρ : Nat → Nat) : Vn := ⟨fun i => γ.blk (ρ i), fun i => γ.val (ρ i), fun i => γ.foot (ρ i)⟩
mutual
theorem SV.den_ren (γ : Vn) (ρ : Nat → Nat) : ∀ x : SV, (x.ren ρ).den γ = x.den (γ.comp ρ)
 | .v x => by simp [SV.ren, SV.den]
 | .ptr i o => by simp [SV.ren, SV.den, Vn.comp]
 | .sl i o l c => by simp [SV.ren, SV.den, Vn.comp]
 | .row i => by simp [SV.ren, SV.den, Vn.comp]
 | .el i sz k c => by simp [SV.ren, SV.den, Vn.comp]
 | .nilq i neg => by simp [SV.ren, SV.den, Vn.comp]
 | .sel i k => by simp [SV.ren, SV.den, Vn.comp]
 | .selp i pre k => by simp [SV.ren, SV.den, Vn.comp]
 | .agg xs => by simp only [SV.ren, SV.den, SV.dens_ren γ ρ xs]
 | .tup xs => by simp only [SV.ren, SV.den, SV.dens_ren γ ρ xs]
 | .fn f xs => by simp only [SV.ren, SV.den, SV.dens_ren γ ρ xs]
theorem SV.dens_ren (γ : Vn) (ρ : Nat → Nat) : ∀ xs : List SV, SV.dens γ (SV.rens ρ xs) = SV.dens (γ.comp ρ) xs
 | [] => by simp [SV.rens, SV.dens]
 | x :: xs => by simp only [SV.rens, SV.dens, SV.den_ren γ ρ x, SV.dens_ren γ ρ xs]
end
def Res.ren (ρ : Nat → Nat) : Res → Res
 | .blk t cs => .blk t (SV.rens ρ cs)
 | .rblk t cs => .rblk t (SV.rens ρ cs)
 | .arr t n a => .arr t n a
 | .ro c => .ro c
 | .ros xss => .ros xss
 | .own e c => .own e c
 | .ownc e cs => .ownc e (SV.rens ρ cs)
 | .opt ks l => .opt ks l
 | .sels ks L => .sels ks L
 | .tail i lo n sz => .tail (ρ i) lo n sz
 | .pool xss => .pool xss
 | .ownp e j => .ownp e (ρ j)
 | .deep fs l => .deep fs l
 | .mp ks l => .mp ks l
 | .dpool fs l z => .dpool fs l z
 | .ownq e sz j => .ownq e sz (ρ j)
 | .ownh e sz j k c m => .ownh e sz (ρ j) k c (ρ m)
 | .abs k d => .abs k d
 | .gone => .gone
theorem SV.rens_length (ρ : Nat → Nat) : ∀ l : List SV, (SV.rens ρ l).length = l.length
 | [] => by simp [SV.rens]
 | x :: l => by simp [SV.rens, SV.rens_length ρ l]
theorem Res.foot_ren (γ : Vn) (ρ : Nat → Nat) (i : Nat) (r : Res) : (r.ren ρ).foot γ (ρ i) = r.foot (γ.comp ρ) i := by cases r <;> rfl
theorem Res.mut_ren (ρ : Nat → Nat) (r : Res) : (r.ren ρ).mut = r.mut := by cases r <;> rfl
theorem Res.ok_ren {I : Interp} {γ : Vn} {ρ : Nat → Nat} {i : Nat} {w : World} {r : Res} (h : ResOK I γ (ρ i) w (r.ren ρ)) : ResOK I (γ.comp ρ) i w r := by
 cases r with
 | blk t cs => simp only [Res.ren, ResOK] at h ⊢; rw [← SV.dens_ren]; exact h
 | rblk t cs => simp only [Res.ren, ResOK] at h ⊢; rw [← SV.dens_ren]; exact h
 | ownc e cs => simp only [Res.ren, ResOK, SV.rens_length] at h ⊢; rw [← SV.dens_ren]; exact h
 | _ => exact h
def cellOf (mem : Mem) (i c : Nat) : Option SV := match look mem i with
 | some (.blk _ cs) => cs[c]?
 | some (.arr _ _ a) => (a.toList.map SV.v)[c]?
 | _ => none
def slotOf (env : Env) (mem : Mem) (t : Nat) : Option SV := match Nat.blt t 100000 with
 | true => look env t
 | false => match look env (t % 100000) with
  | some (.ptr i off) => cellOf mem i (off + t / 100000 - 1)
  | _ => none
def idAt0 (env : Env) (mem : Mem) (t : Nat) : Nat := match slotOf env mem t with
 | some (.row i) => i
 | some (.sl i _ _ _) => i
 | some (.ptr i _) => i
 | some (.el i _ _ _) => i
 | some (.sel i _) => i
 | _ => 0
def idAt (env : Env) (mem : Mem) (t : Nat) : Nat := match Nat.blt t 1000000000 with
 | true => idAt0 env mem t
 | false => match Nat.blt t 2000000000 with
  | true => match look mem (idAt0 env mem (t - 1000000000)) with
   | some (.ownp _ j) => j
   | some (.ownq _ _ j) => j
   | _ => 0
  | false => match look mem (idAt0 env mem (t - 2000000000)) with
   | some (.ownh _ _ _ _ _ m) => m
   | _ => 0
def renOf : List (Nat × TypeId × Cont) → Nat → Env → Mem → Nat → Nat
 | [], _, _, _, i => i
 | p :: l, B, env, mem, i => match Nat.beq i B with
  | true => idAt env mem p.1
  | false => renOf l (B + 1) env mem i
def backOf : List (Nat × TypeId × Cont) → Nat → Env → Mem → Nat → Nat
 | [], _, _, _, i => i
 | p :: l, B, env, mem, i => match Nat.beq i (idAt env mem p.1) with
  | true => B
  | false => backOf l (B + 1) env mem i
theorem renOf_low : ∀ (l : List (Nat × TypeId × Cont)) (B : Nat) (env : Env) (mem : Mem) (i : Nat), i < B → renOf l B env mem i = i
 | [], _, _, _, _, _ => rfl
 | p :: l, B, env, mem, i, h => by
  unfold renOf
  split
  ·rename_i e; have := zbE e; omega
  ·exact renOf_low l (B + 1) env mem i (by omega)
def imgs (env : Env) (mem : Mem) : List (Nat × TypeId × Cont) → List Nat
 | [] => []
 | p :: l => idAt env mem p.1 :: imgs env mem l
def isIn (i : Nat) : List Nat → Bool
 | [] => false
 | j :: l => match Nat.beq i j with
  | true => true
  | false => isIn i l
def restM : List Nat → Mem → Mem
 | _, [] => []
 | is, p :: l => match isIn p.1 is with
  | true => restM is l
  | false => match p.2 with
   | .gone => restM (p.1 :: is) l
   | r => (p.1, r) :: restM (p.1 :: is) l
def kept (env : Env) : List Nat → Env
 | [] => []
 | t :: l => match look env t with
  | some v => (t, v) :: kept env l
  | none => kept env l
mutual
def SV.idl : SV → List Nat
 | .v _ => []
 | .ptr i _ => [i]
 | .sl i _ _ _ => [i]
 | .row i => [i]
 | .el i _ _ _ => [i]
 | .nilq i _ => [i]
 | .sel i _ => [i]
 | .selp i _ _ => [i]
 | .agg xs => SV.idls xs
 | .tup xs => SV.idls xs
 | .fn _ xs => SV.idls xs
def SV.idls : List SV → List Nat
 | [] => []
 | x :: xs => SV.idl x ++ SV.idls xs
end
def rootsOf : Env → List Nat
 | [] => []
 | p :: l => SV.idl p.2 ++ rootsOf l
def reach1 (rs : List Nat) : Mem → List Nat
 | [] => []
 | p :: l => match isIn p.1 rs with
  | true => match p.2 with
   | .blk _ cs => SV.idls cs ++ reach1 rs l
   | .rblk _ cs => SV.idls cs ++ reach1 rs l
   | .ownc _ cs => SV.idls cs ++ reach1 rs l
   | .ownp _ j => j :: reach1 rs l
   | .ownq _ _ j => j :: reach1 rs l
   | .ownh _ _ j _ _ m => j :: m :: reach1 rs l
   | _ => reach1 rs l
  | false => reach1 rs l
def reach : Nat → List Nat → Mem → List Nat
 | 0, rs, _ => rs
 | n + 1, rs, mem => match reach1 rs mem with
  | [] => rs
  | new => reach n (new ++ rs) mem
def onlyIn (rs : List Nat) : Mem → Mem
 | [] => []
 | p :: l => match isIn p.1 rs with
  | true => p :: onlyIn rs l
  | false => onlyIn rs l
def gcM (E : Env) (mem : Mem) : Mem := onlyIn (reach 4 (rootsOf E) mem) mem
def setCell (mem : Mem) (i c : Nat) (x : SV) : Option Res := match look mem i with
 | some (.blk ty cs) => some (.blk ty (cs.set c x))
 | some (.arr ty _ a) => some (.blk ty ((a.toList.map SV.v).set c x))
 | _ => none
def blkOf : Option Res → Option (TypeId × List SV)
 | some (.blk t cs) => some (t, cs)
 | some (.arr t _ a) => some (t, a.toList.map SV.v)
 | _ => none
def nilsAt : Nat → List SV → Bool
 | 0, _ => true
 | n + 1, .v (.pointer none) :: l => nilsAt n l
 | _, _ => false
def adopt : List (Nat × TypeId × Cont) → Nat → Env → Mem → Env × Mem
 | [], _, env, mem => (env, mem)
 | (t, e, c) :: l, B, env, mem => match Nat.blt t 1000000000 with
  | false => match look mem (idAt0 env mem (t - 1000000000)) with
   | some (.own f (.ints k [])) => adopt l (B + 1) env ((idAt0 env mem (t - 1000000000), .ownp f B) :: (B, .pool []) :: mem)
   | some (.own f (.structs ks [])) => adopt l (B + 1) env ((idAt0 env mem (t - 1000000000), .ownq f ks.length B) :: (B, .dpool [] [] none) :: mem)
   | _ => adopt l (B + 1) env mem
  | true => match slotOf env mem t, c.n with
    | some (.v (.slice none 0 0)), 0 => match Nat.blt t 100000 with
     | true => adopt l (B + 1) ((t, .row B) :: env) ((B, .own e c) :: mem)
     | false => match look env (t % 100000) with
      | some (.ptr i off) => match setCell mem i (off + t / 100000 - 1) (.row B) with
       | some r => adopt l (B + 1) env ((B, .own e c) :: (i, r) :: mem)
       | none => adopt l (B + 1) env mem
      | _ => adopt l (B + 1) env mem
    | some (.v (.pointer none)), 0 => match Nat.blt t 100000, c, look env (t % 100000) with
     | false, .structs ks _, some (.ptr i off) => match setCell mem i (off + t / 100000 - 1) (.row B) with
      | some r => adopt l (B + 1) env ((B, .opt ks []) :: (i, r) :: mem)
      | none => adopt l (B + 1) env mem
     | _, _, _ => adopt l (B + 1) env mem
    | some (.ptr j o), 0 => match Nat.blt t 100000, c, look env (t % 100000) with
     | false, .structs ks _, some (.ptr i off) => match Nat.beq o 0 && !(Nat.beq i j), structOf ks (look mem j) with
      | true, some (ty, cs, xs) => match setCell ((j, .rblk ty cs) :: mem) i (off + t / 100000 - 1) (.row B) with
       | some r => adopt l (B + 1) env ((B, .opt ks [xs]) :: (i, r) :: (j, .rblk ty cs) :: mem)
       | none => adopt l (B + 1) env mem
      | _, _ => adopt l (B + 1) env mem
     | _, _, _ => adopt l (B + 1) env mem
    | some (.v (.pointer none)), n + 2 => match Nat.blt t 100000, c, look env (t % 100000) with
     | false, .structs ks _, some (.ptr i off) => match blkOf (look mem i) with
      | some (ty, cs) => match nilsAt (n + 2) (cs.drop (off + t / 100000 - 1)) with
       | true => adopt l (B + 1) env ((B, .sels ks (List.replicate (n + 2) [])) :: (i, .blk ty (cs.take (off + t / 100000 - 1) ++ selList B (n + 2) 0 ++ cs.drop (off + t / 100000 - 1 + (n + 2)))) :: mem)
       | false => adopt l (B + 1) env mem
      | none => adopt l (B + 1) env mem
     | _, _, _ => adopt l (B + 1) env mem
    | some (.row j), 1 => match Nat.blt t 100000, look env (t % 100000), look mem j with
     | false, some (.ptr i off), some (.ro c') => match setCell mem i (off + t / 100000 - 1) (.row B) with
      | some r => adopt l (B + 1) env ((B, .ro c') :: (i, r) :: mem)
      | none => adopt l (B + 1) env mem
     | _, _, _ => adopt l (B + 1) env mem
    | _, _ => adopt l (B + 1) env mem
inductive Cl where
 | yes
 | no
 | p (x : Prop)
def Cl.holds : Cl → Prop
 | .yes => True
 | .no => False
 | .p x => x
def Cl.and : Cl → Prop → Prop
 | .yes, q => q
 | .no, _ => False
 | .p x, q => x ∧ q
def Cl.both : Cl → Cl → Cl
 | .yes, c => c
 | .no, _ => .no
 | .p x, .yes => .p x
 | .p _, .no => .no
 | .p x, .p y => .p (x ∧ y)
theorem Cl.and_spec : ∀ {c : Cl} {q : Prop}, c.and q → c.holds ∧ q
 | .yes, _, h => ⟨trivial, h⟩
 | .no, _, h => h.elim
 | .p _, _, h => h
theorem Cl.both_spec : ∀ {c d : Cl}, (c.both d).holds → c.holds ∧ d.holds
 | .yes, _, h => ⟨trivial, h⟩
 | .no, _, h => h.elim
 | .p _, .yes, h => ⟨h, trivial⟩
 | .p _, .no, h => h.elim
 | .p _, .p _, h => h
def eqN (i j : Nat) : Cl := match Nat.beq i j with
 | true => .yes
 | false => .no
def eqB (b : Bool) (c : Cl) : Cl := match b with
 | true => c
 | false => .no
theorem eqN_spec {i j : Nat} (h : (eqN i j).holds) : i = j := by
 unfold eqN at h
 split at h
 ·rename_i e; exact zbE e
 ·exact h.elim
theorem eqB_spec {b : Bool} {c : Cl} (h : (eqB b c).holds) : b = true ∧ c.holds := by
 unfold eqB at h
 split at h
 ·exact ⟨rfl, h⟩
 ·exact h.elim
def eqV (a b : Value) : Cl := match a, b with
 | .slice none 0 0, .slice none 0 0 => .yes
 | a, b => .p (a = b)
theorem eqV_spec {a b : Value} (h : (eqV a b).holds) : a = b := by
 unfold eqV at h
 split at h
 ·rfl
 ·exact h
mutual
def eqS : SV → SV → Cl
 | .v a, v => match v with
  | .v b => eqV a b
  | v => .p (SV.v a = v)
 | .row i, v => match v with
  | .row j => eqN i j
  | v => .no
 | .ptr i o, v => match v with
  | .ptr j q => eqB (Nat.beq i j) (eqN o q)
  | v => .no
 | .sl i o l c, v => match v with
  | .sl j q m d => eqB (Nat.beq i j) (.p (o = q ∧ l = m ∧ c = d))
  | v => .no
 | .agg xs, v => match v with
  | .agg ys => eqSs xs ys
  | v => .p (SV.agg xs = v)
 | .sel i k, v => match v with
  | .sel j q => eqB (Nat.beq i j) (eqN k q)
  | v => .no
 | u, v => .p (u = v)
def eqSs : List SV → List SV → Cl
 | [], [] => .yes
 | x :: xs, y :: ys => (eqS x y).both (eqSs xs ys)
 | _, _ => .no
end
mutual
theorem eqS_spec : ∀ (u v : SV), (eqS u v).holds → u = v
 | .v a, v, h => by
  unfold eqS at h
  split at h
  ·rw [eqV_spec h]
  ·exact h
 | .row i, v, h => by
  unfold eqS at h
  split at h
  ·rw [eqN_spec h]
  ·exact h.elim
 | .ptr i o, v, h => by
  unfold eqS at h
  split at h
  ·obtain ⟨h1, h2⟩ := eqB_spec h; rw [zbE h1, eqN_spec h2]
  ·exact h.elim
 | .sl i o l c, v, h => by
  unfold eqS at h
  split at h
  ·obtain ⟨h1, h2, h3, h4⟩ := eqB_spec h; rw [zbE h1, h2, h3, h4]
  ·exact h.elim
 | .agg xs, v, h => by
  unfold eqS at h
  split at h
  ·rw [eqSs_spec xs _ h]
  ·exact h
 | .el .., v, h => by unfold eqS at h; exact h
 | .nilq .., v, h => by unfold eqS at h; exact h
 | .sel i k, v, h => by
  unfold eqS at h
  split at h
  ·obtain ⟨h1, h2⟩ := eqB_spec h; rw [zbE h1, eqN_spec h2]
  ·exact h.elim
 | .selp .., v, h => by unfold eqS at h; exact h
 | .tup .., v, h => by unfold eqS at h; exact h
 | .fn .., v, h => by unfold eqS at h; exact h
theorem eqSs_spec : ∀ (u v : List SV), (eqSs u v).holds → u = v
 | [], [], _ => rfl
 | x :: xs, y :: ys, h => by
  unfold eqSs at h
  obtain ⟨h1, h2⟩ := Cl.both_spec h
  rw [eqS_spec x y h1, eqSs_spec xs ys h2]
 | [], _ :: _, h => by simp [eqSs, Cl.holds] at h
 | _ :: _, [], h => by simp [eqSs, Cl.holds] at h
end
def eqC (c d : Cont) : Cl := match c, d with
 | .ints k l, .ints q m => eqB (decide (k = q)) (.p (l = m))
 | c, d => .p (c = d)
theorem eqC_spec {c d : Cont} (h : (eqC c d).holds) : c = d := by
 unfold eqC at h
 split at h
 ·obtain ⟨h1, h2⟩ := eqB_spec h; rw [of_decide_eq_true h1, h2]
 ·exact h
def eqR (u v : Res) : Cl := match u, v with
 | .own e c, .own f d => eqB (Nat.beq e f) (eqC c d)
 | .own _ c, .ro d => eqC c d
 | .ro c, .ro d => eqC c d
 | .blk t xs, .blk s ys => eqB (Nat.beq t s) (eqSs xs ys)
 | .rblk t xs, .rblk s ys => eqB (Nat.beq t s) (eqSs xs ys)
 | .ownc t xs, .ownc s ys => eqB (Nat.beq t s) (eqSs xs ys)
 | .arr t n a, .arr s m b => eqB (Nat.beq t s && Nat.beq n m) (.p (a = b))
 | .opt ks l, .opt qs m => eqB (decide (ks = qs)) (.p (l = m))
 | .sels ks l, .sels qs m => eqB (decide (ks = qs)) (.p (l = m))
 | .pool l, .pool m => .p (l = m)
 | .ownp e i, .ownp f j => eqB (Nat.beq e f && Nat.beq i j) .yes
 | .dpool fs l z, .dpool gs m q => match fs with
  | [] => .p (l = [] ∧ m = [])
  | _ => eqB (DS.beqs fs gs) (.p (l = m ∧ (q = z ∨ q = none)))
 | .ownq e s i, .ownq f z j => eqB (Nat.beq e f && Nat.beq s z && Nat.beq i j) .yes
 | .ownh e s i k c m, .ownh f z j q d n => eqB (Nat.beq e f && Nat.beq s z && Nat.beq i j && Nat.beq c d && Nat.beq m n) (.p (k = q))
 | .mp ks l, .mp qs m => eqB (decide (ks = qs)) (.p (l = m))
 | u, v => .p (u = v)
structure WeakR (u v : Res) : Prop where
 ok : ∀ (I : Interp) (γ : Vn) (i : Nat) (w : World), ResOK I γ i w u → ResOK I γ i w v
 foot : ∀ (γ : Vn) (i b : Nat), v.foot γ i b → u.foot γ i b
 mu : v.mut = true → u.mut = true
theorem WeakR.refl (u : Res) : WeakR u u := ⟨fun _ _ _ _ h => h, fun _ _ _ h => h, fun h => h⟩
theorem eqR_spec {u v : Res} (h : (eqR u v).holds) : WeakR u v := by
 unfold eqR at h
 split at h
 ·obtain ⟨h1, h2⟩ := eqB_spec h; rw [zbE h1, eqC_spec h2]; exact .refl _
 ·rw [eqC_spec h]; exact ⟨fun _ _ _ _ hok => own_reads hok.1 fun g hg => (hok.2 g).2 hg, fun _ _ _ h => h, fun h => by cases h⟩
 ·rw [eqC_spec h]; exact .refl _
 ·obtain ⟨h1, h2⟩ := eqB_spec h; rw [zbE h1, eqSs_spec _ _ h2]; exact .refl _
 ·obtain ⟨h1, h2⟩ := eqB_spec h; rw [zbE h1, eqSs_spec _ _ h2]; exact .refl _
 ·obtain ⟨h1, h2⟩ := eqB_spec h; rw [zbE h1, eqSs_spec _ _ h2]; exact .refl _
 ·obtain ⟨h1, h2⟩ := eqB_spec h
  simp only [zaT] at h1
  rw [zbE h1.1, zbE h1.2, (h2 : _ = _)]; exact .refl _
 ·obtain ⟨h1, h2⟩ := eqB_spec h; rw [of_decide_eq_true h1, (h2 : _ = _)]; exact .refl _
 ·obtain ⟨h1, h2⟩ := eqB_spec h; rw [of_decide_eq_true h1, (h2 : _ = _)]; exact .refl _
 ·rw [(h : _ = _)]; exact .refl _
 ·obtain ⟨h1, _⟩ := eqB_spec h
  simp only [zaT] at h1
  rw [zbE h1.1, zbE h1.2]; exact .refl _
 ·split at h
  ·obtain ⟨rfl, rfl⟩ : _ ∧ _ := h
   refine ⟨fun I γ i w hok => ⟨?_, fun q k c gs _ _ hk => by simp at hk, 0, fun k c f hk => by simp at hk⟩, fun _ _ _ h => h, fun h => by cases h⟩
   have := hok.1
   simp only [List.length_nil, Nat.zero_mul] at this ⊢
   exact this
  ·obtain ⟨h1, h2⟩ := eqB_spec h
   obtain ⟨rfl, rfl | rfl⟩ : _ ∧ (_ ∨ _) := h2
   ·rw [DS.beqs_eq _ _ h1]; exact .refl _
   ·rw [DS.beqs_eq _ _ h1]
    exact ⟨fun I γ i w hok => ⟨hok.1, (fun q k c gs h => by cases h), hok.2.2⟩, fun _ _ _ h => h, fun h => by cases h⟩
 ·obtain ⟨h1, _⟩ := eqB_spec h
  simp only [zaT] at h1
  rw [zbE h1.1.1, zbE h1.1.2, zbE h1.2]; exact .refl _
 ·obtain ⟨h1, h2⟩ := eqB_spec h
  simp only [zaT] at h1
  rw [zbE h1.1.1.1.1, zbE h1.1.1.1.2, zbE h1.1.1.2, zbE h1.1.2, zbE h1.2, (h2 : _ = _)]; exact .refl _
 ·obtain ⟨h1, h2⟩ := eqB_spec h; rw [of_decide_eq_true h1, (h2 : _ = _)]; exact .refl _
 ·rw [(h : _ = _)]; exact .refl _
def renAll (σ : Nat → Nat) : Mem → Mem
 | [] => []
 | p :: l => (p.1, p.2.ren σ) :: renAll σ l
def FitsE (ρ : Nat → Nat) : Env → Env → Prop
 | [], _ => True
 | (t, v) :: l, env => match look env t with
  | some u => (eqS u (v.ren ρ)).and (FitsE ρ l env)
  | none => False
def FitsM (ρ : Nat → Nat) : Mem → Mem → Prop
 | [], _ => True
 | (t, v) :: l, mem => match look mem (ρ t) with
  | some u => (eqR u (v.ren ρ)).and (FitsM ρ l mem)
  | none => False
def injOne (ρ : Nat → Nat) (i : Nat) : Mem → Bool
 | [] => true
 | p :: l => (Nat.beq i p.1 || !Nat.beq (ρ i) (ρ p.1)) && injOne ρ i l
def injB (ρ : Nat → Nat) (m : Mem) : Mem → Bool
 | [] => true
 | p :: l => injOne ρ p.1 m && injB ρ m l
def Fits (ρ : Nat → Nat) (E : Env) (M : Mem) (env : Env) (mem : Mem) : Prop := match injB ρ M M with
 | true => FitsE ρ E env ∧ FitsM ρ M mem
 | false => False
def lowOk (B : Nat) (env : Env) (mem : Mem) : Bool := env.all (fun p => p.2.ids (lowB B)) && mem.all fun p => lowB B p.1 && p.2.ids (lowB B)
def loopsIn : Code → Nat
 | .loop c => loopsIn c + 1
 | .seq a b => loopsIn a + loopsIn b
 | .cond _ a b => loopsIn a + loopsIn b
 | .block _ c => loopsIn c
 | .scope c => loopsIn c
 | _ => 0
def dstOk (N : Nat) (l : List Oper) : Bool := l.all fun o => match o.dst with
 | some d => Nat.blt d N
 | none => true
def selOk (l : List Oper) : Bool := true
def linOk (B : Nat) : List Rec → Nat → Bool
 | [], _ => true
 | r :: l, k => recOk B (fun j i => Nat.blt i j) k r && linOk B l (k + 1)
def assume (c : Operand) (b : Bool) (env : Env) : Env := match c with
 | .tmp d => (d, .v (.bool b)) :: env
 | _ => env
def lenR : Option Res → Option Nat
 | some (.ro c) => some c.n
 | some (.own _ c) => some c.n
 | some (.ros l) => some l.length
 | some (.ownc _ cs) => some cs.length
 | _ => none
def keysM : Mem → List Nat
 | [] => []
 | p :: l => p.1 :: keysM l
def headOf (A : Ann) (B : Nat) (x : A.α) (env : Env) (mem : Mem) : Mem := A.mem B x ++ renAll (backOf A.ren B env mem) (restM (keysM (A.mem B x) ++ imgs env mem A.ren) (gcM (kept env A.keep) mem))
def wpc (P : Program) (sp : FuncId → Option Spec) (N : Nat) (an : List Ann) : Code → Nat → Nat → Env → Mem → (Exit → Nat → Env → Mem → Prop) → Prop
 | .skip, _, B, env, mem, K => K .normal B env mem
 | .label _, _, B, env, mem, K => K .normal B env mem
 | .exit id, _, B, env, mem, K => K (.exit id) B env mem
 | .ret, _, B, env, mem, K => K .ret B env mem
 | .region _ ops draw, _, B, env, mem, K => match dstOk N ops.toList with
  | true => runR P sp ops B ops.toList 0 env mem [] fun env' mem' recs => match draw with
   | true => match confB ops.toList recs.reverse B with
    | true => K .normal (B + 64 * ops.size) env' mem'
    | false => False
   | false => match linOk B recs.reverse 0 with
    | true => K .normal (B + 64 * ops.size) env' mem'
    | false => False
  | false => False
 | .seq x y, n, B, env, mem, K => wpc P sp N an x n B env mem fun e B' env' mem' => match e with
  | .normal => wpc P sp N an y (n + loopsIn x) B' env' mem' K
  | e => K e B' env' mem'
 | .cond c x y, n, B, env, mem, K => match ev (look env) c with
  | some (.v (.bool t)) => match t with
   | true => wpc P sp N an x n B (assume c true env) mem K
   | false => wpc P sp N an y (n + loopsIn x) B (assume c false env) mem K
  | some (.nilq i neg) => match lenR (look mem i) with
   | some m => match neg with
    | false => If (Nat.beq m 0) (wpc P sp N an x n B (assume c true env) mem K) True ∧ wpc P sp N an y (n + loopsIn x) B (assume c false env) mem K
    | true => wpc P sp N an x n B (assume c true env) mem K ∧ If (Nat.beq m 0) (wpc P sp N an y (n + loopsIn x) B (assume c false env) mem K) True
   | none => False
  | _ => False
 | .block id c, n, B, env, mem, K => wpc P sp N an c n B env mem fun e B' env' mem' => match e with
  | .exit id' => match Nat.beq id' id with
   | true => K .normal B' env' mem'
   | false => K (.exit id') B' env' mem'
  | e => K e B' env' mem'
 | .scope c, n, B, env, mem, K => wpc P sp N an c n B env mem fun e B' env' mem' => match e with
  | .goto _ => False
  | e => K e B' env' mem'
 | .loop c, n, B, env0, mem0, K => match an[n]? with
  | some A => match A.un with
   | .walk (u + 1) => unroll (fun B env mem K => wpc P sp N an c (n + 1) B env mem K) K (u + 1) B env0 mem0
   | .join m pt => match adopt A.ren B env0 mem0 with
    | (env, mem) => match Nat.blt 0 m with
     | true => Fits (renOf A.ren (B + A.ren.length) env mem) (A.env (B + A.ren.length) (pt 0) ++ kept env A.keep) (headOf A (B + A.ren.length) (pt 0) env mem) env mem ∧
      allN m 0 fun r => match lowOk (B + A.ren.length + A.ren.length) (A.env (B + A.ren.length) (pt r) ++ kept env A.keep) (headOf A (B + A.ren.length) (pt r) env mem) with
      | true => wpc P sp N an c (n + 1) (B + A.ren.length + A.ren.length) (A.env (B + A.ren.length) (pt r) ++ kept env A.keep) (headOf A (B + A.ren.length) (pt r) env mem) fun e B' env' mem' => match e with
       | .normal => match Nat.blt (r + 1) m with
        | true => Fits (renOf A.ren (B + A.ren.length) env' mem') (A.env (B + A.ren.length) (pt (r + 1)) ++ kept env A.keep) (headOf A (B + A.ren.length) (pt (r + 1)) env mem) env' mem'
        | false => False
       | e => K e B' env' mem'
      | false => False
     | false => False
   | .fix κ => match adopt A.ren B env0 mem0 with
    | (env, mem) => ∃ x0, A.C x0 ∧ Fits (renOf A.ren (B + A.ren.length) env mem) (A.env (B + A.ren.length) x0 ++ kept env A.keep) (headOf A (B + A.ren.length) x0 env mem) env mem ∧
     ∀ x, A.C x → κ x = κ x0 → match lowOk (B + A.ren.length + A.ren.length) (A.env (B + A.ren.length) x ++ kept env A.keep) (headOf A (B + A.ren.length) x env mem) with
     | true => wpc P sp N an c (n + 1) (B + A.ren.length + A.ren.length) (A.env (B + A.ren.length) x ++ kept env A.keep) (headOf A (B + A.ren.length) x env mem) fun e B' env' mem' => match e with
      | .normal => ∃ x', A.C x' ∧ κ x' = κ x0 ∧ A.μ x' < A.μ x ∧ Fits (renOf A.ren (B + A.ren.length) env' mem') (A.env (B + A.ren.length) x' ++ kept env A.keep) (headOf A (B + A.ren.length) x' env mem) env' mem'
      | e => K e B' env' mem'
     | false => False
   | .walk 0 => match adopt A.ren B env0 mem0 with
    | (env, mem) => (∃ x, A.C x ∧ Fits (renOf A.ren (B + A.ren.length) env mem) (A.env (B + A.ren.length) x ++ kept env A.keep) (headOf A (B + A.ren.length) x env mem) env mem) ∧
     ∀ x, A.C x → match lowOk (B + A.ren.length + A.ren.length) (A.env (B + A.ren.length) x ++ kept env A.keep) (headOf A (B + A.ren.length) x env mem) with
     | true => wpc P sp N an c (n + 1) (B + A.ren.length + A.ren.length) (A.env (B + A.ren.length) x ++ kept env A.keep) (headOf A (B + A.ren.length) x env mem) fun e B' env' mem' => match e with
      | .normal => ∃ x', A.C x' ∧ A.μ x' < A.μ x ∧ Fits (renOf A.ren (B + A.ren.length) env' mem') (A.env (B + A.ren.length) x' ++ kept env A.keep) (headOf A (B + A.ren.length) x' env mem) env' mem'
      | e => K e B' env' mem'
     | false => False
  | none => False
 | .rangeFunc .., _, _, _, _, _ => False
 | .goto _, _, _, _, _, _ => False
 | .refuse _, _, _, _, _, _ => False

theorem fitsE_look {ρ : Nat → Nat} : ∀ (l env : Env), FitsE ρ l env → ∀ t v, look l t = some v → look env t = some (v.ren ρ)
 | [], _, _, t, v, h => by simp [look] at h
 | (s, u) :: l, env, hf, t, v, h => by
  simp only [FitsE] at hf
  split at hf
  ·rename_i u' hu
   obtain ⟨h1, h2⟩ := Cl.and_spec hf
   rw [look_cons] at h
   split at h
   ·rename_i e
    subst e
    simp only [zsI] at h
    subst h
    rw [hu, eqS_spec _ _ h1]
   ·exact fitsE_look l env h2 t v h
  ·exact hf.elim
theorem fitsM_look {ρ : Nat → Nat} : ∀ (l mem : Mem), FitsM ρ l mem → ∀ t v, look l t = some v → ∃ u, look mem (ρ t) = some u ∧ WeakR u (v.ren ρ)
 | [], _, _, t, v, h => by simp [look] at h
 | (s, u) :: l, mem, hf, t, v, h => by
  simp only [FitsM] at hf
  split at hf
  ·rename_i u' hu
   obtain ⟨h1, h2⟩ := Cl.and_spec hf
   rw [look_cons] at h
   split at h
   ·rename_i e
    subst e
    simp only [zsI] at h
    subst h
    exact ⟨u', hu, eqR_spec h1⟩
   ·exact fitsM_look l mem h2 t v h
  ·exact hf.elim
theorem injOne_spec {ρ : Nat → Nat} {i : Nat} : ∀ (l : Mem), injOne ρ i l = true → ∀ p ∈ l, ρ i = ρ p.1 → i = p.1
 | [], _, p, h, _ => by cases h
 | q :: l, hi, p, h, e => by
  simp only [injOne, zaT, Bool.or_eq_true, Bool.not_eq_true'] at hi
  rcases List.mem_cons.1 h with rfl | h
  ·rcases hi.1 with h1 | h1
   ·exact zbE h1
   ·rw [e] at h1; simp at h1
  ·exact injOne_spec l hi.2 p h e
theorem injB_spec {ρ : Nat → Nat} {m : Mem} : ∀ (l : Mem), injB ρ m l = true → ∀ p ∈ l, ∀ q ∈ m, ρ p.1 = ρ q.1 → p.1 = q.1
 | [], _, p, h, _, _, _ => by cases h
 | r :: l, hi, p, h, q, hq, e => by
  simp only [injB, zaT] at hi
  rcases List.mem_cons.1 h with rfl | h
  ·exact injOne_spec m hi.1 q hq e
  ·exact injB_spec l hi.2 p h q hq e
theorem kept_look (env : Env) : ∀ (l : List Nat) (t : Nat) (v : SV), look (kept env l) t = some v → look env t = some v
 | [], t, v, h => by simp [kept, look] at h
 | s :: l, t, v, h => by
  unfold kept at h
  split at h
  ·rename_i u hu
   rw [look_cons] at h
   split at h
   ·rename_i e; subst e; rw [hu, ← h]
   ·exact kept_look env l t v h
  ·exact kept_look env l t v h
section
variable {I : Interp} {P : Program} {sp : FuncId → Option Spec} {N : Nat} {w0 : World} {S0 : Ft} {γ : Vn} {a : Act} {w : World} {Q : Exit → Act → World → Prop}
theorem look_mem {β : Type} : ∀ {l : List (Nat × β)} {i : Nat} {x : β}, look l i = some x → (i, x) ∈ l
 | [], i, x, h => by simp [look] at h
 | (k, y) :: l, i, x, h => by
  rw [look_cons] at h
  split at h
  ·rename_i e; subst e; simp only [zsI] at h; subst h; exact List.mem_cons_self ..
  ·exact List.mem_cons_of_mem _ (look_mem h)
theorem sat_ren {D D' : Nat → Bool} {E E' : Nat → Option SV} {M M' : Nat → Option Res} {ρ : Nat → Nat} (hs : Sat I N w0 S0 γ D E M a w) (hE : ∀ t v, E' t = some v → E t = some (v.ren ρ) ∧ v.ids D' = true) (hM : ∀ i r, M' i = some r → (∃ u, M (ρ i) = some u ∧ WeakR u (r.ren ρ)) ∧ D' i = true ∧ r.ids D' = true)
  (hi : ∀ i j ri rj, M' i = some ri → M' j = some rj → ρ i = ρ j → i = j) : Sat I N w0 S0 (γ.comp ρ) D' E' M' a w := by
 have key : ∀ i r, M' i = some r → ∃ u, M (ρ i) = some u ∧ ResOK I γ (ρ i) w (r.ren ρ) ∧ (∀ b, (r.ren ρ).foot γ (ρ i) b → u.foot γ (ρ i) b) ∧ ((r.ren ρ).mut = true → u.mut = true) := by
  intro i r h
  obtain ⟨u, hu, h1⟩ := (hM i r h).1
  exact ⟨_, hu, h1.ok _ _ _ _ (hs.mem.ok _ _ hu), fun b hb => h1.foot _ _ b hb, h1.mu⟩
 exact {
  env := fun t x h => by rw [hs.env t _ (hE t x h).1, SV.den_ren]
  eids := fun t x h => (hE t x h).2
  mem := ⟨fun i r h => by obtain ⟨u, hu, h1, _, _⟩ := key i r h; exact Res.ok_ren h1,
   fun i r b h hb => by obtain ⟨u, hu, _, h2, _⟩ := key i r h; exact hs.mem.low _ _ b hu (h2 b (by rw [Res.foot_ren]; exact hb)),
   fun i j ri rj b hij h1 h2 hm hb hb2 => by
    obtain ⟨u, hu, _, k2, k3⟩ := key i ri h1
    obtain ⟨u', hu', _, k2', k3'⟩ := key j rj h2
    exact hs.mem.apart (ρ i) (ρ j) _ _ b (fun e => hij (hi i j ri rj h1 h2 e)) hu hu' (k3 (by rw [Res.mut_ren]; exact hm)) (k2 b (by rw [Res.foot_ren]; exact hb)) (k2' b (by rw [Res.foot_ren]; exact hb2))⟩
  mids := fun i r h => (hM i r h).2
  fr := hs.fr
  own := fun i r b h hb => by
   obtain ⟨u, hu, _, k2, k3⟩ := key i r h
   rcases hs.own _ _ b hu (k2 b (by rw [Res.foot_ren]; exact hb)) with h1 | h1 | ⟨h1, h2⟩
   ·exact .inl h1
   ·exact .inr (.inl h1)
   ·refine .inr (.inr ⟨?_, h2⟩)
    cases hm : r.mut with
    | false => rfl
    | true => rw [k3 (by rw [Res.mut_ren]; exact hm)] at h1; cases h1
  size := hs.size
  defers := hs.defers
  amb := hs.amb }
theorem sat_fits {D' : Nat → Bool} {D : Nat → Bool} {E env : Env} {M mem : Mem} {ρ : Nat → Nat} (hs : Sat I N w0 S0 γ D (look env) (look mem) a w) (hf : Fits ρ E M env mem) (hE : ∀ t v, look E t = some v → v.ids D' = true) (hM : ∀ i r, look M i = some r → D' i = true ∧ r.ids D' = true) : Sat I N w0 S0 (γ.comp ρ) D' (look E) (look M) a w := by
 unfold Fits at hf
 split at hf
 ·rename_i hb
  refine sat_ren hs (fun t v h => ⟨fitsE_look _ _ hf.1 t v h, hE t v h⟩) (fun i r h => ⟨fitsM_look _ _ hf.2 i r h, hM i r h⟩) fun i j ri rj h1 h2 e => ?_
  exact injB_spec M hb (i, ri) (look_mem h1) (j, rj) (look_mem h2) e
 ·exact hf.elim
theorem sat_adopt1 {B t : Nat} {e : TypeId} {c : Cont} {env : Env} {mem : Mem} (hs : Sat I N w0 S0 γ (lowB B) (look env) (look mem) a w) (ht : look env t = some (.v (.slice none 0 0))) (hc : c.n = 0) :
  ∃ γ', Agree (lowB B · = true) γ γ' ∧ Sat I N w0 S0 γ' (lowB (B + 1)) (look ((t, .row B) :: env)) (look ((B, .own e c) :: mem)) a w := by
 have hcells : c.cells = [] := List.eq_nil_of_length_eq_zero (by rw [Cont.cells_length, hc, Nat.zero_mul])
 have hag : Agree (lowB B · = true) γ ⟨γ.blk, fun i => if i = B then .slice none 0 0 else γ.val i, fun i => if i = B then fun _ => False else γ.foot i⟩ := by
  refine ⟨fun i _ => rfl, fun i hi => if_neg ?_, fun i hi => if_neg ?_⟩ <;> (rintro rfl; exact absurd (blt_iff.1 hi) (Nat.lt_irrefl _))
 have hlow : ∀ i, lowB B i = true → i ≠ B := fun i hi e => by subst e; exact absurd (blt_iff.1 hi) (Nat.lt_irrefl _)
 have hmono : ∀ i, lowB B i = true → lowB (B + 1) i = true := fun i hi => blt_iff.2 (Nat.lt_succ_of_lt (blt_iff.1 hi))
 have cse : ∀ i r, look ((B, Res.own e c) :: mem) i = some r → (i = B ∧ r = .own e c) ∨ (i ≠ B ∧ look mem i = some r) := by
  intro i r h
  rw [look_cons] at h
  split at h
  ·rename_i e; exact .inl ⟨e.symm, by simpa using h.symm⟩
  ·rename_i e; exact .inr ⟨fun h' => e h'.symm, h⟩
 refine ⟨_, hag, ⟨fun s x h => ?_, fun s x h => ?_, ⟨fun i r h => ?_, fun i r b h hb => ?_, fun i j ri rj b hij h1 h2 hm hb hb2 => ?_⟩, fun i r h => ?_, hs.fr, fun i r b h hb => ?_, hs.size, hs.defers, hs.amb⟩⟩
 ·rw [look_cons] at h
  split at h
  ·rename_i e; subst e; simp only [zsI] at h; subst h
   rw [hs.env _ _ ht]; simp [SV.den]
  ·rw [hs.env _ _ h, SV.den_agree hag x (hs.eids _ _ h)]
 ·rw [look_cons] at h
  split at h
  ·simp only [zsI] at h; subst h; simp [SV.ids, lowB, Nat.blt, Nat.ble_eq]
  ·exact SV.ids_mono hmono x (hs.eids _ _ h)
 ·rcases cse i r h with ⟨rfl, rfl⟩ | ⟨hi, h⟩
  ·refine ⟨?_, fun b => ?_⟩
   ·simp only [if_true]; rw [hcells, hc]; exact World.ownsRow_nil w 0 e _
   ·simp [Value.ownBlock]
  ·exact resOK_agree hag (hs.mids i r h).1 r (hs.mids i r h).2 (hs.mem.ok i r h)
 ·rcases cse i r h with ⟨rfl, rfl⟩ | ⟨hi, h⟩
  ·simp [Res.foot] at hb
  ·rw [foot_agree hag (hs.mids i r h).1] at hb; exact hs.mem.low i r b h hb
 ·rcases cse i ri h1 with ⟨rfl, rfl⟩ | ⟨hi, h1⟩
  ·simp [Res.foot] at hb
  ·rcases cse j rj h2 with ⟨rfl, rfl⟩ | ⟨hj, h2⟩
   ·simp [Res.foot] at hb2
   ·rw [foot_agree hag (hs.mids i ri h1).1] at hb
    rw [foot_agree hag (hs.mids j rj h2).1] at hb2
    exact hs.mem.apart i j ri rj b hij h1 h2 hm hb hb2
 ·rcases cse i r h with ⟨rfl, rfl⟩ | ⟨hi, h⟩
  ·exact ⟨blt_iff.2 (Nat.lt_succ_self _), rfl⟩
  ·refine ⟨hmono i (hs.mids i r h).1, ?_⟩
   have := (hs.mids i r h).2
   cases r <;> first | exact SV.idss_mono hmono _ this | rfl
 ·rcases cse i r h with ⟨rfl, rfl⟩ | ⟨hi, h⟩
  ·simp [Res.foot] at hb
  ·rw [foot_agree hag (hs.mids i r h).1] at hb; exact hs.own i r b h hb
theorem sat_up {B : Nat} {E : Nat → Option SV} {M : Nat → Option Res} (hs : Sat I N w0 S0 γ (lowB B) E M a w) : Sat I N w0 S0 γ (lowB (B + 1)) E M a w := by
 have hmono : ∀ i, lowB B i = true → lowB (B + 1) i = true := fun i hi => blt_iff.2 (Nat.lt_succ_of_lt (blt_iff.1 hi))
 refine ⟨hs.env, fun t x h => SV.ids_mono hmono x (hs.eids t x h), hs.mem, fun i r h => ⟨hmono i (hs.mids i r h).1, ?_⟩, hs.fr, hs.own, hs.size, hs.defers, hs.amb⟩
 have := (hs.mids i r h).2
 cases r <;> first | exact SV.idss_mono hmono _ this | rfl
theorem sat_eqv {D : Nat → Bool} {E : Nat → Option SV} {M M' : Nat → Option Res} (hs : Sat I N w0 S0 γ D E M a w) {i : Nat} {r r' : Res} (h : M i = some r) (h' : ∀ j, M' j = if j = i then some r' else M j) (hok : ResOK I γ i w r → ResOK I γ i w r') (hf : r'.foot γ i = r.foot γ i) (hm : r'.mut = r.mut) (hid : r'.ids D = true) : Sat I N w0 S0 γ D E M' a w := by
 have cse : ∀ j q, M' j = some q → ∃ p, M j = some p ∧ (ResOK I γ j w p → ResOK I γ j w q) ∧ q.foot γ j = p.foot γ j ∧ q.mut = p.mut ∧ (p.ids D = true → q.ids D = true) := fun j q hq => by
  rw [h'] at hq
  split at hq
  ·rename_i e; subst e; simp only [zsI] at hq; subst hq; exact ⟨r, h, hok, hf, hm, fun _ => hid⟩
  ·exact ⟨q, hq, fun h => h, rfl, rfl, fun h => h⟩
 refine ⟨hs.env, hs.eids, ⟨fun j q hq => ?_, fun j q b hq hb => ?_, fun j k p q b hjk hp hq hm hb hb2 => ?_⟩, fun j q hq => ?_, hs.fr, fun j q b hq hb => ?_, hs.size, hs.defers, hs.amb⟩
 ·obtain ⟨p, h1, h2, _⟩ := cse j q hq; exact h2 (hs.mem.ok j p h1)
 ·obtain ⟨p, h1, _, h3, _⟩ := cse j q hq; rw [h3] at hb; exact hs.mem.low j p b h1 hb
 ·obtain ⟨p1, a1, _, a3, a4, _⟩ := cse j p hp
  obtain ⟨p2, b1, _, b3, _, _⟩ := cse k q hq
  rw [a3] at hb; rw [b3] at hb2; rw [a4] at hm
  exact hs.mem.apart j k p1 p2 b hjk a1 b1 hm hb hb2
 ·obtain ⟨p, h1, _, _, _, h5⟩ := cse j q hq; exact ⟨(hs.mids j p h1).1, h5 (hs.mids j p h1).2⟩
 ·obtain ⟨p, h1, _, h3, h4, _⟩ := cse j q hq; rw [h3] at hb; rw [h4]; exact hs.own j p b h1 hb
def nilVn (γ : Vn) (B : Nat) : Vn := ⟨γ.blk, fun i => if i = B then .slice none 0 0 else γ.val i, fun i => if i = B then fun _ => False else γ.foot i⟩
theorem sat_adopt0 {B : Nat} {e : TypeId} {c : Cont} {E : Nat → Option SV} {mem : Mem} (hs : Sat I N w0 S0 γ (lowB B) E (look mem) a w) (hc : c.n = 0) :
  Agree (lowB B · = true) γ (nilVn γ B) ∧ Sat I N w0 S0 (nilVn γ B) (lowB (B + 1)) E (look ((B, .own e c) :: mem)) a w := by
 have hcells : c.cells = [] := by
  have := c.cells_length
  rw [hc, Nat.zero_mul] at this
  exact List.length_eq_zero_iff.1 this
 have hag : Agree (lowB B · = true) γ (nilVn γ B) := by
  refine ⟨fun i _ => rfl, fun i hi => if_neg ?_, fun i hi => if_neg ?_⟩ <;> (rintro rfl; exact absurd (blt_iff.1 hi) (Nat.lt_irrefl _))
 have hmono : ∀ i, lowB B i = true → lowB (B + 1) i = true := fun i hi => blt_iff.2 (Nat.lt_succ_of_lt (blt_iff.1 hi))
 have cse : ∀ i r, look ((B, Res.own e c) :: mem) i = some r → (i = B ∧ r = .own e c) ∨ (i ≠ B ∧ look mem i = some r) := by
  intro i r h
  rw [look_cons] at h
  split at h
  ·rename_i e; exact .inl ⟨e.symm, by simpa using h.symm⟩
  ·rename_i e; exact .inr ⟨fun h' => e h'.symm, h⟩
 refine ⟨hag, ⟨fun s x h => ?_, fun s x h => ?_, ⟨fun i r h => ?_, fun i r b h hb => ?_, fun i j ri rj b hij h1 h2 hm hb hb2 => ?_⟩, fun i r h => ?_, hs.fr, fun i r b h hb => ?_, hs.size, hs.defers, hs.amb⟩⟩
 ·rw [hs.env _ _ h, SV.den_agree hag x (hs.eids _ _ h)]
 ·exact SV.ids_mono hmono x (hs.eids _ _ h)
 ·rcases cse i r h with ⟨rfl, rfl⟩ | ⟨hi, h⟩
  ·refine ⟨?_, fun b => ?_⟩
   ·simp only [nilVn, if_true]; rw [hcells, hc]; exact World.ownsRow_nil w 0 e _
   ·simp [nilVn, Value.ownBlock]
  ·exact resOK_agree hag (hs.mids i r h).1 r (hs.mids i r h).2 (hs.mem.ok i r h)
 ·rcases cse i r h with ⟨rfl, rfl⟩ | ⟨hi, h⟩
  ·simp [Res.foot, nilVn] at hb
  ·rw [foot_agree hag (hs.mids i r h).1] at hb; exact hs.mem.low i r b h hb
 ·rcases cse i ri h1 with ⟨rfl, rfl⟩ | ⟨hi, h1⟩
  ·simp [Res.foot, nilVn] at hb
  ·rcases cse j rj h2 with ⟨rfl, rfl⟩ | ⟨hj, h2⟩
   ·simp [Res.foot, nilVn] at hb2
   ·rw [foot_agree hag (hs.mids i ri h1).1] at hb
    rw [foot_agree hag (hs.mids j rj h2).1] at hb2
    exact hs.mem.apart i j ri rj b hij h1 h2 hm hb hb2
 ·rcases cse i r h with ⟨rfl, rfl⟩ | ⟨hi, h⟩
  ·exact ⟨blt_iff.2 (Nat.lt_succ_self _), rfl⟩
  ·refine ⟨hmono i (hs.mids i r h).1, ?_⟩
   have := (hs.mids i r h).2
   cases r <;> first | exact SV.idss_mono hmono _ this | rfl
 ·rcases cse i r h with ⟨rfl, rfl⟩ | ⟨hi, h⟩
  ·simp [Res.foot, nilVn] at hb
  ·rw [foot_agree hag (hs.mids i r h).1] at hb; exact hs.own i r b h hb
theorem sat_cell {B i k : Nat} {e : TypeId} {c : Cont} {r : Res} {E : Nat → Option SV} {mem : Mem} (hs : Sat I N w0 S0 γ (lowB B) E (look mem) a w) (hc : c.n = 0) (hk : cellOf mem i k = some (.v (.slice none 0 0))) (hr : setCell mem i k (.row B) = some r) :
  ∃ γ', Agree (lowB B · = true) γ γ' ∧ Sat I N w0 S0 γ' (lowB (B + 1)) E (look ((B, .own e c) :: (i, r) :: mem)) a w := by
 have cells : ∃ ty cs q, look mem i = some q ∧ r = .blk ty (cs.set k (.row B)) ∧ cs[k]? = some (.v (.slice none 0 0)) ∧ (ResOK I γ i w q → ResOK I γ i w (.blk ty cs)) ∧ q.foot γ i = (Res.blk ty cs).foot γ i ∧ q.mut = true ∧ SV.idss (lowB B) cs = true := by
  unfold setCell at hr
  unfold cellOf at hk
  split at hr
  ·rename_i ty cs hM
   rw [hM] at hk
   simp only [zsI] at hr
   exact ⟨ty, cs, _, hM, hr.symm, hk, fun h => h, rfl, rfl, (hs.mids i _ hM).2⟩
  ·rename_i ty n arr hM
   rw [hM] at hk
   simp only [zsI] at hr
   refine ⟨ty, arr.toList.map SV.v, _, hM, hr.symm, hk, fun h => ?_, rfl, rfl, ?_⟩
   ·have := h.2
    simp only [ResOK]
    rw [this]
    congr 2
    apply Array.ext'
    have e1 : (SV.den γ ∘ SV.v) = id := by funext x; simp [SV.den]
    simp [dens_eq, e1]
   ·rw [idss_eq, List.all_eq_true]
    intro x hx
    obtain ⟨y, _, rfl⟩ := List.mem_map.1 hx
    simp [SV.ids]
  ·cases hr
 obtain ⟨ty, cs, q, hM, rfl, hck, hq, hqf, hqm, hids⟩ := cells
 have hDi := (hs.mids i _ hM).1
 have hiB : i ≠ B := fun e => by subst e; exact absurd (blt_iff.1 hDi) (Nat.lt_irrefl _)
 have hs1 : Sat I N w0 S0 γ (lowB B) E (look ((i, .blk ty cs) :: mem)) a w := sat_eqv (i := i) (r' := .blk ty cs) hs hM (fun j => by
  rw [look_cons]
  by_cases hj : j = i
  ·rw [if_pos hj.symm, if_pos hj]
  ·rw [if_neg (Ne.symm hj), if_neg hj]) hq hqf.symm hqm.symm hids
 obtain ⟨hag, hs2⟩ := sat_adopt0 (e := e) (c := c) hs1 hc
 refine ⟨nilVn γ B, hag, sat_eqv (i := i) (r := .blk ty cs) (r' := .blk ty (cs.set k (.row B))) hs2 ?_ (fun j => ?_) (fun h => ?_) rfl rfl ?_⟩
 ·rw [look_cons, if_neg (Ne.symm hiB), look_cons, if_pos rfl]
 ·rw [look_cons, look_cons, look_cons, look_cons]
  by_cases hj : j = i
  ·subst hj; rw [if_neg (Ne.symm hiB), if_pos rfl, if_pos rfl]
  ·rw [if_neg hj, if_neg (Ne.symm hj), if_neg (Ne.symm hj)]
 ·simp only [ResOK] at h ⊢
  rw [h]
  congr 2
  apply Array.ext'
  simp only [dens_eq, List.map_set, SV.den, nilVn, if_true]
  have hk2 : (cs.map (SV.den (nilVn γ B)))[k]? = some (.slice none 0 0) := by rw [List.getElem?_map, hck]; simp [SV.den]
  have := List.set_getElem_self (as := cs.map (SV.den (nilVn γ B))) (i := k) (List.getElem?_eq_some_iff.1 hk2).1
  rw [(List.getElem?_eq_some_iff.1 hk2).2] at this
  exact this.symm
 ·simp only [Res.ids]
  rw [idss_eq, List.all_eq_true]
  intro x hx
  rcases List.mem_or_eq_of_mem_set hx with hx | rfl
  ·rw [idss_eq, List.all_eq_true] at hids
   exact SV.ids_mono (fun j hj => blt_iff.2 (Nat.lt_succ_of_lt (blt_iff.1 hj))) x (hids x hx)
  ·simp only [SV.ids]; exact blt_iff.2 (Nat.lt_succ_self _)
theorem sat_add {B : Nat} {E : Nat → Option SV} {mem : Mem} (hs : Sat I N w0 S0 γ (lowB B) E (look mem) a w) {v : Value} {F : Nat → Prop} {res : Res} (hok : ResOK I (γ.row' B v F) B w res) (hm : res.mut = false) (hf : ∀ b, res.foot (γ.row' B v F) B b → F b) (hid : res.ids (lowB (B + 1)) = true)
  (hlow : ∀ b, F b → b < w.heap.size) (hap : ∀ i r b, look mem i = some r → r.mut = true → r.foot γ i b → ¬ F b) (hown : ∀ b, F b → w0.heap.size ≤ b ∨ S0.w b ∨ S0.r b) :
  Agree (lowB B · = true) γ (γ.row' B v F) ∧ Sat I N w0 S0 (γ.row' B v F) (lowB (B + 1)) E (look ((B, res) :: mem)) a w := by
 have hB : lowB B B = false := by cases h : lowB B B with
  | false => rfl
  | true => exact absurd (blt_iff.1 h) (Nat.lt_irrefl _)
 have hag : Agree (lowB B · = true) γ (γ.row' B v F) := row'_agree hB
 have hmono : ∀ i, lowB B i = true → lowB (B + 1) i = true := fun i hi => blt_iff.2 (Nat.lt_succ_of_lt (blt_iff.1 hi))
 have cse : ∀ i r, look ((B, res) :: mem) i = some r → (i = B ∧ r = res) ∨ (i ≠ B ∧ look mem i = some r) := by
  intro i r h
  rw [look_cons] at h
  split at h
  ·rename_i e; exact .inl ⟨e.symm, by simpa using h.symm⟩
  ·rename_i e; exact .inr ⟨fun h' => e h'.symm, h⟩
 refine ⟨hag, ⟨fun s x h => ?_, fun s x h => ?_, ⟨fun i r h => ?_, fun i r b h hb => ?_, fun i j ri rj b hij h1 h2 hmm hb hb2 => ?_⟩, fun i r h => ?_, hs.fr, fun i r b h hb => ?_, hs.size, hs.defers, hs.amb⟩⟩
 ·rw [hs.env _ _ h, SV.den_agree hag x (hs.eids _ _ h)]
 ·exact SV.ids_mono hmono x (hs.eids _ _ h)
 ·rcases cse i r h with ⟨rfl, rfl⟩ | ⟨hi, h⟩
  ·exact hok
  ·exact resOK_agree hag (hs.mids i r h).1 r (hs.mids i r h).2 (hs.mem.ok i r h)
 ·rcases cse i r h with ⟨rfl, rfl⟩ | ⟨hi, h⟩
  ·exact hlow b (hf b hb)
  ·rw [foot_agree hag (hs.mids i r h).1] at hb; exact hs.mem.low i r b h hb
 ·rcases cse i ri h1 with ⟨rfl, rfl⟩ | ⟨hi, k1⟩
  ·rw [hm] at hmm; cases hmm
  ·rw [foot_agree hag (hs.mids i ri k1).1] at hb
   rcases cse j rj h2 with ⟨rfl, rfl⟩ | ⟨hj, k2⟩
   ·exact hap i ri b k1 hmm hb (hf b hb2)
   ·rw [foot_agree hag (hs.mids j rj k2).1] at hb2
    exact hs.mem.apart i j ri rj b hij k1 k2 hmm hb hb2
 ·rcases cse i r h with ⟨rfl, rfl⟩ | ⟨hi, h⟩
  ·exact ⟨blt_iff.2 (Nat.lt_succ_self _), hid⟩
  ·exact ⟨hmono i (hs.mids i r h).1, res_ids_mono hmono r (hs.mids i r h).2⟩
 ·rcases cse i r h with ⟨rfl, rfl⟩ | ⟨hi, h⟩
  ·rcases hown b (hf b hb) with h1 | h1 | h1
   ·exact .inl h1
   ·exact .inr (.inl h1)
   ·exact .inr (.inr ⟨hm, h1⟩)
  ·rw [foot_agree hag (hs.mids i r h).1] at hb; exact hs.own i r b h hb
theorem sat_freeze {D : Nat → Bool} {E : Nat → Option SV} {mem : Mem} (hs : Sat I N w0 S0 γ D E (look mem) a w) {j : Nat} {q r' : Res} (h : look mem j = some q) (hok : ResOK I γ j w q → ResOK I γ j w r') (hf : r'.foot γ j = q.foot γ j) (hm : r'.mut = false) (hid : r'.ids D = true) : Sat I N w0 S0 γ D E (look ((j, r') :: mem)) a w := by
 have cse : ∀ i p, look ((j, r') :: mem) i = some p → ∃ p0, look mem i = some p0 ∧ (ResOK I γ i w p0 → ResOK I γ i w p) ∧ p.foot γ i = p0.foot γ i ∧ (p.mut = true → p0.mut = true) ∧ (p0.ids D = true → p.ids D = true) := fun i p hp => by
  rw [look_cons] at hp
  split at hp
  ·rename_i e; subst e; simp only [zsI] at hp; subst hp; exact ⟨q, h, hok, hf, (fun h => by rw [hm] at h; cases h), fun _ => hid⟩
  ·exact ⟨p, hp, fun h => h, rfl, fun h => h, fun h => h⟩
 refine ⟨hs.env, hs.eids, ⟨fun i p hp => ?_, fun i p b hp hb => ?_, fun i k p p2 b hik hp hp2 hmm hb hb2 => ?_⟩, fun i p hp => ?_, hs.fr, fun i p b hp hb => ?_, hs.size, hs.defers, hs.amb⟩
 ·obtain ⟨p0, h1, h2, _⟩ := cse i p hp; exact h2 (hs.mem.ok i p0 h1)
 ·obtain ⟨p0, h1, _, h3, _⟩ := cse i p hp; rw [h3] at hb; exact hs.mem.low i p0 b h1 hb
 ·obtain ⟨a0, a1, _, a3, a4, _⟩ := cse i p hp
  obtain ⟨b0, b1, _, b3, _⟩ := cse k p2 hp2
  rw [a3] at hb; rw [b3] at hb2
  exact hs.mem.apart i k a0 b0 b hik a1 b1 (a4 hmm) hb hb2
 ·obtain ⟨p0, h1, _, _, _, h5⟩ := cse i p hp; exact ⟨(hs.mids i p0 h1).1, h5 (hs.mids i p0 h1).2⟩
 ·obtain ⟨p0, h1, _, h3, h4, _⟩ := cse i p hp
  rw [h3] at hb
  rcases hs.own i p0 b h1 hb with h6 | h6 | ⟨h6, h7⟩
  ·exact .inl h6
  ·exact .inr (.inl h6)
  ·refine .inr (.inr ⟨?_, h7⟩)
   cases hp' : p.mut with
   | false => rfl
   | true => rw [h4 hp'] at h6; cases h6
theorem sat_cellX {B i k : Nat} {x : SV} {F : Nat → Prop} {res r : Res} {E : Nat → Option SV} {mem : Mem} (hs : Sat I N w0 S0 γ (lowB B) E (look mem) a w) (hk : cellOf mem i k = some x) (hr : setCell mem i k (.row B) = some r)
  (hok : ResOK I (γ.row' B (x.den γ) F) B w res) (hm : res.mut = false) (hf : ∀ b, res.foot (γ.row' B (x.den γ) F) B b → F b) (hid : res.ids (lowB (B + 1)) = true)
  (hlow : ∀ b, F b → b < w.heap.size) (hap : ∀ i r b, look mem i = some r → r.mut = true → r.foot γ i b → ¬ F b) (hown : ∀ b, F b → w0.heap.size ≤ b ∨ S0.w b ∨ S0.r b) :
  ∃ γ', Agree (lowB B · = true) γ γ' ∧ Sat I N w0 S0 γ' (lowB (B + 1)) E (look ((B, res) :: (i, r) :: mem)) a w := by
 have cells : ∃ ty cs q, look mem i = some q ∧ r = .blk ty (cs.set k (.row B)) ∧ cs[k]? = some x ∧ (ResOK I γ i w q → ResOK I γ i w (.blk ty cs)) ∧ q.foot γ i = (Res.blk ty cs).foot γ i ∧ q.mut = true ∧ SV.idss (lowB B) cs = true := by
  unfold setCell at hr
  unfold cellOf at hk
  split at hr
  ·rename_i ty cs hM
   rw [hM] at hk
   simp only [zsI] at hr
   exact ⟨ty, cs, _, hM, hr.symm, hk, fun h => h, rfl, rfl, (hs.mids i _ hM).2⟩
  ·rename_i ty n arr hM
   rw [hM] at hk
   simp only [zsI] at hr
   refine ⟨ty, arr.toList.map SV.v, _, hM, hr.symm, hk, fun h => ?_, rfl, rfl, ?_⟩
   ·have := h.2
    simp only [ResOK]
    rw [this]
    congr 2
    apply Array.ext'
    have e1 : (SV.den γ ∘ SV.v) = id := by funext x; simp [SV.den]
    simp [dens_eq, e1]
   ·rw [idss_eq, List.all_eq_true]
    intro x hx
    obtain ⟨y, _, rfl⟩ := List.mem_map.1 hx
    simp [SV.ids]
  ·cases hr
 obtain ⟨ty, cs, q, hM, rfl, hck, hq, hqf, hqm, hids⟩ := cells
 have hDi := (hs.mids i _ hM).1
 have hiB : i ≠ B := fun e => by subst e; exact absurd (blt_iff.1 hDi) (Nat.lt_irrefl _)
 have hxid : x.ids (lowB B) = true := by
  rw [idss_eq, List.all_eq_true] at hids
  exact hids x (List.mem_of_getElem? hck)
 have hs1 : Sat I N w0 S0 γ (lowB B) E (look ((i, .blk ty cs) :: mem)) a w := sat_eqv (i := i) (r' := .blk ty cs) hs hM (fun j => by
  rw [look_cons]
  by_cases hj : j = i
  ·rw [if_pos hj.symm, if_pos hj]
  ·rw [if_neg (Ne.symm hj), if_neg hj]) hq hqf.symm hqm.symm hids
 obtain ⟨hag, hs2⟩ := sat_add hs1 hok hm hf hid hlow (fun j p b hj hpm hb => by
  rw [look_cons] at hj
  split at hj
  ·rename_i e; subst e; simp only [zsI] at hj; subst hj; exact hap i q b hM hqm (by rw [hqf]; exact hb)
  ·exact hap j p b hj hpm hb) hown
 refine ⟨γ.row' B (x.den γ) F, hag, sat_eqv (i := i) (r := .blk ty cs) (r' := .blk ty (cs.set k (.row B))) hs2 ?_ (fun j => ?_) (fun h => ?_) rfl rfl ?_⟩
 ·rw [look_cons, if_neg (Ne.symm hiB), look_cons, if_pos rfl]
 ·rw [look_cons, look_cons, look_cons, look_cons]
  by_cases hj : j = i
  ·subst hj; rw [if_neg (Ne.symm hiB), if_pos rfl, if_pos rfl]
  ·rw [if_neg hj, if_neg (Ne.symm hj), if_neg (Ne.symm hj)]
 ·simp only [ResOK] at h ⊢
  rw [h]
  congr 2
  apply Array.ext'
  simp only [dens_eq, List.map_set, SV.den, row'_val]
  have hk2 : (cs.map (SV.den (γ.row' B (x.den γ) F)))[k]? = some (x.den γ) := by rw [List.getElem?_map, hck, Option.map_some, SV.den_agree hag x hxid]
  have := List.set_getElem_self (as := cs.map (SV.den (γ.row' B (x.den γ) F))) (i := k) (List.getElem?_eq_some_iff.1 hk2).1
  rw [(List.getElem?_eq_some_iff.1 hk2).2] at this
  exact this.symm
 ·simp only [Res.ids]
  rw [idss_eq, List.all_eq_true]
  intro y hy
  rcases List.mem_or_eq_of_mem_set hy with hy | rfl
  ·rw [idss_eq, List.all_eq_true] at hids
   exact SV.ids_mono (fun j hj => blt_iff.2 (Nat.lt_succ_of_lt (blt_iff.1 hj))) y (hids y hy)
  ·simp only [SV.ids]; exact blt_iff.2 (Nat.lt_succ_self _)
theorem sat_nilp {B i k : Nat} {ks : List IntKind} {r : Res} {E : Nat → Option SV} {mem : Mem} (hs : Sat I N w0 S0 γ (lowB B) E (look mem) a w) (hk : cellOf mem i k = some (.v (.pointer none))) (hr : setCell mem i k (.row B) = some r) :
  ∃ γ', Agree (lowB B · = true) γ γ' ∧ Sat I N w0 S0 γ' (lowB (B + 1)) E (look ((B, .opt ks []) :: (i, r) :: mem)) a w :=
 sat_cellX (F := fun _ => False) hs hk hr (.inl ⟨by simp [row'_val, SV.den], rfl⟩) rfl (fun b hb => by simp [Res.foot, row'_foot] at hb) rfl (fun _ h => h.elim) (fun _ _ _ _ _ _ h => h) (fun _ h => h.elim)
theorem sat_ptrp {B i j k : Nat} {ks : List IntKind} {ty : TypeId} {cs : List SV} {xs : List Int} {r : Res} {E : Nat → Option SV} {mem : Mem} (hs : Sat I N w0 S0 γ (lowB B) E (look mem) a w) (hij : i ≠ j) (hk : cellOf mem i k = some (.ptr j 0)) (hst : structOf ks (look mem j) = some (ty, cs, xs)) (hr : setCell ((j, .rblk ty cs) :: mem) i k (.row B) = some r) :
  ∃ γ', Agree (lowB B · = true) γ γ' ∧ Sat I N w0 S0 γ' (lowB (B + 1)) E (look ((B, .opt ks [xs]) :: (i, r) :: (j, .rblk ty cs) :: mem)) a w := by
 obtain ⟨q, hq, hqok, hqf, hqm, hqid, hden⟩ := structOf_spec hs.mem hs.mids hst
 have hf1 : q.foot γ j (γ.blk j) := by rw [← hqf]; exact rfl
 have hs1 : Sat I N w0 S0 γ (lowB B) E (look ((j, .rblk ty cs) :: mem)) a w := sat_freeze hs hq hqok hqf rfl hqid
 have hk1 : cellOf ((j, .rblk ty cs) :: mem) i k = some (.ptr j 0) := by
  unfold cellOf at hk ⊢
  rw [look_cons, if_neg (Ne.symm hij)]; exact hk
 have hblk := hqok (hs.mem.ok j q hq)
 simp only [ResOK] at hblk
 refine sat_cellX (F := fun b => b = γ.blk j) hs1 hk1 hr (.inr ⟨⟨γ.blk j, 0, none⟩, xs, by simp [row'_val, SV.den], rfl, by simp [row'_foot], rfl, fun i x hx => ?_⟩) rfl (fun b hb => by simpa [Res.foot, row'_foot] using hb) rfl (fun b hb => ?_) (fun m p b hm hpm hb hbj => ?_) (fun b hb => ?_)
 ·rw [add_off, cell_of_row w _ _ _ _ _ hblk]
  rw [hden]; simpa using hx
 ·rw [hb]; exact hs.mem.low j q _ hq hf1
 ·rw [look_cons] at hm
  split at hm
  ·simp only [zsI] at hm; subst hm; cases hpm
  ·rename_i hjm
   rw [hbj] at hb
   exact hs.mem.apart m j p q _ (Ne.symm hjm) hm hq hpm hb hf1
 ·rw [hb]
  exact lift2 (hs.ownm j q _ hq hqm hf1)
theorem nilsAt_get : ∀ (n : Nat) (l : List SV), nilsAt n l = true → ∀ m, m < n → l[m]? = some (.v (.pointer none))
 | 0, _, _, m, hm => by omega
 | n + 1, .v (.pointer none) :: l, h, m, hm => by
  cases m with
  | zero => rfl
  | succ m => rw [List.getElem?_cons_succ]; exact nilsAt_get n l (by simpa [nilsAt] using h) m (by omega)
 | n + 1, [], h, m, hm => by simp [nilsAt] at h
 | n + 1, .v (.pointer (some _)) :: _, h, m, hm => by simp [nilsAt] at h
 | n + 1, .v (.bool _) :: _, h, m, hm | n + 1, .v (.int ..) :: _, h, m, hm | n + 1, .v (.float ..) :: _, h, m, hm | n + 1, .v (.complex ..) :: _, h, m, hm | n + 1, .v (.string _) :: _, h, m, hm | n + 1, .v (.slice ..) :: _, h, m, hm | n + 1, .v (.agg _) :: _, h, m, hm | n + 1, .v (.tuple _) :: _, h, m, hm | n + 1, .v (.func ..) :: _, h, m, hm | n + 1, .v (.iface ..) :: _, h, m, hm => by simp [nilsAt] at h
 | n + 1, .ptr .. :: _, h, m, hm | n + 1, .sl .. :: _, h, m, hm | n + 1, .row _ :: _, h, m, hm | n + 1, .el .. :: _, h, m, hm | n + 1, .nilq .. :: _, h, m, hm | n + 1, .sel .. :: _, h, m, hm | n + 1, .selp .. :: _, h, m, hm | n + 1, .agg _ :: _, h, m, hm | n + 1, .tup _ :: _, h, m, hm | n + 1, .fn .. :: _, h, m, hm => by simp [nilsAt] at h
theorem sat_nils {B i o n : Nat} {ks : List IntKind} {ty : TypeId} {cs : List SV} {E : Nat → Option SV} {mem : Mem} (hs : Sat I N w0 S0 γ (lowB B) E (look mem) a w) (hb : blkOf (look mem i) = some (ty, cs)) (hn : nilsAt n (cs.drop o) = true) :
  ∃ γ', Agree (lowB B · = true) γ γ' ∧ Sat I N w0 S0 γ' (lowB (B + 1)) E (look ((B, .sels ks (List.replicate n [])) :: (i, .blk ty (cs.take o ++ selList B n 0 ++ cs.drop (o + n))) :: mem)) a w := by
 have cells : ∃ q, look mem i = some q ∧ (ResOK I γ i w q → ResOK I γ i w (.blk ty cs)) ∧ q.foot γ i = (Res.blk ty cs).foot γ i ∧ q.mut = true ∧ SV.idss (lowB B) cs = true := by
  unfold blkOf at hb
  split at hb
  ·rename_i t l hM
   simp only [zsI, zpI] at hb
   obtain ⟨rfl, rfl⟩ := hb
   exact ⟨_, hM, fun h => h, rfl, rfl, (hs.mids i _ hM).2⟩
  ·rename_i t m arr hM
   simp only [zsI, zpI] at hb
   obtain ⟨rfl, rfl⟩ := hb
   refine ⟨_, hM, fun h => ?_, rfl, rfl, ?_⟩
   ·have := h.2
    simp only [ResOK]
    rw [this]
    congr 2
    apply Array.ext'
    have e1 : (SV.den γ ∘ SV.v) = id := by funext x; simp [SV.den]
    simp [dens_eq, e1]
   ·rw [idss_eq, List.all_eq_true]
    intro x hx
    obtain ⟨y, _, rfl⟩ := List.mem_map.1 hx
    simp [SV.ids]
  ·cases hb
 obtain ⟨q, hM, hq, hqf, hqm, hids⟩ := cells
 have hDi := (hs.mids i _ hM).1
 have hiB : i ≠ B := fun e => by subst e; exact absurd (blt_iff.1 hDi) (Nat.lt_irrefl _)
 have hs1 : Sat I N w0 S0 γ (lowB B) E (look ((i, .blk ty cs) :: mem)) a w := sat_eqv (i := i) (r' := .blk ty cs) hs hM (fun j => by
  rw [look_cons]
  by_cases hj : j = i
  ·rw [if_pos hj.symm, if_pos hj]
  ·rw [if_neg (Ne.symm hj), if_neg hj]) hq hqf.symm hqm.symm hids
 have selu : ∀ k, selP (.bool false) k = none := fun k => rfl
 obtain ⟨hag, hs2⟩ := sat_add (v := .bool false) (F := fun _ => False) (res := .sels ks (List.replicate n [])) hs1 (fun k l hl => by
  have : l = [] := by
   have := List.mem_of_getElem? hl
   exact (List.mem_replicate.1 this).2
  subst this
  rw [row'_val, selu]
  exact .inl ⟨rfl, rfl⟩) rfl (fun b hb => by simp [Res.foot, row'_foot] at hb) rfl (fun _ h => h.elim) (fun _ _ _ _ _ _ h => h) (fun _ h => h.elim)
 refine ⟨γ.row' B (.bool false) (fun _ => False), hag, sat_eqv (i := i) (r := .blk ty cs) (r' := .blk ty (cs.take o ++ selList B n 0 ++ cs.drop (o + n))) hs2 ?_ (fun j => ?_) (fun h => ?_) rfl rfl ?_⟩
 ·rw [look_cons, if_neg (Ne.symm hiB), look_cons, if_pos rfl]
 ·rw [look_cons, look_cons, look_cons, look_cons]
  by_cases hj : j = i
  ·subst hj; rw [if_neg (Ne.symm hiB), if_pos rfl, if_pos rfl]
  ·rw [if_neg hj, if_neg (Ne.symm hj), if_neg (Ne.symm hj)]
 ·simp only [ResOK] at h ⊢
  rw [h]
  congr 2
  apply Array.ext'
  simp only [dens_eq, List.map_append, List.map_take, List.map_drop]
  have hnl : ∀ m, m < n → cs[o + m]? = some (.v (.pointer none)) := fun m hm => by
   have := nilsAt_get n _ hn m hm
   rwa [List.getElem?_drop] at this
  have mid : (selList B n 0).map (SV.den (γ.row' B (.bool false) fun _ => False)) = ((cs.map (SV.den (γ.row' B (.bool false) fun _ => False))).drop o).take n := by
   apply List.ext_getElem?
   intro m
   rw [List.getElem?_map, selList_get, List.getElem?_take]
   by_cases hm : m < n
   ·rw [if_pos hm, if_pos hm, List.getElem?_drop, List.getElem?_map, hnl m hm]
    simp [SV.den, row'_val, selu]
   ·rw [if_neg hm, if_neg hm]; rfl
  rw [mid]
  generalize cs.map (SV.den (γ.row' B (.bool false) fun _ => False)) = V
  rw [List.append_assoc, ← List.drop_drop, List.take_append_drop, List.take_append_drop]
 ·simp only [Res.ids]
  have up : ∀ j, lowB B j = true → lowB (B + 1) j = true := fun j hj => blt_iff.2 (Nat.lt_succ_of_lt (blt_iff.1 hj))
  rw [idss_eq, List.all_eq_true] at hids ⊢
  have hsl := selList_ids (p := lowB (B + 1)) (j := B) (blt_iff.2 (Nat.lt_succ_self _)) n 0
  rw [idss_eq, List.all_eq_true] at hsl
  intro y hy
  rcases List.mem_append.1 hy with hy | hy
  ·rcases List.mem_append.1 hy with hy | hy
   ·exact SV.ids_mono up y (hids y (List.mem_of_mem_take hy))
   ·exact hsl y hy
  ·exact SV.ids_mono up y (hids y (List.mem_of_mem_drop hy))
theorem sat_dup {B i j k : Nat} {c : Cont} {r : Res} {E : Nat → Option SV} {mem : Mem} (hs : Sat I N w0 S0 γ (lowB B) E (look mem) a w) (hj : look mem j = some (.ro c)) (hk : cellOf mem i k = some (.row j)) (hr : setCell mem i k (.row B) = some r) :
  ∃ γ', Agree (lowB B · = true) γ γ' ∧ Sat I N w0 S0 γ' (lowB (B + 1)) E (look ((B, .ro c) :: (i, r) :: mem)) a w := by
 refine sat_cellX (F := γ.foot j) hs hk hr ?_ rfl (fun b hb => by simpa [Res.foot, row'_foot] using hb) rfl (fun b hb => hs.mem.low j _ b hj hb) (fun m p b hm hpm hb hbj => ?_) (fun b hb => ?_)
 ·have := hs.mem.ok j _ hj
  simp only [ResOK, row'_foot, row'_val, SV.den] at this ⊢
  exact this
 ·refine hs.mem.apart m j p _ b (fun e => ?_) hm hj hpm hb hbj
  subst e
  rw [hj] at hm
  simp only [zsI] at hm
  subst hm
  cases hpm
 ·rcases hs.own j _ b hj hb with h | h | h
  ·exact .inl h
  ·exact .inr (.inl h)
  ·exact .inr (.inr h.2)
theorem sat_pool0 {B i : Nat} {f : TypeId} {k : IntKind} {E : Nat → Option SV} {mem : Mem} (hs : Sat I N w0 S0 γ (lowB B) E (look mem) a w) (hi : look mem i = some (.own f (.ints k []))) :
  ∃ γ', Agree (lowB B · = true) γ γ' ∧ Sat I N w0 S0 γ' (lowB (B + 1)) E (look ((i, .ownp f B) :: (B, .pool []) :: mem)) a w := by
 have hB : lowB B B = false := by cases h : lowB B B; rfl; exact absurd (blt_iff.1 h) (Nat.lt_irrefl _)
 have hag : Agree (lowB B · = true) γ (γ.row' B (.agg #[]) (fun _ => False)) := row'_agree hB
 have hmono : ∀ i, lowB B i = true → lowB (B + 1) i = true := fun i hi => blt_iff.2 (Nat.lt_succ_of_lt (blt_iff.1 hi))
 have hiB : i ≠ B := fun e => by subst e; have := (hs.mids _ _ hi).1; rw [hB] at this; cases this
 have hm : MSat I (γ.row' B (.agg #[]) (fun _ => False)) (updM [(B, .pool [])] (look mem)) w := msat_shareU hs.mem hs.mids hag hB rfl (by
   simp only [ResOK, row'_val, row'_foot]
   exact ⟨rfl, fun k y xs hy => by simp [poolVs] at hy⟩) (fun x hx => by simp only [Res.foot, row'_foot] at hx)
 have hupd : updM [(B, .pool [])] (look mem) = look ((B, .pool []) :: mem) := by
  funext j; unfold updM; rw [look_cons, look_cons]; split <;> simp [look]
 rw [hupd] at hm
 have cse : ∀ j r, look ((B, Res.pool []) :: mem) j = some r → (j = B ∧ r = .pool []) ∨ (j ≠ B ∧ look mem j = some r) := by
  intro j r h
  rw [look_cons] at h
  split at h
  ·rename_i e; exact .inl ⟨e.symm, by simpa using h.symm⟩
  ·rename_i e; exact .inr ⟨fun h' => e h'.symm, h⟩
 have hs1 : Sat I N w0 S0 (γ.row' B (.agg #[]) (fun _ => False)) (lowB (B + 1)) E (look ((B, .pool []) :: mem)) a w := by
  refine ⟨fun s x h => ?_, fun s x h => SV.ids_mono hmono x (hs.eids _ _ h), hm, fun j r h => ?_, hs.fr, fun j r b h hb => ?_, hs.size, hs.defers, hs.amb⟩
  ·rw [hs.env _ _ h, SV.den_agree hag x (hs.eids _ _ h)]
  ·rcases cse j r h with ⟨rfl, rfl⟩ | ⟨hj, h⟩
   ·exact ⟨blt_iff.2 (Nat.lt_succ_self _), rfl⟩
   ·refine ⟨hmono j (hs.mids j r h).1, ?_⟩
    have := (hs.mids j r h).2
    cases r <;> first | exact SV.idss_mono hmono _ this | rfl
  ·rcases cse j r h with ⟨rfl, rfl⟩ | ⟨hj, h⟩
   ·simp only [Res.foot, row'_foot] at hb
   ·rw [foot_agree hag (hs.mids j r h).1] at hb; exact hs.own j r b h hb
 refine ⟨_, hag, sat_eqv (i := i) (r := .own f (.ints k [])) (r' := .ownp f B) hs1 (by rw [look_cons, if_neg (Ne.symm hiB)]; exact hi) (fun j => ?_) (fun h => ?_) rfl rfl ?_⟩
 ·rw [look_cons]
  by_cases e : i = j
  ·subst e; simp
  ·rw [if_neg e, if_neg (Ne.symm e)]
 ·simp only [ResOK, row'_val] at h ⊢
  exact h
 ·simp only [Res.ids, SV.idss, SV.ids, Bool.and_true]
  exact blt_iff.2 (Nat.lt_succ_self _)
theorem sat_dpool0 {B i : Nat} {f : TypeId} {ks : List IntKind} {E : Nat → Option SV} {mem : Mem} (hs : Sat I N w0 S0 γ (lowB B) E (look mem) a w) (hi : look mem i = some (.own f (.structs ks []))) :
  ∃ γ', Agree (lowB B · = true) γ γ' ∧ Sat I N w0 S0 γ' (lowB (B + 1)) E (look ((i, .ownq f ks.length B) :: (B, .dpool [] [] none) :: mem)) a w := by
 have hB : lowB B B = false := by cases h : lowB B B; rfl; exact absurd (blt_iff.1 h) (Nat.lt_irrefl _)
 have hag : Agree (lowB B · = true) γ (γ.row' B (.agg #[]) (fun _ => False)) := row'_agree hB
 have hmono : ∀ i, lowB B i = true → lowB (B + 1) i = true := fun i hi => blt_iff.2 (Nat.lt_succ_of_lt (blt_iff.1 hi))
 have hiB : i ≠ B := fun e => by subst e; have := (hs.mids _ _ hi).1; rw [hB] at this; cases this
 have hm : MSat I (γ.row' B (.agg #[]) (fun _ => False)) (updM [(B, .dpool [] [] none)] (look mem)) w := msat_shareU hs.mem hs.mids hag hB rfl (by
   simp only [ResOK, row'_val, row'_foot]
   exact ⟨rfl, (fun q k c gs _ _ hk => by simp at hk), 0, fun k c f hk => by simp at hk⟩) (fun x hx => by simp only [Res.foot, row'_foot] at hx)
 have hupd : updM [(B, .dpool [] [] none)] (look mem) = look ((B, .dpool [] [] none) :: mem) := by
  funext j; unfold updM; rw [look_cons, look_cons]; split <;> simp [look]
 rw [hupd] at hm
 have cse : ∀ j r, look ((B, Res.dpool [] [] none) :: mem) j = some r → (j = B ∧ r = .dpool [] [] none) ∨ (j ≠ B ∧ look mem j = some r) := by
  intro j r h
  rw [look_cons] at h
  split at h
  ·rename_i e; exact .inl ⟨e.symm, by simpa using h.symm⟩
  ·rename_i e; exact .inr ⟨fun h' => e h'.symm, h⟩
 have hs1 : Sat I N w0 S0 (γ.row' B (.agg #[]) (fun _ => False)) (lowB (B + 1)) E (look ((B, .dpool [] [] none) :: mem)) a w := by
  refine ⟨fun s x h => ?_, fun s x h => SV.ids_mono hmono x (hs.eids _ _ h), hm, fun j r h => ?_, hs.fr, fun j r b h hb => ?_, hs.size, hs.defers, hs.amb⟩
  ·rw [hs.env _ _ h, SV.den_agree hag x (hs.eids _ _ h)]
  ·rcases cse j r h with ⟨rfl, rfl⟩ | ⟨hj, h⟩
   ·exact ⟨blt_iff.2 (Nat.lt_succ_self _), rfl⟩
   ·refine ⟨hmono j (hs.mids j r h).1, ?_⟩
    have := (hs.mids j r h).2
    cases r <;> first | exact SV.idss_mono hmono _ this | rfl
  ·rcases cse j r h with ⟨rfl, rfl⟩ | ⟨hj, h⟩
   ·simp only [Res.foot, row'_foot] at hb
   ·rw [foot_agree hag (hs.mids j r h).1] at hb; exact hs.own j r b h hb
 refine ⟨_, hag, sat_eqv (i := i) (r := .own f (.structs ks [])) (r' := .ownq f ks.length B) hs1 (by rw [look_cons, if_neg (Ne.symm hiB)]; exact hi) (fun j => ?_) (fun h => ?_) rfl rfl ?_⟩
 ·rw [look_cons]
  by_cases e : i = j
  ·subst e; simp
  ·rw [if_neg e, if_neg (Ne.symm e)]
 ·simp only [ResOK, row'_val] at h ⊢
  rw [show poolVs (.agg #[]) = [] from rfl, List.length_nil, Nat.zero_div]
  exact h
 ·simp only [Res.ids, SV.idss, SV.ids, Bool.and_true]
  exact blt_iff.2 (Nat.lt_succ_self _)
theorem sat_adopt : ∀ (l : List (Nat × TypeId × Cont)) (B : Nat) (env : Env) (mem : Mem) (γ : Vn), Sat I N w0 S0 γ (lowB B) (look env) (look mem) a w →
  ∃ γ', Agree (lowB B · = true) γ γ' ∧ Sat I N w0 S0 γ' (lowB (B + l.length)) (look (adopt l B env mem).1) (look (adopt l B env mem).2) a w
 | [], B, env, mem, γ, hs => ⟨γ, Agree.refl _ _, hs⟩
 | (t, e, c) :: l, B, env, mem, γ, hs => by
  have skip : ∃ γ', Agree (lowB B · = true) γ γ' ∧ Sat I N w0 S0 γ' (lowB (B + (l.length + 1))) (look (adopt l (B + 1) env mem).1) (look (adopt l (B + 1) env mem).2) a w := by
   obtain ⟨γ2, a2, s2⟩ := sat_adopt l (B + 1) _ _ γ (sat_up hs)
   refine ⟨γ2, a2.mono fun i hi => blt_iff.2 (Nat.lt_succ_of_lt (blt_iff.1 hi)), ?_⟩
   rwa [Nat.add_comm l.length 1, ← Nat.add_assoc]
  rw [List.length_cons]
  unfold adopt
  split
  ·rename_i hbig
   split
   ·rename_i f k hi
    obtain ⟨γ1, a1, s1⟩ := sat_pool0 hs hi
    obtain ⟨γ2, a2, s2⟩ := sat_adopt l (B + 1) _ _ γ1 s1
    refine ⟨γ2, a1.trans (a2.mono fun i hi => blt_iff.2 (Nat.lt_succ_of_lt (blt_iff.1 hi))), ?_⟩
    rwa [Nat.add_comm l.length 1, ← Nat.add_assoc]
   ·rename_i f ks hi
    obtain ⟨γ1, a1, s1⟩ := sat_dpool0 hs hi
    obtain ⟨γ2, a2, s2⟩ := sat_adopt l (B + 1) _ _ γ1 s1
    refine ⟨γ2, a1.trans (a2.mono fun i hi => blt_iff.2 (Nat.lt_succ_of_lt (blt_iff.1 hi))), ?_⟩
    rwa [Nat.add_comm l.length 1, ← Nat.add_assoc]
   ·exact skip
  split
  ·rename_i h1 h2
   split
   ·rename_i hlt
    have h1' : look env t = some (.v (.slice none 0 0)) := by unfold slotOf at h1; rw [hlt] at h1; exact h1
    obtain ⟨γ1, a1, s1⟩ := sat_adopt1 (e := e) (c := c) hs h1' h2
    obtain ⟨γ2, a2, s2⟩ := sat_adopt l (B + 1) _ _ γ1 s1
    refine ⟨γ2, a1.trans (a2.mono fun i hi => blt_iff.2 (Nat.lt_succ_of_lt (blt_iff.1 hi))), ?_⟩
    rwa [Nat.add_comm l.length 1, ← Nat.add_assoc]
   ·rename_i hlt
    split
    ·rename_i i off hp
     split
     ·rename_i r hr
      have h1' : cellOf mem i (off + t / 100000 - 1) = some (.v (.slice none 0 0)) := by unfold slotOf at h1; rw [hlt] at h1; simp only [hp] at h1; exact h1
      obtain ⟨γ1, a1, s1⟩ := sat_cell (e := e) (c := c) hs h2 h1' hr
      obtain ⟨γ2, a2, s2⟩ := sat_adopt l (B + 1) _ _ γ1 s1
      refine ⟨γ2, a1.trans (a2.mono fun i hi => blt_iff.2 (Nat.lt_succ_of_lt (blt_iff.1 hi))), ?_⟩
      rwa [Nat.add_comm l.length 1, ← Nat.add_assoc]
     ·exact skip
    ·exact skip
  ·rename_i h1 h2
   split
   ·rename_i ks l0 i off hlt hp
    split
    ·rename_i r hr
     have h1' : cellOf mem i (off + t / 100000 - 1) = some (.v (.pointer none)) := by unfold slotOf at h1; rw [hlt] at h1; simp only [hp] at h1; exact h1
     obtain ⟨γ1, a1, s1⟩ := sat_nilp (ks := ks) hs h1' hr
     obtain ⟨γ2, a2, s2⟩ := sat_adopt l (B + 1) _ _ γ1 s1
     refine ⟨γ2, a1.trans (a2.mono fun i hi => blt_iff.2 (Nat.lt_succ_of_lt (blt_iff.1 hi))), ?_⟩
     rwa [Nat.add_comm l.length 1, ← Nat.add_assoc]
    ·exact skip
   ·exact skip
  ·rename_i j o h1 h2
   split
   ·rename_i ks l0 i off hlt hp
    split
    ·rename_i ty cs xs h0 hst
     split
     ·rename_i r hr
      simp only [zaT, Bool.not_eq_true'] at h0
      have ho := zbE h0.1
      subst ho
      have hij : i ≠ j := fun e => by
       have := h0.2
       rw [e, Nat.beq_refl] at this
       cases this
      have h1' : cellOf mem i (off + t / 100000 - 1) = some (.ptr j 0) := by unfold slotOf at h1; rw [hlt] at h1; simp only [hp] at h1; exact h1
      obtain ⟨γ1, a1, s1⟩ := sat_ptrp hs hij h1' hst hr
      obtain ⟨γ2, a2, s2⟩ := sat_adopt l (B + 1) _ _ γ1 s1
      refine ⟨γ2, a1.trans (a2.mono fun i hi => blt_iff.2 (Nat.lt_succ_of_lt (blt_iff.1 hi))), ?_⟩
      rwa [Nat.add_comm l.length 1, ← Nat.add_assoc]
     ·exact skip
    ·exact skip
   ·exact skip
  ·rename_i n h1 h2
   split
   ·rename_i ks l0 i off hlt hp
    split
    ·rename_i ty cs hb
     split
     ·rename_i hn
      obtain ⟨γ1, a1, s1⟩ := sat_nils (ks := ks) hs hb hn
      obtain ⟨γ2, a2, s2⟩ := sat_adopt l (B + 1) _ _ γ1 s1
      refine ⟨γ2, a1.trans (a2.mono fun i hi => blt_iff.2 (Nat.lt_succ_of_lt (blt_iff.1 hi))), ?_⟩
      rwa [Nat.add_comm l.length 1, ← Nat.add_assoc]
     ·exact skip
    ·exact skip
   ·exact skip
  ·rename_i j h1 h2
   split
   ·rename_i i off c' hlt hp hj
    split
    ·rename_i r hr
     have h1' : cellOf mem i (off + t / 100000 - 1) = some (.row j) := by unfold slotOf at h1; rw [hlt] at h1; simp only [hp] at h1; exact h1
     obtain ⟨γ1, a1, s1⟩ := sat_dup hs hj h1' hr
     obtain ⟨γ2, a2, s2⟩ := sat_adopt l (B + 1) _ _ γ1 s1
     refine ⟨γ2, a1.trans (a2.mono fun i hi => blt_iff.2 (Nat.lt_succ_of_lt (blt_iff.1 hi))), ?_⟩
     rwa [Nat.add_comm l.length 1, ← Nat.add_assoc]
    ·exact skip
   ·exact skip
  ·exact skip
theorem nil_len {M : Nat → Option Res} {i m : Nat} (hs : MSat I γ M w) (h : lenR (M i) = some m) (hn : nilV (γ.val i) = true) : m = 0 := by
 have go : ∀ {F : Nat → Prop} {sz n : Nat} {xs : List Value}, ReadsIn F w (γ.val i) sz n xs → n = 0 := fun h => by
  rcases reads_shape h with ⟨_, h1⟩ | ⟨ad, cap, h1, _⟩
  ·exact h1
  ·rw [h1] at hn; cases hn
 unfold lenR at h
 split at h
 ·rename_i c hM; simp only [zsI] at h; subst h; exact go (row_reads hs (.inl hM))
 ·rename_i e c hM; simp only [zsI] at h; subst h; exact go (row_reads hs (.inr ⟨_, hM⟩))
 ·rename_i l hM; simp only [zsI] at h; subst h; obtain ⟨vs, _, h2, _⟩ := hs.ok i _ hM; exact go h2
 ·rename_i e cs hM; simp only [zsI] at h; subst h; obtain ⟨h1, h2⟩ := hs.ok i _ hM; exact go (own_reads h1 fun g hg => (h2 g).2 hg)
 ·cases h
theorem sat_assume {D : Nat → Bool} {env : Env} {M : Nat → Option Res} {c : Operand} {b : Bool} (hs : Sat I N w0 S0 γ D (look env) M a w) (h : a.eval c = .bool b) : Sat I N w0 S0 γ D (look (assume c b env)) M a w := by
 cases c with
 | tmp d =>
  simp only [assume]
  refine ⟨fun t x hx => ?_, fun t x hx => ?_, hs.mem, hs.mids, hs.fr, hs.own, hs.size, hs.defers, hs.amb⟩
  ·rw [look_cons] at hx
   split at hx
   ·rename_i e
    subst e
    simp only [zsI] at hx
    subst hx
    simp only [Act.eval, Array.getD_eq_getD_getElem?] at h
    simp only [SV.den]
    cases hg : a.tmps[d]? with
    | none => rw [hg] at h; simp [undef] at h
    | some v => rw [hg] at h; simp at h; rw [h]
   ·exact hs.env t x hx
  ·rw [look_cons] at hx
   split at hx
   ·simp only [zsI] at hx; subst hx; simp [SV.ids]
   ·exact hs.eids t x hx
 | _ => exact hs
theorem wp_loop_ghost {α : Type} {c : Code} (J : α → Act → World → Prop) (μ : α → Nat) (x0 : α) (h0 : J x0 a w) (round : ∀ x a w, J x a w → c.wp P (Exit.then (fun a' w' => ∃ x', J x' a' w' ∧ μ x' < μ x) Q) a w) : (Code.loop c).wp P Q a w := by
 intro b k cs
 have key : ∀ n x a w, μ x = n → J x a w → ∃ e a' w', Q e a' w' ∧ Arrives P (lone (b.at a (.code c :: .inLoop c :: k)) cs w) b k cs e a' w' := by
  intro n
  induction n using Nat.strongRecOn with
  | _ n ih =>
   intro x a w hn hJ
   obtain ⟨e, a₁, w₁, hq, harr⟩ := round x a w hJ b (.inLoop c :: k) cs
   cases e with
   | normal =>
    obtain ⟨x', hJ', hlt⟩ := hq
    obtain ⟨e₂, a₂, w₂, hq₂, harr₂⟩ := ih (μ x') (hn ▸ hlt) x' a₁ w₁ rfl hJ'
    exact ⟨e₂, a₂, w₂, hq₂, .of_steps (Steps.trans harr (.one step_inLoop)) harr₂⟩
   | exit id => exact ⟨_, a₁, w₁, hq, .pass (x := .inLoop c) rfl (fun _ _ => .inl (by simp)) harr⟩
   | goto l => exact ⟨_, a₁, w₁, hq, .pass (x := .inLoop c) rfl (fun _ _ => .inl (by simp)) harr⟩
   | ret => exact ⟨_, a₁, w₁, hq, .pass (x := .inLoop c) rfl (fun _ _ => .inl (by simp)) harr⟩
   | panic ch => exact ⟨_, a₁, w₁, hq, .pass (x := .inLoop c) rfl (fun _ _ => .inl (by simp)) harr⟩
   | outgrown => exact ⟨_, a₁, w₁, hq, .pass (x := .inLoop c) rfl (fun _ _ => .inl (by simp)) harr⟩
 obtain ⟨e, a', w', hq, harr⟩ := key _ x0 a w rfl h0
 exact ⟨e, a', w', hq, .of_steps (.one step_loop) harr⟩
def Out (I : Interp) (N : Nat) (w0 : World) (S0 : Ft) (γ : Vn) (B : Nat) (K : Exit → Nat → Env → Mem → Prop) (e : Exit) (a' : Act) (w' : World) : Prop :=
 ∃ (B' : Nat) (env' : Env) (mem' : Mem) (γ' : Vn), B ≤ B' ∧ Agree (lowB B · = true) γ γ' ∧ K e B' env' mem' ∧ Sat I N w0 S0 γ' (lowB B') (look env') (look mem') a' w'
theorem lowB_mono {B B' : Nat} (h : B ≤ B') : ∀ i, lowB B i = true → lowB B' i = true := fun i hi => blt_iff.2 (Nat.lt_of_lt_of_le (blt_iff.1 hi) h)
theorem Out.back {B B1 : Nat} {γ1 : Vn} {K : Exit → Nat → Env → Mem → Prop} {e : Exit} (hB : B ≤ B1) (hγ : Agree (lowB B · = true) γ γ1) (h : Out I N w0 S0 γ1 B1 K e a w) : Out I N w0 S0 γ B K e a w := by
 obtain ⟨B', env', mem', γ', h1, h2, h3, h4⟩ := h
 exact ⟨B', env', mem', γ', Nat.le_trans hB h1, hγ.trans (h2.mono (lowB_mono hB)), h3, h4⟩
theorem linOk_spec {B : Nat} : ∀ (l : List Rec) (k : Nat), linOk B l k = true → ∀ i r, l[i]? = some r → recOk B (fun j i => Nat.blt i j) (k + i) r = true
 | [], _, _, i, r, h => by simp at h
 | q :: l, k, hl, i, r, h => by
  simp only [linOk, zaT] at hl
  cases i with
  | zero => simp only [List.getElem?_cons_zero, zsI] at h; subst h; exact hl.1
  | succ i =>
   have := linOk_spec l (k + 1) hl.2 i r (by simpa using h)
   rwa [show k + (i + 1) = k + 1 + i by omega]
theorem region_sound (hsp : ∀ f s, sp f = some s → SpecOK I P f s) (hm : P.follows .mixedOrders = true) {an : List Ann} {id n B : Nat} {l : List Oper} {draw : Bool} {env : Env} {mem : Mem} {K : Exit → Nat → Env → Mem → Prop}
  (h : wpc P sp N an (.region id l.toArray draw) n B env mem K) (hs : Sat I N w0 S0 γ (lowB B) (look env) (look mem) a w) : (Code.region id l.toArray draw).wp P (Out I N w0 S0 γ B K) a w := by
 rw [wpc] at h
 split at h
 ·rename_i hd
  have hd' : ∀ (j : Nat) (o : Oper) (d : Tmp), l[j]? = some o → o.dst = some d → d < N := fun j o d ho hdd => by
   have hmem : o ∈ l := List.mem_iff_getElem?.2 ⟨j, ho⟩
   have := List.all_eq_true.1 hd o (by simpa using hmem)
   simp only [hdd] at this
   exact blt_iff.1 this
  obtain ⟨rs, env', mem', recs, _, hval, hE, hM, hrec, hK⟩ := runR_elim (E0 := look env) (M0 := look mem) l 0 env mem [] (fun _ => skipRec) (by simp) (fun i => by simp) rfl (fun i hi => by omega) (by funext t; rfl) (by funext t; rfl) h
  cases draw with
  | true =>
   simp only [] at hK
   split at hK
   ·rename_i hconf
    have hc := conf_of (rs := rs) hconf (fun k hk => hrec k (by simpa using hk))
    refine any_order hsp hm (fun j o ho => hval j o (Nat.zero_le _) (by simpa using ho)) hc (fun j o d ho => hd' j o d (by simpa using ho)) hs fun γ' a' w' hγ hsat => ?_
    refine ⟨_, env', mem', γ', ?_, hγ, hK, sat_same hsat (fun _ => rfl) (by rw [hE]; simp) (by rw [hM]; simp)⟩
    simp
   ·exact hK.elim
  | false =>
   simp only [] at hK
   split at hK
   ·rename_i hlin
    have hl := linOk_spec _ 0 hlin
    refine in_order hsp (fun j o ho => hval j o (Nat.zero_le _) ho) (fun j o ho => ?_) hd' hs fun γ' a' w' hγ hsat => ?_
    ·have := hl j (rs j) (hrec j (List.getElem?_eq_some_iff.1 ho).1)
     simpa using this
    ·refine ⟨_, env', mem', γ', ?_, hγ, hK, sat_same hsat (fun _ => by simp) (by rw [hE]) (by rw [hM])⟩
     simp
   ·exact hK.elim
 ·exact h.elim
theorem wpc_sound (hsp : ∀ f s, sp f = some s → SpecOK I P f s) (hm : P.follows .mixedOrders = true) {an : List Ann} : ∀ (c : Code) (n B : Nat) (env : Env) (mem : Mem) (K : Exit → Nat → Env → Mem → Prop) (γ : Vn) (a : Act) (w : World),
  wpc P sp N an c n B env mem K → Sat I N w0 S0 γ (lowB B) (look env) (look mem) a w → c.wp P (Out I N w0 S0 γ B K) a w
 | .skip, n, B, env, mem, K, γ, a, w, h, hs => wp_skip ⟨B, env, mem, γ, Nat.le_refl _, Agree.refl _ _, by rwa [wpc] at h, hs⟩
 | .label l, n, B, env, mem, K, γ, a, w, h, hs => wp_label ⟨B, env, mem, γ, Nat.le_refl _, Agree.refl _ _, by rwa [wpc] at h, hs⟩
 | .exit id, n, B, env, mem, K, γ, a, w, h, hs => wp_exit ⟨B, env, mem, γ, Nat.le_refl _, Agree.refl _ _, by rwa [wpc] at h, hs⟩
 | .ret, n, B, env, mem, K, γ, a, w, h, hs => wp_ret ⟨B, env, mem, γ, Nat.le_refl _, Agree.refl _ _, by rwa [wpc] at h, hs⟩
 | .region id ops draw, n, B, env, mem, K, γ, a, w, h, hs => region_sound (l := ops.toList) hsp hm h hs
 | .seq x y, n, B, env, mem, K, γ, a, w, h, hs => by
  rw [wpc] at h
  refine wp_seq (Code.wp_mono ?_ (wpc_sound hsp hm x n B env mem _ γ a w h hs))
  rintro e a' w' ⟨B', env', mem', γ', h1, h2, h3, h4⟩
  cases e with
  | normal =>
   refine Code.wp_mono ?_ (wpc_sound hsp hm y (n + loopsIn x) B' env' mem' K γ' a' w' h3 h4)
   rintro e2 a2 w2 h5
   exact h5.back h1 h2
  | _ => exact ⟨B', env', mem', γ', h1, h2, h3, h4⟩
 | .cond c x y, n, B, env, mem, K, γ, a, w, h, hs => by
  rw [wpc] at h
  split at h
  ·rename_i t ht
   have hc : a.eval c = .bool t := by rw [eval_of hs ht]; simp [SV.den]
   have hsame : look (assume c t env) = look env := by
    unfold assume
    cases c with
    | tmp d =>
     simp only [ev] at ht
     funext s
     rw [look_cons]
     split
     ·rename_i e; subst e; exact ht.symm
     ·rfl
    | _ => rfl
   cases t with
   | true => exact wp_cond_true hc (wpc_sound hsp hm x n B _ mem K γ a w h (by rw [hsame]; exact hs))
   | false => exact wp_cond_false hc (wpc_sound hsp hm y (n + loopsIn x) B _ mem K γ a w h (by rw [hsame]; exact hs))
  ·rename_i i neg ht
   have hc : a.eval c = .bool (negB neg (nilV (γ.val i))) := by rw [eval_of hs ht]; simp [SV.den]
   split at h
   ·rename_i m hm'
    have hlen := nil_len hs.mem hm'
    have tr : a.eval c = .bool true → wpc P sp N an x n B (assume c true env) mem K → (Code.cond c x y).wp P (Out I N w0 S0 γ B K) a w := fun e hx =>
     wp_cond_true e (wpc_sound hsp hm x n B _ mem K γ a w hx (sat_assume hs e))
    have fa : a.eval c = .bool false → wpc P sp N an y (n + loopsIn x) B (assume c false env) mem K → (Code.cond c x y).wp P (Out I N w0 S0 γ B K) a w := fun e hy =>
     wp_cond_false e (wpc_sound hsp hm y (n + loopsIn x) B _ mem K γ a w hy (sat_assume hs e))
    cases hn : nilV (γ.val i) with
    | true =>
     have h0 := hlen hn
     subst h0
     split at h
     ·exact tr (by rw [hc, hn]; rfl) h.1
     ·exact fa (by rw [hc, hn]; rfl) h.2
    | false =>
     split at h
     ·exact fa (by rw [hc, hn]; rfl) h.2
     ·exact tr (by rw [hc, hn]; rfl) h.1
   ·exact h.elim
  ·exact h.elim
 | .block id c, n, B, env, mem, K, γ, a, w, h, hs => by
  rw [wpc] at h
  refine wp_block (Code.wp_mono ?_ (wpc_sound hsp hm c n B env mem _ γ a w h hs))
  rintro e a' w' ⟨B', env', mem', γ', h1, h2, h3, h4⟩
  cases e with
  | exit id' =>
   simp only [Exit.inBlock]
   simp only [] at h3
   split at h3
   ·rename_i he; rw [if_pos (zbE he)]; exact ⟨B', env', mem', γ', h1, h2, h3, h4⟩
   ·rename_i he
    rw [if_neg (fun e => by subst e; simp at he)]
    exact ⟨B', env', mem', γ', h1, h2, h3, h4⟩
  | _ => exact ⟨B', env', mem', γ', h1, h2, h3, h4⟩
 | .scope c, n, B, env, mem, K, γ, a, w, h, hs => by
  rw [wpc] at h
  refine wp_scope_straight (Code.wp_mono ?_ (wpc_sound hsp hm c n B env mem _ γ a w h hs))
  rintro e a' w' ⟨B', env', mem', γ', h1, h2, h3, h4⟩
  cases e with
  | goto l => exact h3.elim
  | _ => exact ⟨B', env', mem', γ', h1, h2, h3, h4⟩
 | .loop c, n, B0, env0, mem0, K, γ, a, w, h, hs => by
  rw [wpc] at h
  split at h
  ·rename_i A hA
   split at h
   ·rename_i u hu
    refine wp_loop_rounds (u + 1) ?_
    have key : ∀ (m : Nat) (B1 : Nat) (env : Env) (mem : Mem) (γ1 : Vn) (a : Act) (w : World), B0 ≤ B1 → Agree (lowB B0 · = true) γ γ1 → unroll (fun B env mem K => wpc P sp N an c (n + 1) B env mem K) K m B1 env mem → Sat I N w0 S0 γ1 (lowB B1) (look env) (look mem) a w → Code.rounds P c (Out I N w0 S0 γ B0 K) m a w := by
     intro m
     induction m with
     | zero => intro B1 env mem γ1 a w _ _ hk _; exact hk.elim
     | succ m ih =>
      intro B1 env mem γ1 a w hB hγ hk hs1
      rw [rounds_succ]
      refine Code.wp_mono ?_ (wpc_sound hsp hm c (n + 1) B1 env mem _ γ1 a w hk hs1)
      rintro e a2 w2 ⟨B', env', mem', γ2, h1, h2, h3, h4⟩
      cases e with
      | normal => exact ih B' env' mem' γ2 a2 w2 (Nat.le_trans hB h1) (hγ.trans (h2.mono (lowB_mono hB))) h3 h4
      | _ => exact Out.back hB hγ ⟨B', env', mem', γ2, h1, h2, h3, h4⟩
    exact key (u + 1) B0 env0 mem0 γ a w (Nat.le_refl _) (Agree.refl _ _) h hs
   ·rename_i m pt hu
    obtain ⟨γ0, ag0, hs0⟩ := sat_adopt A.ren B0 env0 mem0 γ hs
    split at h
    rename_i env mem hap
    rw [hap] at hs0
    split at h
    case h_2 => exact h.elim
    rename_i hm0
    have hL0 : B0 ≤ B0 + A.ren.length := Nat.le_add_right _ _
    generalize B0 + A.ren.length = B at h hs0 hL0
    have hL1 : B ≤ B + A.ren.length := Nat.le_add_right _ _
    obtain ⟨hf0, hround0⟩ := h
    have hround := allN_spec m 0 hround0
    have ren_ag : ∀ (γ : Vn) (env : Env) (mem : Mem), Agree (lowB B · = true) γ (γ.comp (renOf A.ren B env mem)) := fun γ env mem => by
     refine ⟨fun i hi => ?_, fun i hi => ?_, fun i hi => ?_⟩ <;> simp only [Vn.comp] <;> rw [renOf_low _ _ _ _ _ (blt_iff.1 hi)]
    have low : ∀ x, lowOk (B + A.ren.length) (A.env B x ++ kept env A.keep) (headOf A B x env mem) = true → (∀ t v, look (A.env B x ++ kept env A.keep) t = some v → v.ids (lowB (B + A.ren.length)) = true) ∧ (∀ i r, look (headOf A B x env mem) i = some r → lowB (B + A.ren.length) i = true ∧ r.ids (lowB (B + A.ren.length)) = true) := by
     intro x hx
     simp only [lowOk, zaT] at hx
     refine ⟨fun t v hv => List.all_eq_true.1 hx.1 (t, v) (look_mem hv), fun i r hr => ?_⟩
     have := List.all_eq_true.1 hx.2 (i, r) (look_mem hr)
     simpa using this
    have hlow : ∀ r, r < m → lowOk (B + A.ren.length) (A.env B (pt r) ++ kept env A.keep) (headOf A B (pt r) env mem) = true := by
     intro r hr
     have := hround r (Nat.zero_le _) (by omega)
     split at this
     ·assumption
     ·exact this.elim
    have hm0' : 0 < m := blt_iff.1 hm0
    refine Code.wp_mono (fun e a' w' (h5 : Out I N w0 S0 γ0 B K e a' w') => h5.back hL0 ag0) ?_
    refine wp_loop_ghost (fun r a' w' => r < m ∧ ∃ γ', Agree (lowB B · = true) γ0 γ' ∧ Sat I N w0 S0 γ' (lowB (B + A.ren.length)) (look (A.env B (pt r) ++ kept env A.keep)) (look (headOf A B (pt r) env mem)) a' w') (fun r => m - r) 0 ⟨hm0', _, ren_ag γ0 env mem, ?_⟩ ?_
    ·exact sat_fits hs0 hf0 (low _ (hlow 0 hm0')).1 (low _ (hlow 0 hm0')).2
    ·rintro r a' w' ⟨hr, γ', hγ, hsat⟩
     have hb := hround r (Nat.zero_le _) (by omega)
     rw [hlow r hr] at hb
     simp only [] at hb
     refine Code.wp_mono ?_ (wpc_sound hsp hm c (n + 1) (B + A.ren.length) _ _ _ γ' a' w' hb hsat)
     rintro e a2 w2 ⟨B', env', mem', γ2, h1, h2, h3, h4⟩
     have h2' : Agree (lowB B · = true) γ' γ2 := h2.mono (lowB_mono hL1)
     cases e with
     | normal =>
      simp only at h3
      split at h3
      ·rename_i hlt
       have hlt' := blt_iff.1 hlt
       exact ⟨r + 1, ⟨hlt', _, hγ.trans (h2'.trans (ren_ag γ2 env' mem')), sat_fits h4 h3 (low _ (hlow _ hlt')).1 (low _ (hlow _ hlt')).2⟩, by omega⟩
      ·exact h3.elim
     | _ => exact ⟨B', env', mem', γ2, Nat.le_trans hL1 h1, hγ.trans h2', h3, h4⟩
   ·rename_i κ hu
    obtain ⟨γ0, ag0, hs0⟩ := sat_adopt A.ren B0 env0 mem0 γ hs
    split at h
    rename_i env mem hap
    rw [hap] at hs0
    have hL0 : B0 ≤ B0 + A.ren.length := Nat.le_add_right _ _
    generalize B0 + A.ren.length = B at h hs0 hL0
    have hL1 : B ≤ B + A.ren.length := Nat.le_add_right _ _
    obtain ⟨x0, hC0, hf0, hround⟩ := h
    have ren_ag : ∀ (γ : Vn) (env : Env) (mem : Mem), Agree (lowB B · = true) γ (γ.comp (renOf A.ren B env mem)) := fun γ env mem => by
     refine ⟨fun i hi => ?_, fun i hi => ?_, fun i hi => ?_⟩ <;> simp only [Vn.comp] <;> rw [renOf_low _ _ _ _ _ (blt_iff.1 hi)]
    have low : ∀ x, lowOk (B + A.ren.length) (A.env B x ++ kept env A.keep) (headOf A B x env mem) = true → (∀ t v, look (A.env B x ++ kept env A.keep) t = some v → v.ids (lowB (B + A.ren.length)) = true) ∧ (∀ i r, look (headOf A B x env mem) i = some r → lowB (B + A.ren.length) i = true ∧ r.ids (lowB (B + A.ren.length)) = true) := by
     intro x hx
     simp only [lowOk, zaT] at hx
     refine ⟨fun t v hv => List.all_eq_true.1 hx.1 (t, v) (look_mem hv), fun i r hr => ?_⟩
     have := List.all_eq_true.1 hx.2 (i, r) (look_mem hr)
     simpa using this
    have hlow : ∀ x, A.C x → κ x = κ x0 → lowOk (B + A.ren.length) (A.env B x ++ kept env A.keep) (headOf A B x env mem) = true := by
     intro x hx hk
     have := hround x hx hk
     split at this
     ·assumption
     ·exact this.elim
    refine Code.wp_mono (fun e a' w' (h5 : Out I N w0 S0 γ0 B K e a' w') => h5.back hL0 ag0) ?_
    refine wp_loop_ghost (fun x a' w' => (A.C x ∧ κ x = κ x0) ∧ ∃ γ', Agree (lowB B · = true) γ0 γ' ∧ Sat I N w0 S0 γ' (lowB (B + A.ren.length)) (look (A.env B x ++ kept env A.keep)) (look (headOf A B x env mem)) a' w') A.μ x0 ⟨⟨hC0, rfl⟩, _, ren_ag γ0 env mem, ?_⟩ ?_
    ·exact sat_fits hs0 hf0 (low x0 (hlow x0 hC0 rfl)).1 (low x0 (hlow x0 hC0 rfl)).2
    ·rintro x a' w' ⟨⟨hC, hk⟩, γ', hγ, hsat⟩
     have hb := hround x hC hk
     rw [hlow x hC hk] at hb
     simp only [] at hb
     refine Code.wp_mono ?_ (wpc_sound hsp hm c (n + 1) (B + A.ren.length) _ _ _ γ' a' w' hb hsat)
     rintro e a2 w2 ⟨B', env', mem', γ2, h1, h2, h3, h4⟩
     have h2' : Agree (lowB B · = true) γ' γ2 := h2.mono (lowB_mono hL1)
     cases e with
     | normal =>
      obtain ⟨x', hC', hk', hlt, hf⟩ := h3
      exact ⟨x', ⟨⟨hC', hk'⟩, _, hγ.trans (h2'.trans (ren_ag γ2 env' mem')), sat_fits h4 hf (low x' (hlow x' hC' hk')).1 (low x' (hlow x' hC' hk')).2⟩, hlt⟩
     | _ => exact ⟨B', env', mem', γ2, Nat.le_trans hL1 h1, hγ.trans h2', h3, h4⟩
   ·obtain ⟨γ0, ag0, hs0⟩ := sat_adopt A.ren B0 env0 mem0 γ hs
    split at h
    rename_i env mem hap
    rw [hap] at hs0
    have hL0 : B0 ≤ B0 + A.ren.length := Nat.le_add_right _ _
    generalize B0 + A.ren.length = B at h hs0 hL0
    have hL1 : B ≤ B + A.ren.length := Nat.le_add_right _ _
    obtain ⟨⟨x0, hC0, hf0⟩, hround⟩ := h
    have ren_ag : ∀ (γ : Vn) (env : Env) (mem : Mem), Agree (lowB B · = true) γ (γ.comp (renOf A.ren B env mem)) := fun γ env mem => by
     refine ⟨fun i hi => ?_, fun i hi => ?_, fun i hi => ?_⟩ <;> simp only [Vn.comp] <;> rw [renOf_low _ _ _ _ _ (blt_iff.1 hi)]
    have low : ∀ x, lowOk (B + A.ren.length) (A.env B x ++ kept env A.keep) (headOf A B x env mem) = true → (∀ t v, look (A.env B x ++ kept env A.keep) t = some v → v.ids (lowB (B + A.ren.length)) = true) ∧ (∀ i r, look (headOf A B x env mem) i = some r → lowB (B + A.ren.length) i = true ∧ r.ids (lowB (B + A.ren.length)) = true) := by
     intro x hx
     simp only [lowOk, zaT] at hx
     refine ⟨fun t v hv => List.all_eq_true.1 hx.1 (t, v) (look_mem hv), fun i r hr => ?_⟩
     have := List.all_eq_true.1 hx.2 (i, r) (look_mem hr)
     simpa using this
    have hlow : ∀ x, A.C x → lowOk (B + A.ren.length) (A.env B x ++ kept env A.keep) (headOf A B x env mem) = true := by
     intro x hx
     have := hround x hx
     split at this
     ·assumption
     ·exact this.elim
    refine Code.wp_mono (fun e a' w' (h5 : Out I N w0 S0 γ0 B K e a' w') => h5.back hL0 ag0) ?_
    refine wp_loop_ghost (fun x a' w' => A.C x ∧ ∃ γ', Agree (lowB B · = true) γ0 γ' ∧ Sat I N w0 S0 γ' (lowB (B + A.ren.length)) (look (A.env B x ++ kept env A.keep)) (look (headOf A B x env mem)) a' w') A.μ x0 ⟨hC0, _, ren_ag γ0 env mem, ?_⟩ ?_
    ·exact sat_fits hs0 hf0 (low x0 (hlow x0 hC0)).1 (low x0 (hlow x0 hC0)).2
    ·rintro x a' w' ⟨hC, γ', hγ, hsat⟩
     have hb := hround x hC
     rw [hlow x hC] at hb
     simp only [] at hb
     refine Code.wp_mono ?_ (wpc_sound hsp hm c (n + 1) (B + A.ren.length) _ _ _ γ' a' w' hb hsat)
     rintro e a2 w2 ⟨B', env', mem', γ2, h1, h2, h3, h4⟩
     have h2' : Agree (lowB B · = true) γ' γ2 := h2.mono (lowB_mono hL1)
     cases e with
     | normal =>
      obtain ⟨x', hC', hlt, hf⟩ := h3
      exact ⟨x', ⟨hC', _, hγ.trans (h2'.trans (ren_ag γ2 env' mem')), sat_fits h4 hf (low x' (hlow x' hC')).1 (low x' (hlow x' hC')).2⟩, hlt⟩
     | _ => exact ⟨B', env', mem', γ2, Nat.le_trans hL1 h1, hγ.trans h2', h3, h4⟩
  ·exact h.elim
 | .rangeFunc .., n, B, env, mem, K, γ, a, w, h, hs => by rw [wpc] at h; exact h.elim
 | .goto .., n, B, env, mem, K, γ, a, w, h, hs => by rw [wpc] at h; exact h.elim
 | .refuse .., n, B, env, mem, K, γ, a, w, h, hs => by rw [wpc] at h; exact h.elim
end
end Sx

/- Contracts out of walks. -/
namespace Sx
open Go
set_option linter.unusedVariables false
set_option linter.unusedSimpArgs false

def resK (P : Program) (env : Env) (mem : Mem) : List ResultVar → (List SV → Prop) → Prop
 | [], K => K []
 | .tmp t :: rs, K => match look env t with
  | some x => resK P env mem rs fun xs => K (x :: xs)
  | none => False
 | .cell a t :: rs, K => match look env a with
  | some (.ptr i off) => loadStep P (look mem) (fun r => resK P env mem rs fun xs => K (r.v :: xs)) False t i off
  | _ => False
def tupled (xs : List SV) : SV := match xs with
 | [x] => x
 | xs => match reals xs with
  | some l => .v (.tuple l.toArray)
  | none => .tup xs
theorem tupled_den (γ : Vn) (xs : List SV) : (tupled xs).den γ = (if h : (SV.dens γ xs).toArray.size = 1 then (SV.dens γ xs).toArray[0] else .tuple (SV.dens γ xs).toArray) := by
 unfold tupled
 split
 ·rename_i x; simp [SV.dens]
 ·rename_i h
  have hn : (SV.dens γ xs).toArray.size ≠ 1 := by
   simp only [List.size_toArray, dens_length]
   intro e
   match xs, e with
   | [x], _ => exact h x rfl
  rw [dif_neg hn]
  split
  ·rename_i l hl; simp [SV.den, reals_den hl]
  ·simp [SV.den]
section
variable {I : Interp} {P : Program} {sp : FuncId → Option Spec} {N : Nat} {w0 : World} {S0 : Ft} {γ : Vn} {D : Nat → Bool} {a : Act} {w : World}
theorem load_elim {α β : Type} {M : Nat → Option Res} {t : TypeId} {i off : Nat} (φ : α → β) (ok : Rec → α) (no : α) :
  φ (loadStep P M ok no t i off) = loadStep P M (fun r => φ (ok r)) (φ no) t i off := by
 unfold loadStep
 repeat' (first | rfl | split)
theorem load_some {M : Nat → Option Res} {t : TypeId} {i off : Nat} {K : Rec → Prop} (h : loadStep P M K False t i off) : ∃ r, loadStep P M some none t i off = some r ∧ K r := by
 have e := load_elim (P := P) (M := M) (t := t) (i := i) (off := off) (fun x : Option Rec => match x with | some r => K r | none => False) some none
 simp only at e
 rw [← e] at h
 cases hs : loadStep P M some none t i off with
 | none => rw [hs] at h; exact h.elim
 | some r => rw [hs] at h; exact ⟨r, rfl, h⟩
theorem load_run {M : Nat → Option Res} {E : Nat → Option SV} {t : TypeId} {i off : Nat} {r : Rec} (h : loadStep P M some none t i off = some r) (hs : Sat I N w0 S0 γ D E M a w) : (loadVar t ⟨γ.blk i, off, none⟩).run P w = .ok (r.v.den γ) w := by
 unfold loadStep at h
 split at h
 ·rename_i e n arr hk hM
  obtain ⟨ti, hti, hu, hc⟩ := known_info hk
  have hok := hs.mem.ok i _ hM
  simp only [ResOK] at hok
  obtain ⟨hn, hg⟩ := hok
  have hl := run_loadVar (w := w) (off := off) hti hu hg
  rw [hc] at h
  split at h
  ·rename_i hagg
   split at h
   ·rename_i hw
    simp only [zaT] at hw
    have h1 := zbE hw.1
    have h2 := zbE hw.2
    simp only [zsI] at h
    subst h
    rw [hl.1 hagg (by omega)]
    subst h1
    simp only [SV.den, List.drop_zero]
    congr 2
    rw [List.take_of_length_le (by simp; omega)]
   ·split at h
    ·rename_i hw
     have h1 := zbL hw
     simp only [zsI] at h
     subst h
     rw [hl.1 hagg (by omega)]
     simp only [SV.den]
     congr 2
     apply Array.ext'
     simp [Array.toList_extract, List.extract_eq_take_drop]
    ·cases h
  ·rename_i hagg
   split at h
   ·rename_i hw
    have h1 : off < n := zbL hw
    split at h
    ·rename_i l hb
     have hby := bytesOf_den hb
     simp only [zsI] at h
     subst h
     simp only [SV.den]
     refine hl.2 hagg _ ?_
     have h2 : off < l.length := by
      have := congrArg List.length hby
      simp only [Array.length_toList, List.length_map] at this
      omega
     rw [← Array.getElem?_toList, hby]
     simp [List.getD, h2]
    ·simp only [zsI] at h
     subst h
     simp only [SV.den]
     refine hl.2 hagg _ ?_
     have : off < arr.size := by omega
     simp [Array.getD, this]
   ·cases h
 ·rename_i e cs hk hM
  obtain ⟨ti, hti, hu, hc⟩ := known_info hk
  have hg := hs.mem.ok i _ hM
  simp only [ResOK] at hg
  have hl := run_loadVar (w := w) (off := off) hti hu hg
  rw [hc] at h
  split at h
  ·rename_i hagg
   split at h
   ·rename_i hw
    have h1 := zbL hw
    simp only [zsI] at h
    subst h
    rw [hl.1 hagg (by simpa [dens_length] using h1), mkAgg_den, dens_take, dens_drop]
   ·cases h
  ·rename_i hagg
   split at h
   ·rename_i y hy
    simp only [zsI] at h
    subst h
    refine hl.2 hagg _ ?_
    simp [dens_eq, hy]
   ·cases h
 ·rename_i e cs hk hM
  obtain ⟨ti, hti, hu, hc⟩ := known_info hk
  have hg := hs.mem.ok i _ hM
  simp only [ResOK] at hg
  have hl := run_loadVar (w := w) (off := off) hti hu hg
  rw [hc] at h
  split at h
  ·rename_i hagg
   split at h
   ·rename_i hw
    have h1 := zbL hw
    simp only [zsI] at h
    subst h
    rw [hl.1 hagg (by simpa [dens_length] using h1), mkAgg_den, dens_take, dens_drop]
   ·cases h
  ·rename_i hagg
   split at h
   ·rename_i y hy
    simp only [zsI] at h
    subst h
    refine hl.2 hagg _ ?_
    simp [dens_eq, hy]
   ·cases h
 ·cases h
def readRes (tmps : Array Value) : ResultVar → Sem Value
 | .tmp t => pure (tmps.getD t undef)
 | .cell ad t => do loadVar t (← asAddr (tmps.getD ad undef))
theorem results_eq (fn : Func) (tmps : Array Value) : results fn tmps = (fn.results.mapM (readRes tmps) >>= fun vs => pure (if h : vs.size = 1 then vs[0] else .tuple vs)) := rfl
theorem resK_elim {env : Env} {mem : Mem} (hs : Sat I N w0 S0 γ D (look env) (look mem) a w) : ∀ (rs : List ResultVar) (K : List SV → Prop), resK P env mem rs K →
  ∃ xs, K xs ∧ (rs.mapM (readRes a.tmps)).run P w = .ok (SV.dens γ xs) w
 | [], K, h => ⟨[], h, by simp [SV.dens]⟩
 | .tmp t :: rs, K, h => by
  rw [resK] at h
  split at h
  ·rename_i x hx
   obtain ⟨xs, h1, h2⟩ := resK_elim hs rs _ h
   refine ⟨x :: xs, h1, ?_⟩
   have := hs.env t x hx
   simp [List.mapM_cons, readRes, h2, SV.dens, this]
  ·exact h.elim
 | .cell ad t :: rs, K, h => by
  rw [resK] at h
  split at h
  ·rename_i i off hx
   obtain ⟨r, hr, h'⟩ := load_some h
   obtain ⟨xs, h1, h2⟩ := resK_elim hs rs _ h'
   refine ⟨r.v :: xs, h1, ?_⟩
   have he := hs.env ad _ hx
   have hl := load_run hr hs
   simp [List.mapM_cons, readRes, h2, SV.dens, SV.den, he, asAddr, hl]
  ·exact h.elim
theorem results_run {env : Env} {mem : Mem} {fn : Func} {K : List SV → Prop} (hs : Sat I N w0 S0 γ D (look env) (look mem) a w) (h : resK P env mem fn.results.toList K) :
  ∃ xs, K xs ∧ (results fn a.tmps).run P w = .ok ((tupled xs).den γ) w := by
 obtain ⟨xs, h1, h2⟩ := resK_elim hs _ _ h
 refine ⟨xs, h1, ?_⟩
 rw [results_eq, Array.mapM_eq_mapM_toList]
 simp only [Sem.run_bind, Sem.run_map, h2, Result.andThen_ok, Sem.run_pure]
 rw [tupled_den]
end

def vspec (g : List Value → Option (Bool × Value)) : Spec where
 rd _ _ := []
 fits args _ := match reals args with
  | some l => match g l with
   | some (p, _) => p
   | none => false
  | none => false
 sel _ _ := []
 outs args _ _ _ := match reals args with
  | some l => match g l with
   | some (_, v) => (.v v, [])
   | none => (.v undef, [])
  | none => (.v undef, [])
 loc _ _ _ _ _ := ⟨rfl, rfl, rfl, fun _ _ => rfl⟩
def argEnv : List Value → Nat → Env
 | [], _ => []
 | v :: l, k => (k, .v v) :: argEnv l (k + 1)
def retK (P : Program) (rs : List ResultVar) (v : Value) (e : Exit) (B : Nat) (env : Env) (mem : Mem) : Prop := match e with
 | .ret => resK P env mem rs fun xs => match tupled xs with
  | .v u => u = v
  | _ => False
 | .normal => resK P env mem rs fun xs => match tupled xs with
  | .v u => u = v
  | _ => False
 | _ => False
theorem argEnv_look : ∀ (l : List Value) (k t : Nat) (x : SV), look (argEnv l k) t = some x → k ≤ t ∧ ∃ v, l[t - k]? = some v ∧ x = .v v
 | [], k, t, x, h => by simp [argEnv, look] at h
 | v :: l, k, t, x, h => by
  rw [argEnv, look_cons] at h
  split at h
  ·rename_i e; subst e; simp only [zsI] at h; subst h; exact ⟨Nat.le_refl _, v, by simp, rfl⟩
  ·rename_i hne
   obtain ⟨h1, u, h2, h3⟩ := argEnv_look l (k + 1) t x h
   refine ⟨by omega, u, ?_, h3⟩
   rw [show t - k = (t - (k + 1)) + 1 by omega]
   simpa using h2
theorem msat_fr {I : Interp} {γ : Vn} {M : Nat → Option Res} {w w' : World} (h : MSat I γ M w) (hf : Fr (fun _ => False) w w') : MSat I γ M w' :=
 ⟨fun i r hi => ResOK.loc (w := w) (fun b hb => hf.same b (h.low i r b hi hb) (fun h => h)) (h.ok i r hi), fun i r b hi hb => Nat.lt_of_lt_of_le (h.low i r b hi hb) hf.size, h.apart⟩
def bodyOf (fn : Func) : Code := fn.body.getD .skip
theorem body_of {fn : Func} (h : fn.body.isSome = true) : fn.body = some (bodyOf fn) := by
 unfold bodyOf; cases hb : fn.body with
 | none => rw [hb] at h; cases h
 | some c => rfl
theorem calls_real {I : Interp} {P : Program} {sp : FuncId → Option Spec} (hsp : ∀ f s, sp f = some s → SpecOK I P f s) (hm : P.follows .mixedOrders = true) (an : List Ann) {f : FuncId} {fn : Func} {c : Code} {N : Nat}
  (hf : P.funcs[f]? = some fn) (hb' : fn.body.isSome = true) (hc : bodyOf fn = c) (hN : fn.ntmps = N) {l : List Value} {v : Value} (hl : l.length ≤ N) (h : wpc P sp N an c 0 0 (argEnv l 0) [] (retK P fn.results.toList v)) (w : World) (ha : AmbW I w := by first | assumption | exact And.intro trivial (fun _ h => h.elim)) :
  Calls P f l.toArray w fun e w' => e = .returned v ∧ Fr (fun _ => False) w w' := by
 have hb : fn.body = some c := by rw [← hc]; exact body_of hb'
 refine calls_of_wp hf hb ?_
 let γ : Vn := ⟨fun _ => 0, fun _ => undef, fun _ _ => False⟩
 have hs : Sat I N w ⟨fun _ => False, fun _ => False⟩ γ (lowB 0) (look (argEnv l 0)) (look []) { tmps := l.toArray ++ Array.replicate (fn.ntmps - l.toArray.size) undef, defers := [] } w := by
  refine ⟨fun t x hx => ?_, fun t x hx => ?_, ⟨fun i r h => by simp [look] at h, fun i r b h => by simp [look] at h, fun i j ri rj b _ h => by simp [look] at h⟩, fun i r h => by simp [look] at h, Fr.refl _ _, fun i r b h => by simp [look] at h, ?_, rfl, ha, fun _ _ h => h⟩
  ·obtain ⟨_, u, h2, rfl⟩ := argEnv_look l 0 t x hx
   have hlt : t < l.length := by have := (List.getElem?_eq_some_iff.1 h2).1; omega
   simp only [SV.den]
   rw [Array.getElem?_append_left (by simpa using hlt)]
   simpa using h2
  ·obtain ⟨_, u, h2, rfl⟩ := argEnv_look l 0 t x hx
   simp [SV.ids]
  ·simp; omega
 refine Code.wp_mono ?_ (wpc_sound hsp hm c 0 0 _ _ _ γ _ w h hs)
 rintro e a' w' ⟨B', env', mem', γ', _, _, hK, hsat⟩
 have fin : (resK P env' mem' fn.results.toList fun xs => match tupled xs with
  | .v u => u = v
  | _ => False) → a'.defers = [] ∧ ∃ v', (results fn a'.tmps).run P w' = .ok v' w' ∧ (Ending.returned v' = .returned v ∧ Fr (fun _ => False) w w') := by
  intro hr
  obtain ⟨xs, h1, h2⟩ := results_run (fn := fn) hsat hr
  split at h1
  ·rename_i u hu
   subst h1
   exact ⟨hsat.defers, _, h2, by rw [hu]; simp [SV.den], hsat.fr⟩
  ·exact h1.elim
 cases e <;> simp only [retK] at hK <;> first | exact fin hK | exact hK.elim
theorem spec_of_callsA {I : Interp} {P : Program} {f : FuncId} {fn : Func} (hf : P.funcs[f]? = some fn) (hname : (fn.name == "runtime.NumGoroutine") = false) (hb' : fn.body.isSome = true) {g : List Value → Option (Bool × Value)}
  (h : ∀ l v, g l = some (true, v) → ∀ w, AmbW I w → Calls P f l.toArray w fun e w' => e = .returned v ∧ Fr (fun _ => False) w w') : SpecOK I P f (vspec g) where
 enters args w := by
  have h1 : fn.name ≠ "runtime.NumGoroutine" := by simpa using hname
  simp [callFunc, hf, h1, body_of hb']
 calls γ D M args w b hm hD hids hfr hamb hfit := by
  simp only [vspec] at hfit
  split at hfit
  ·rename_i l hl
   split at hfit
   ·rename_i p v hg
    subst hfit
    have hout : ((vspec g).out args M b) = (.v v, []) := by simp [Spec.out, vspec, hl, hg]
    rw [hout, reals_den hl]
    refine Calls.mono (h l v hg w hamb.1) ?_
    rintro e w' ⟨rfl, hfw⟩
    have e1 : (fun i => (look ([] : List (Nat × Res)) i).or (M i)) = M := by funext i; simp [look]
    refine ⟨γ, by simp [SV.den], Agree.refl _ _, ?_, fun i r x h => by simp [look] at h, hfw.mono fun x _ hx => hx.elim⟩
    rw [e1]
    exact msat_fr hm hfw
   ·cases hfit
  ·cases hfit
theorem spec_of_calls {I : Interp} {P : Program} {f : FuncId} {fn : Func} (hf : P.funcs[f]? = some fn) (hname : (fn.name == "runtime.NumGoroutine") = false) (hb' : fn.body.isSome = true) {g : List Value → Option (Bool × Value)}
  (h : ∀ l v, g l = some (true, v) → ∀ w, Calls P f l.toArray w fun e w' => e = .returned v ∧ Fr (fun _ => False) w w') : SpecOK I P f (vspec g) := spec_of_callsA hf hname hb' fun l v hg w _ => h l v hg w
theorem fr_below {w w' : World} (h : Fr (fun _ => False) w w') : Go.RowKit.Below w.heap.size w w' := ⟨h.os, h.tape, h.output, h.size, fun b hb => h.same b hb (fun h => h)⟩
end Sx
namespace Sx
open Go
def inU (x : Int) (b : Nat) : Bool := decide (0 ≤ x) && decide (x < (b : Int))
theorem inU_nat {x : Int} {b : Nat} (h : inU x b = true) : ∃ n : Nat, x = (n : Int) ∧ n < b := by
 simp only [inU, zaT, decide_eq_true_eq] at h
 exact ⟨x.toNat, by omega, by omega⟩
theorem inU_of {n b : Nat} (h : n < b) : inU (n : Int) b = true := by
 simp only [inU, zaT, decide_eq_true_eq]; omega
theorem ziT {b : Bool} {x y : Prop} (h : b = true) (hx : x) : If b x y := by subst h; exact hx
theorem if_false {b : Bool} {x y : Prop} (h : b = false) (hy : y) : If b x y := by subst h; exact hy
theorem if_both {b : Bool} {x y : Prop} (hx : b = true → x) (hy : b = false → y) : If b x y := by
 cases b
 ·exact hy rfl
 ·exact hx rfl
section
variable {P : Program} {f : FuncId} {args : Array Value} {w : World} {v : Value}
theorem fr_dn (h : Calls P f args w fun e w' => e = .returned v ∧ ∃ n, w' = w.drewN n) : Calls P f args w fun e w' => e = .returned v ∧ Fr (fun _ => False) w w' :=
 h.mono fun _ _ ⟨he, n, hb⟩ => ⟨he, by subst hb; exact ⟨rfl, rfl, rfl, Nat.le_refl _, fun _ _ _ => rfl⟩⟩
end
end Sx

/- Contracts of functions that read slices, take over slices of the caller's own, and give slices back. -/
namespace Sx
open Go
set_option linter.unusedVariables false
set_option linter.unusedSimpArgs false
inductive AK where
 | v
 | ro (k : IntKind)
 | roS (ks : List IntKind)
 | ros
 | own (e : TypeId) (k : IntKind)
inductive Arg where
 | v (x : Value)
 | ints (l : List Int)
 | structs (l : List (List Int))
 | rows (l : List (List Int))
inductive Ret where
 | v (x : Value)
 | ints (e : TypeId) (k : IntKind) (l : List Int)
def readCells (M : Nat → Option Res) : List SV → Option (List (List Int) × List Nat)
 | [] => some ([], [])
 | x :: xs => match contOf M .u8 x with
  | some (l, rd) => match readCells M xs with
   | some (ls, rds) => some (l :: ls, rd ++ rds)
   | none => none
  | none => none
def readA (M : Nat → Option Res) (k : AK) (s : SV) : Option (Arg × List Nat) := match k with
 | .v => match s with
  | .v x => some (.v x, [])
  | _ => none
 | .ro k => match contOf M k s with
  | some (l, rd) => some (.ints l, rd)
  | none => none
 | .roS ks => match contS M ks s with
  | some (l, rd) => some (.structs l, rd)
  | none => none
 | .ros => match s with
  | .v (.slice none 0 0) => some (.rows [], [])
  | .row i => match M i with
   | some (.ros l) => some (.rows l, [i])
   | some (.ownc _ cs) => match readCells M cs with
    | some (l, rd) => some (.rows l, i :: rd)
    | none => none
   | some (.ownp _ j) => match M j with
    | some (.pool l) => some (.rows l, [i, j])
    | _ => none
   | _ => none
  | .sl i off n cap => match M i with
   | some (.blk _ cs) => match Nat.ble n cap && Nat.ble cap 9223372036854775807 && Nat.ble (off + n) cs.length with
    | true => match readCells M ((cs.drop off).take n) with
     | some (l, rd) => some (.rows l, i :: rd)
     | none => none
    | false => none
   | _ => none
  | _ => none
 | .own e k => match s with
  | .v (.slice none 0 0) => some (.ints [], [])
  | .row i => match M i with
   | some (.own e' (.ints q l)) => match decide (q = k) && Nat.beq e' e with
    | true => some (.ints l, [i])
    | false => none
   | _ => none
  | _ => none
def readAll (M : Nat → Option Res) : List AK → List SV → Option (List Arg × List (List Nat))
 | [], [] => some ([], [])
 | k :: ks, s :: ss => match readA M k s with
  | some (a, rd) => match readAll M ks ss with
   | some (as, rds) => some (a :: as, rd :: rds)
   | none => none
  | none => none
 | _, _ => none
def ownIds : List AK → List (List Nat) → List Nat
 | .own _ _ :: ks, rd :: rds => rd ++ ownIds ks rds
 | _ :: ks, _ :: rds => ownIds ks rds
 | _, _ => []
def apartIds : List AK → List (List Nat) → List Nat → Bool
 | .own _ _ :: ks, rd :: rds, vs => rd.all (fun i => !(vs.any (Nat.beq i)) && !(rds.any fun r => r.any (Nat.beq i))) && apartIds ks rds (rd ++ vs)
 | _ :: ks, rd :: rds, vs => apartIds ks rds (rd ++ vs)
 | _, _, _ => true
def retVs : List Ret → Option (List Value)
 | [] => some []
 | .v x :: l => match retVs l with
  | some r => some (x :: r)
  | none => none
 | _ :: _ => none
def retSV (b : Nat) : List Ret → Nat → List SV
 | [], _ => []
 | .v x :: l, j => .v x :: retSV b l (j + 1)
 | .ints _ _ _ :: l, j => .row (b + j) :: retSV b l (j + 1)
def retEff (b : Nat) : List Ret → Nat → List (Nat × Res)
 | [], _ => []
 | .v _ :: l, j => retEff b l (j + 1)
 | .ints e k xs :: l, j => (b + j, .own e (.ints k xs)) :: retEff b l (j + 1)
theorem contOf_loc {M M' : Nat → Option Res} {k : IntKind} {x : SV} {p : List Int × List Nat} (h : contOf M k x = some p) (hM : ∀ i ∈ p.2, M' i = M i) : contOf M' k x = some p := by
 obtain ⟨l, rd⟩ := p
 exact cont_sameM h hM
theorem readCells_loc {M M' : Nat → Option Res} : ∀ {xs : List SV} {p : List (List Int) × List Nat}, readCells M xs = some p → (∀ i ∈ p.2, M' i = M i) → readCells M' xs = some p
 | [], p, h, _ => h
 | x :: xs, p, h, hM => by
  simp only [readCells] at h
  split at h
  ·rename_i l rd h1
   split at h
   ·rename_i ls rds h2
    simp only [zsI] at h
    subst h
    simp only [readCells, contOf_loc h1 (fun i hi => hM i (List.mem_append_left _ hi)), readCells_loc h2 (fun i hi => hM i (List.mem_append_right _ hi))]
   ·cases h
  ·cases h
theorem readA_loc {M M' : Nat → Option Res} {k : AK} {s : SV} {p : Arg × List Nat} (h : readA M k s = some p) (hM : ∀ i ∈ p.2, M' i = M i) : readA M' k s = some p := by
 unfold readA at h
 split at h
 ·unfold readA; exact h
 ·split at h
  ·rename_i l rd h1
   simp only [zsI] at h
   subst h
   simp only [readA, contOf_loc h1 hM]
  ·cases h
 ·split at h
  ·rename_i l rd h1
   simp only [zsI] at h
   subst h
   simp only [readA, contS_sameM h1 hM]
  ·cases h
 ·split at h
  ·unfold readA; exact h
  ·rename_i i
   split at h
   ·rename_i l hMi
    simp only [zsI] at h
    subst h
    have hi := (hM i (List.mem_cons_self ..)).trans hMi
    simp only [readA, hi]
   ·rename_i e cs hMi
    split at h
    ·rename_i l rd h1
     simp only [zsI] at h
     subst h
     have hi := (hM i (List.mem_cons_self ..)).trans hMi
     simp only [readA, hi, readCells_loc h1 (fun j hj => hM j (List.mem_cons_of_mem _ hj))]
    ·cases h
   ·rename_i e j hMi
    split at h
    ·rename_i l hP
     simp only [zsI] at h
     subst h
     have hi := (hM i (List.mem_cons_self ..)).trans hMi
     have hj := (hM j (List.mem_cons_of_mem _ (List.mem_cons_self ..))).trans hP
     simp only [readA, hi, hj]
    ·cases h
   ·cases h
  ·rename_i i off n cap
   split at h
   ·rename_i t cs hMi
    split at h
    ·rename_i hb
     split at h
     ·rename_i l rd h1
      simp only [zsI] at h
      subst h
      have hMi' := (hM i (List.mem_cons_self ..)).trans hMi
      simp only [readA, hMi', hb, readCells_loc h1 (fun j hj => hM j (List.mem_cons_of_mem _ hj))]
     ·cases h
    ·cases h
   ·cases h
  ·cases h
 ·split at h
  ·unfold readA; exact h
  ·rename_i i
   have hi : i ∈ p.2 := by
    repeat' split at h
    all_goals first | (cases h; done) | (simp only [zsI] at h; subst h; simp)
   simp only [readA, hM i hi]; exact h
  ·cases h
theorem readAll_loc {M M' : Nat → Option Res} : ∀ {ks : List AK} {ss : List SV} {p : List Arg × List (List Nat)}, readAll M ks ss = some p → (∀ i ∈ p.2.flatten, M' i = M i) → readAll M' ks ss = some p
 | [], [], p, h, _ => h
 | k :: ks, s :: ss, p, h, hM => by
  simp only [readAll] at h
  split at h
  ·rename_i a rd h1
   split at h
   ·rename_i as rds h2
    simp only [zsI] at h
    subst h
    simp only [List.flatten_cons] at hM
    simp only [readAll, readA_loc h1 (fun i hi => hM i (List.mem_append_left _ hi)), readAll_loc h2 (fun i hi => hM i (List.mem_append_right _ hi))]
   ·cases h
  ·cases h
 | [], _ :: _, _, h, _ => by simp [readAll] at h
 | _ :: _, [], _, h, _ => by simp [readAll] at h
def gspec (ks : List AK) (g : List Arg → Option (Bool × List Ret)) : Spec where
 rd args M := match readAll M ks args with
  | some (_, rds) => rds.flatten
  | none => []
 fits args M := match readAll M ks args with
  | some (as, rds) => match apartIds ks rds [], g as with
   | true, some (p, _) => p
   | _, _ => false
  | none => false
 sel _ _ := []
 outs args M _ b := match readAll M ks args with
  | some (as, rds) => match g as with
   | some (_, rs) => (tupled (retSV b rs 0), retEff b rs 0 ++ (ownIds ks rds).map fun i => (i, .gone))
   | none => (.v undef, [])
  | none => (.v undef, [])
 loc args M M' hf h := by
  cases hr : readAll M ks args with
  | none => simp [hr] at hf
  | some p =>
   obtain ⟨as, rds⟩ := p
   rw [hr] at h
   have := readAll_loc (M' := M') hr h
   simp only [hr, this]
   exact ⟨trivial, trivial, trivial, fun _ _ => trivial⟩
/-! What is read is so. -/
def argCont : AK → Arg → Option Cont
 | .ro k, .ints l => some (.ints k l)
 | .roS ks, .structs l => some (.structs ks l)
 | _, _ => none
section
variable {I : Interp} {P : Program} {γ : Vn} {M : Nat → Option Res} {w : World}
def footOf (γ : Vn) (M : Nat → Option Res) (rd : List Nat) (x : Nat) : Prop := ∃ i ∈ rd, ∃ q, M i = some q ∧ q.foot γ i x
theorem reads_mono {F G : Nat → Prop} {v : Value} {sz n : Nat} {xs : List Value} (h : ReadsIn F w v sz n xs) (hF : ∀ x, F x → G x) : ReadsIn G w v sz n xs := by
 refine ⟨h.1, ?_⟩
 rcases h.2 with h1 | ⟨a, cap, e, hf, hs, hc, hm, hx⟩ | h1
 ·exact .inl h1
 ·exact .inr (.inl ⟨a, cap, e, hF _ hf, hs, hc, hm, hx⟩)
 ·exact .inr (.inr h1)
theorem contOf_reads (hs : MSat I γ M w) {k : IntKind} {x : SV} {l : List Int} {rd : List Nat} (h : contOf M k x = some (l, rd)) : ReadsC (footOf γ M rd) w (x.den γ) (.ints k l) := by
 have nil : ∀ v, v = Value.slice none 0 0 → l = [] → ReadsC (footOf γ M rd) w v (.ints k l) := by
  rintro v rfl rfl; exact ⟨Cont.cells_length _, .inl ⟨rfl, rfl⟩⟩
 unfold contOf at h
 split at h
 ·simp only [zsI, zpI] at h
  exact nil _ (by simp [SV.den]) h.1.symm
 ·rename_i i
  have row : ∀ r, M i = some r → (M i = some (.ro (.ints k l)) ∨ ∃ e, M i = some (.own e (.ints k l))) → (∀ x, γ.foot i x → r.foot γ i x) → rd = [i] → ReadsC (footOf γ M rd) w ((SV.row i).den γ) (.ints k l) := by
   intro r hr hM hf hrd
   subst hrd
   simp only [SV.den]
   exact reads_mono (row_reads hs hM) fun x hx => ⟨i, List.mem_singleton.2 rfl, r, hr, hf x hx⟩
  split at h
  ·rename_i q l' hM
   split at h
   ·rename_i hq
    have := of_decide_eq_true hq
    subst this
    simp only [zsI, zpI] at h
    obtain ⟨rfl, rfl⟩ := h
    exact row _ hM (.inl hM) (fun x hx => hx) rfl
   ·cases h
  ·rename_i e q l' hM
   split at h
   ·rename_i hq
    have := of_decide_eq_true hq
    subst this
    simp only [zsI, zpI] at h
    obtain ⟨rfl, rfl⟩ := h
    exact row _ hM (.inr ⟨_, hM⟩) (fun x hx => hx) rfl
   ·cases h
  ·cases h
 ·rename_i i off n cap
  have sl : ∀ (r : Res) (t : TypeId) (arr : Array Value), M i = some r → (∀ x, x = γ.blk i → r.foot γ i x) → w.heap[γ.blk i]? = some (.cells arr t (0, 0)) → (Nat.ble n cap && Nat.ble cap 9223372036854775807) = true → off + n ≤ arr.size → (arr.toList.drop off).take n = l.map (Value.int k) → rd = [i] → ReadsC (footOf γ M rd) w ((SV.sl i off n cap).den γ) (.ints k l) := by
   intro r t arr hM hf hg hb hlen hl hrd
   subst hrd
   simp only [zaT] at hb
   have b1 := zbL hb.1
   have b2 := zbL hb.2
   have hn : l.length = n := by
    have : ((arr.toList.drop off).take n).length = l.length := by rw [hl]; simp
    simp only [List.length_take, List.length_drop, Array.length_toList] at this
    omega
   refine ⟨Cont.cells_length _, .inr (.inl ⟨⟨γ.blk i, off, none⟩, cap, by simp [SV.den, Cont.n, hn], ⟨i, List.mem_singleton.2 rfl, r, hM, hf _ rfl⟩, rfl, by simpa [Cont.n, hn] using b1, b2, fun j u hu => ?_⟩)⟩
   simp only [Cont.cells, ← hl, List.getElem?_take] at hu
   split at hu
   ·rw [List.getElem?_drop] at hu
    rw [add_off, cell_of_row w _ _ _ _ _ hg]
    simpa using hu
   ·cases hu
  split at h
  ·rename_i t cs hM
   split at h
   ·rename_i l' hb hl
    simp only [zsI, zpI] at h
    obtain ⟨rfl, rfl⟩ := h
    rw [zaT] at hb
    have hg := hs.ok i _ hM
    simp only [ResOK] at hg
    refine sl _ t _ hM (fun x hx => hx) hg hb.1 (by simpa [dens_length] using zbL hb.2) ?_ rfl
    have := ints?_den hl γ
    rw [← this, dens_take, dens_drop]
   ·cases h
  ·rename_i t m arr hM
   split at h
   ·rename_i l' hb hl
    simp only [zsI, zpI] at h
    obtain ⟨rfl, rfl⟩ := h
    rw [zaT] at hb
    obtain ⟨hm, hg⟩ := hs.ok i _ hM
    refine sl _ t arr hM (fun x hx => hx) hg hb.1 (by have := zbL hb.2; omega) ?_ rfl
    have := ints?_den hl γ
    rw [dens_map_v] at this
    exact this
   ·cases h
  ·cases h
 ·cases h
theorem footOf_mono {rd rd' : List Nat} (h : ∀ i ∈ rd, i ∈ rd') : ∀ x, footOf γ M rd x → footOf γ M rd' x := fun x ⟨i, hi, q, hq, hx⟩ => ⟨i, h i hi, q, hq, hx⟩
theorem readCells_reads (hs : MSat I γ M w) : ∀ {xs : List SV} {ls : List (List Int)} {rd : List Nat}, readCells M xs = some (ls, rd) → ls.length = xs.length ∧ ∀ (i : Nat) (y : Value) (l : List Int), (SV.dens γ xs)[i]? = some y → ls[i]? = some l → ReadsC (footOf γ M rd) w y (.ints .u8 l)
 | [], ls, rd, h => by
  simp only [readCells, zsI, zpI] at h
  obtain ⟨rfl, rfl⟩ := h
  exact ⟨rfl, fun i y l hy => by simp [SV.dens] at hy⟩
 | x :: xs, ls, rd, h => by
  simp only [readCells] at h
  split at h
  ·rename_i l0 rd0 h1
   split at h
   ·rename_i ls0 rds0 h2
    simp only [zsI, zpI] at h
    obtain ⟨rfl, rfl⟩ := h
    obtain ⟨e1, e2⟩ := readCells_reads hs h2
    refine ⟨by simp [e1], fun i y l hy hl => ?_⟩
    cases i with
    | zero =>
     simp only [SV.dens, List.getElem?_cons_zero, zsI] at hy hl
     subst hy; subst hl
     exact reads_mono (contOf_reads hs h1) (footOf_mono fun i hi => List.mem_append_left _ hi)
    | succ i =>
     simp only [SV.dens, List.getElem?_cons_succ] at hy hl
     exact reads_mono (e2 i y l hy hl) (footOf_mono fun i hi => List.mem_append_right _ hi)
   ·cases h
  ·cases h
theorem contS_readsC (hs : MSat I γ M w) {ks : List IntKind} {x : SV} {l : List (List Int)} {rd : List Nat} (h : contS M ks x = some (l, rd)) : ReadsC (footOf γ M rd) w (x.den γ) (.structs ks l) := by
 unfold contS at h
 split at h
 ·simp only [zsI, zpI] at h
  obtain ⟨rfl, rfl⟩ := h
  exact ⟨Cont.cells_length _, .inl ⟨by simp [SV.den], rfl⟩⟩
 ·rename_i i
  split at h
  ·rename_i qs l hM
   split at h
   ·rename_i hq
    have := of_decide_eq_true hq
    subst this
    simp only [zsI, zpI] at h; obtain ⟨rfl, rfl⟩ := h
    simp only [SV.den]
    exact reads_mono (row_reads hs (.inl hM)) fun x hx => ⟨i, List.mem_singleton.2 rfl, _, hM, hx⟩
   ·cases h
  ·rename_i e qs l hM
   split at h
   ·rename_i hq
    have := of_decide_eq_true hq
    subst this
    simp only [zsI, zpI] at h; obtain ⟨rfl, rfl⟩ := h
    simp only [SV.den]
    exact reads_mono (row_reads hs (.inr ⟨e, hM⟩)) fun x hx => ⟨i, List.mem_singleton.2 rfl, _, hM, hx⟩
   ·cases h
  ·cases h
 ·rename_i i off n cap
  split at h
  ·rename_i t cs hM
   split at h
   ·rename_i l' hb hl
    simp only [zaT] at hb
    have b1 := zbL hb.1.1
    have b2 := zbL hb.1.2
    have b3 := zbL hb.2
    simp only [zsI, zpI] at h
    obtain ⟨rfl, rfl⟩ := h
    obtain ⟨hlen, hden⟩ := grpS_den γ ks n _ _ hl
    have hg := hs.ok i _ hM
    simp only [ResOK] at hg
    refine ⟨Cont.cells_length _, .inr (.inl ⟨⟨γ.blk i, off, none⟩, cap, by simp [SV.den, Cont.n, hlen], ⟨i, List.mem_singleton.2 rfl, _, hM, rfl⟩, rfl, by simp only [Cont.n]; omega, b2, fun j u hu => ?_⟩)⟩
    rw [← hden, dens_drop, List.getElem?_take] at hu
    split at hu
    ·rw [List.getElem?_drop] at hu
     rw [add_off, cell_of_row w _ _ _ _ _ hg]
     simpa using hu
    ·cases hu
   ·cases h
  ·cases h
 ·cases h
def ArgOK (I : Interp) (F : Nat → Prop) (w : World) (v : Value) : AK → Arg → Prop
 | .v, .v x => v = x
 | .ro k, .ints l => ReadsC F w v (.ints k l)
 | .roS ks, .structs l => ReadsC F w v (.structs ks l)
 | .ros, .rows l => ReadsInN F w v l
 | .own e k, .ints l => w.ownsRow 0 e 1 v l.length (l.map (Value.int k)) ∧ ∀ b, F b ↔ v.ownBlock = some b
 | _, _ => False
theorem readA_ok (hs : MSat I γ M w) {k : AK} {s : SV} {a : Arg} {rd : List Nat} (h : readA M k s = some (a, rd)) : ArgOK I (footOf γ M rd) w (s.den γ) k a := by
 unfold readA at h
 split at h
 ·split at h
  ·simp only [zsI, zpI] at h; obtain ⟨rfl, rfl⟩ := h; simp [ArgOK, SV.den]
  ·cases h
 ·split at h
  ·rename_i l rd' h1
   simp only [zsI, zpI] at h; obtain ⟨rfl, rfl⟩ := h
   exact contOf_reads hs h1
  ·cases h
 ·split at h
  ·rename_i l rd' h1
   simp only [zsI, zpI] at h; obtain ⟨rfl, rfl⟩ := h
   exact contS_readsC hs h1
  ·cases h
 ·split at h
  ·simp only [zsI, zpI] at h; obtain ⟨rfl, rfl⟩ := h
   exact ⟨[], rfl, ⟨rfl, .inl ⟨by simp [SV.den], rfl⟩⟩, fun i y xs hy => by simp at hy⟩
  ·rename_i i
   split at h
   ·rename_i l hM
    simp only [zsI, zpI] at h; obtain ⟨rfl, rfl⟩ := h
    obtain ⟨vs, h1, h2, h3⟩ := hs.ok i _ hM
    simp only [ArgOK, SV.den]
    have hF : ∀ x, γ.foot i x → footOf γ M [i] x := fun x hx => ⟨i, List.mem_singleton.2 rfl, _, hM, hx⟩
    exact ⟨vs, h1, reads_mono h2 hF, fun j y xs hy hx => reads_mono (h3 j y xs hy hx) hF⟩
   ·rename_i e cs hM
    split at h
    ·rename_i l rd' h1
     simp only [zsI, zpI] at h; obtain ⟨rfl, rfl⟩ := h
     obtain ⟨e1, e2⟩ := readCells_reads hs h1
     obtain ⟨o1, o2⟩ := hs.ok i _ hM
     have hR := own_reads o1 (F := γ.foot i) fun g hg => (o2 g).2 hg
     have hF : ∀ x, γ.foot i x → footOf γ M (i :: rd') x := fun x hx => ⟨i, List.mem_cons_self .., _, hM, hx⟩
     simp only [ArgOK, SV.den]
     refine ⟨SV.dens γ cs, by rw [dens_length, e1], ?_, fun j y xs hy hx => reads_mono (e2 j y xs hy hx) (footOf_mono fun k hk => List.mem_cons_of_mem _ hk)⟩
     rw [e1]
     exact reads_mono hR hF
    ·cases h
   ·rename_i e j hM
    split at h
    ·rename_i l hP
     simp only [zsI, zpI] at h; obtain ⟨rfl, rfl⟩ := h
     obtain ⟨_, h1, _, h2, h3⟩ := pool_reads hs hM hP
     simp only [ArgOK, SV.den]
     exact ⟨_, h1, reads_mono h2 fun x hx => ⟨i, List.mem_cons_self .., _, hM, hx⟩, fun k y xs hy hx => reads_mono (h3 k y xs hy hx) fun x hx => ⟨j, List.mem_cons_of_mem _ (List.mem_cons_self ..), _, hP, hx⟩⟩
    ·cases h
   ·cases h
  ·rename_i i off n cap
   split at h
   ·rename_i t cs hM
    split at h
    ·rename_i hb
     split at h
     ·rename_i l rd' h1
      simp only [zsI, zpI] at h; obtain ⟨rfl, rfl⟩ := h
      simp only [zaT] at hb
      have b1 := zbL hb.1.1
      have b2 := zbL hb.1.2
      have b3 := zbL hb.2
      obtain ⟨e1, e2⟩ := readCells_reads hs h1
      have hg := hs.ok i _ hM
      simp only [ResOK] at hg
      have hlen : l.length = n := by rw [e1]; simp; omega
      refine ⟨SV.dens γ ((cs.drop off).take n), by rw [dens_length, e1], ⟨by rw [dens_length, e1]; simp, .inr (.inl ⟨⟨γ.blk i, off, none⟩, cap, by simp [SV.den, hlen], ⟨i, List.mem_cons_self .., _, hM, rfl⟩, rfl, by omega, b2, fun j u hu => ?_⟩)⟩, fun j y xs hy hx => reads_mono (e2 j y xs hy hx) (footOf_mono fun k hk => List.mem_cons_of_mem _ hk)⟩
      rw [dens_take, dens_drop, List.getElem?_take] at hu
      split at hu
      ·rw [List.getElem?_drop] at hu
       rw [add_off, cell_of_row w _ _ _ _ _ hg]
       simpa using hu
      ·cases hu
     ·cases h
    ·cases h
   ·cases h
  ·cases h
 ·split at h
  ·simp only [zsI, zpI] at h; obtain ⟨rfl, rfl⟩ := h
   refine ⟨by simpa [SV.den] using World.ownsRow_nil w 0 _ 1, fun b => ?_⟩
   simp [SV.den, Value.ownBlock, footOf]
  ·rename_i i
   split at h
   ·rename_i e' q l hM
    split at h
    ·rename_i hq
     simp only [zaT, decide_eq_true_eq] at hq
     have he := zbE hq.2
     have hk := hq.1
     subst he; subst hk
     simp only [zsI, zpI] at h; obtain ⟨rfl, rfl⟩ := h
     obtain ⟨h1, h2⟩ := hs.ok i _ hM
     refine ⟨by simpa [SV.den, Cont.sz, Cont.n, Cont.cells] using h1, fun b => ?_⟩
     simp only [SV.den]
     rw [← h2 b]
     exact ⟨fun ⟨j, hj, q, hq, hx⟩ => by obtain rfl := List.mem_singleton.1 hj; rw [hM] at hq; cases hq; exact hx, fun hx => ⟨i, List.mem_singleton.2 rfl, _, hM, hx⟩⟩
    ·cases h
   ·cases h
  ·cases h
end
end Sx

/- A contract out of a walk, for functions with slices. -/
namespace Sx
open Go
set_option linter.unusedVariables false
set_option linter.unusedSimpArgs false
def envA : List AK → List Arg → Nat → Env
 | .v :: ks, .v x :: as, j => (j, .v x) :: envA ks as (j + 1)
 | _ :: ks, _ :: as, j => (j, .row j) :: envA ks as (j + 1)
 | _, _, _ => []
def resA : AK → Arg → Res
 | .ro k, .ints l => .ro (.ints k l)
 | .roS ks, .structs l => .ro (.structs ks l)
 | .ros, .rows l => .ros l
 | .own e k, .ints l => .own e (.ints k l)
 | _, _ => .gone
def memA : List AK → List Arg → Nat → Mem
 | .v :: ks, _ :: as, j => memA ks as (j + 1)
 | k :: ks, a :: as, j => (j, resA k a) :: memA ks as (j + 1)
 | _, _, _ => []
def RetsOK (mem : Mem) : List SV → List Ret → List Nat → Prop
 | [], [], _ => True
 | x :: xs, .v u :: rs, us => (match x with
  | .v y => y = u
  | _ => False) ∧ RetsOK mem xs rs us
 | x :: xs, .ints e k l :: rs, us => match x with
  | .row i => match us.any (Nat.beq i) with
   | true => False
   | false => match look mem i with
    | some (.own e' (.ints q m)) => match Nat.beq e' e && decide (q = k) with
     | true => m = l ∧ RetsOK mem xs rs (i :: us)
     | false => False
    | _ => False
  | .v (.slice none 0 0) => l = [] ∧ RetsOK mem xs rs us
  | _ => False
 | _, _, _ => False
def retG (P : Program) (rs : List ResultVar) (rets : List Ret) (e : Exit) (B : Nat) (env : Env) (mem : Mem) : Prop := match e with
 | .ret => resK P env mem rs fun xs => RetsOK mem xs rets []
 | .normal => resK P env mem rs fun xs => RetsOK mem xs rets []
 | _ => False
section
variable {I : Interp} {P : Program} {sp : FuncId → Option Spec} {γ : Vn} {M : Nat → Option Res} {w : World}
structure NewRow (I : Interp) (w w' : World) (S0 : Nat → Prop) (v : Value) (e : TypeId) (k : IntKind) (l : List Int) : Prop where
 own : w'.ownsRow 0 e 1 v l.length (l.map (Value.int k))
 src : ∀ g, v.ownBlock = some g → w.heap.size ≤ g ∨ S0 g
theorem rets_ok {N : Nat} {S0 : Ft} {D : Nat → Bool} {E : Nat → Option SV} {mem : Mem} {a : Act} {w' : World} (hs : Sat I N w S0 γ D E (look mem) a w') : ∀ (xs : List SV) (rs : List Ret) (us : List Nat), RetsOK mem xs rs us →
  ∃ ids : List (Option Nat), ids.length = rs.length ∧ xs.length = rs.length ∧
   (∀ (j : Nat) (u : Value), rs[j]? = some (Ret.v u) → xs[j]? = some (SV.v u)) ∧
   (∀ (j : Nat) (e : TypeId) (k : IntKind) (l : List Int), rs[j]? = some (Ret.ints e k l) → ∃ x : SV, xs[j]? = some x ∧ NewRow I w w' S0.w (x.den γ) e k l) ∧
   (∀ (j : Nat) (e : TypeId) (k : IntKind) (l : List Int) (x : SV), rs[j]? = some (Ret.ints e k l) → xs[j]? = some x → ∀ g, (x.den γ).ownBlock = some g → ∃ (i : Nat) (q : Res), ids[j]? = some (some i) ∧ look mem i = some q ∧ q.mut = true ∧ q.foot γ i g) ∧
   (∀ (j i : Nat), ids[j]? = some (some i) → i ∉ us) ∧ (∀ (j j' i : Nat), ids[j]? = some (some i) → ids[j']? = some (some i) → j = j')
 | [], [], us, _ => ⟨[], rfl, rfl, by simp, by simp, by simp, by simp, by simp⟩
 | x :: xs, .v u :: rs, us, h => by
  obtain ⟨h1, h2⟩ := h
  obtain ⟨ids, e1, e2, e3, e4, e5, e6, e7⟩ := rets_ok hs xs rs us h2
  have hx : x = .v u := by split at h1; · rw [h1]
                           · exact h1.elim
  subst hx
  refine ⟨none :: ids, by simp [e1], by simp [e2], fun j u' hj => ?_, fun j e k l hj => ?_, fun j e k l y hj hy => ?_, fun j i hj => ?_, fun j j' i hj hj' => ?_⟩
  ·cases j with
   | zero => simp at hj; subst hj; simp
   | succ j => simpa using e3 j u' (by simpa using hj)
  ·cases j with
   | zero => simp at hj
   | succ j => simpa using e4 j e k l (by simpa using hj)
  ·cases j with
   | zero => simp at hj
   | succ j => simpa using e5 j e k l y (by simpa using hj) (by simpa using hy)
  ·cases j with
   | zero => simp at hj
   | succ j => exact e6 j i (by simpa using hj)
  ·cases j with
   | zero => simp at hj
   | succ j => cases j' with
    | zero => simp at hj'
    | succ j' => rw [e7 j j' i (by simpa using hj) (by simpa using hj')]
 | x :: xs, .ints e k l :: rs, us, h => by
  simp only [RetsOK] at h
  split at h
  ·rename_i i
   split at h
   ·exact h.elim
   ·rename_i hus
    split at h
    ·rename_i e' q m hM
     split at h
     ·rename_i hq
      simp only [zaT, decide_eq_true_eq] at hq
      have he := zbE hq.1
      have hk := hq.2
      subst he; subst hk
      obtain ⟨rfl, h2⟩ := h
      obtain ⟨ids, e1, e2, e3, e4, e5, e6, e7⟩ := rets_ok hs xs rs (i :: us) h2
      have hok := hs.mem.ok i _ hM
      simp only [ResOK, Cont.sz, Cont.n, Cont.cells] at hok
      have hsrc : ∀ g, (γ.val i).ownBlock = some g → w.heap.size ≤ g ∨ S0.w g := fun g hg => hs.ownm i _ g hM rfl ((hok.2 g).2 hg)
      have hni : i ∉ us := fun hm => by
       rw [List.any_eq_false] at hus
       exact hus i hm (by simp)
      refine ⟨some i :: ids, by simp [e1], by simp [e2], fun j u' hj => ?_, fun j e k l hj => ?_, fun j e k l y hj hy g hg => ?_, fun j i' hj => ?_, fun j j' i' hj hj' => ?_⟩
      ·cases j with
       | zero => simp at hj
       | succ j => simpa using e3 j u' (by simpa using hj)
      ·cases j with
       | zero =>
        simp only [List.getElem?_cons_zero, zsI, Ret.ints.injEq] at hj
        obtain ⟨rfl, rfl, rfl⟩ := hj
        exact ⟨.row i, by simp, ⟨by simpa [SV.den] using hok.1, by simpa [SV.den] using hsrc⟩⟩
       | succ j => simpa using e4 j e k l (by simpa using hj)
      ·cases j with
       | zero =>
        simp only [List.getElem?_cons_zero, zsI] at hy
        subst hy
        exact ⟨i, _, by simp, hM, rfl, (hok.2 g).2 (by simpa [SV.den] using hg)⟩
       | succ j => simpa using e5 j e k l y (by simpa using hj) (by simpa using hy) g hg
      ·cases j with
       | zero => simp only [List.getElem?_cons_zero, zsI] at hj; subst hj; exact hni
       | succ j => exact fun hm => e6 j i' (by simpa using hj) (List.mem_cons_of_mem _ hm)
      ·cases j with
       | zero =>
        simp only [List.getElem?_cons_zero, zsI] at hj
        subst hj
        cases j' with
        | zero => rfl
        | succ j' => exact absurd (List.mem_cons_self ..) (e6 j' i (by simpa using hj'))
       | succ j => cases j' with
        | zero =>
         simp only [List.getElem?_cons_zero, zsI] at hj'
         subst hj'
         exact absurd (List.mem_cons_self ..) (e6 j i (by simpa using hj))
        | succ j' => rw [e7 j j' i' (by simpa using hj) (by simpa using hj')]
     ·exact h.elim
    ·exact h.elim
  ·obtain ⟨rfl, h2⟩ := h
   obtain ⟨ids, e1, e2, e3, e4, e5, e6, e7⟩ := rets_ok hs xs rs us h2
   refine ⟨none :: ids, by simp [e1], by simp [e2], fun j u' hj => ?_, fun j e k l hj => ?_, fun j e k l y hj hy g hg => ?_, fun j i hj => ?_, fun j j' i hj hj' => ?_⟩
   ·cases j with
    | zero => simp at hj
    | succ j => simpa using e3 j u' (by simpa using hj)
   ·cases j with
    | zero =>
     simp only [List.getElem?_cons_zero, zsI, Ret.ints.injEq] at hj
     obtain ⟨rfl, rfl, rfl⟩ := hj
     exact ⟨.v (.slice none 0 0), by simp, ⟨by simpa [SV.den] using World.ownsRow_nil w' 0 e 1, by simp [SV.den, Value.ownBlock]⟩⟩
    | succ j => simpa using e4 j e k l (by simpa using hj)
   ·cases j with
    | zero =>
     simp only [List.getElem?_cons_zero, zsI] at hy
     subst hy
     simp [SV.den, Value.ownBlock] at hg
    | succ j => simpa using e5 j e k l y (by simpa using hj) (by simpa using hy) g hg
   ·cases j with
    | zero => simp at hj
    | succ j => exact e6 j i (by simpa using hj)
   ·cases j with
    | zero => simp at hj
    | succ j => cases j' with
     | zero => simp at hj'
     | succ j' => rw [e7 j j' i (by simpa using hj) (by simpa using hj')]
  ·exact h.elim
 | [], _ :: _, _, h => by simp [RetsOK] at h
 | _ :: _, [], _, h => by simp [RetsOK] at h
theorem retSV_get (b : Nat) : ∀ (rs : List Ret) (j0 j : Nat), (retSV b rs j0)[j]? = (rs[j]?).map fun r => match r with
  | .v x => SV.v x
  | .ints _ _ _ => .row (b + (j0 + j))
 | [], _, _ => by simp [retSV]
 | .v x :: rs, j0, j => by
  cases j with
  | zero => simp [retSV]
  | succ j =>
   simp only [retSV, List.getElem?_cons_succ, retSV_get b rs (j0 + 1) j]
   rw [show j0 + 1 + j = j0 + (j + 1) by omega]
 | .ints e k l :: rs, j0, j => by
  cases j with
  | zero => simp [retSV]
  | succ j =>
   simp only [retSV, List.getElem?_cons_succ, retSV_get b rs (j0 + 1) j]
   rw [show j0 + 1 + j = j0 + (j + 1) by omega]
theorem retEff_get (b : Nat) : ∀ (rs : List Ret) (j0 i : Nat) (r : Res), look (retEff b rs j0) i = some r → ∃ j e k l, i = b + (j0 + j) ∧ rs[j]? = some (.ints e k l) ∧ r = .own e (.ints k l)
 | [], _, i, r, h => by simp [retEff, look] at h
 | .v x :: rs, j0, i, r, h => by
  obtain ⟨j, e, k, l, h1, h2, h3⟩ := retEff_get b rs (j0 + 1) i r h
  exact ⟨j + 1, e, k, l, by omega, by simpa using h2, h3⟩
 | .ints e k l :: rs, j0, i, r, h => by
  simp only [retEff] at h
  rw [look_cons] at h
  split at h
  ·rename_i hi
   simp only [zsI] at h
   exact ⟨0, e, k, l, by omega, by simp, h.symm⟩
  ·obtain ⟨j, e', k', l', h1, h2, h3⟩ := retEff_get b rs (j0 + 1) i r h
   exact ⟨j + 1, e', k', l', by omega, by simpa using h2, h3⟩
theorem readAll_at : ∀ {ks : List AK} {ss : List SV} {as : List Arg} {rds : List (List Nat)}, readAll M ks ss = some (as, rds) → ss.length = ks.length ∧ as.length = ks.length ∧ rds.length = ks.length ∧
  ∀ (j : Nat) (k : AK) (s : SV) (a : Arg) (rd : List Nat), ks[j]? = some k → ss[j]? = some s → as[j]? = some a → rds[j]? = some rd → readA M k s = some (a, rd)
 | [], [], as, rds, h => by
  simp only [readAll, zsI, zpI] at h
  obtain ⟨rfl, rfl⟩ := h
  exact ⟨rfl, rfl, rfl, fun j k s a rd hk => by simp at hk⟩
 | k :: ks, s :: ss, as, rds, h => by
  simp only [readAll] at h
  split at h
  ·rename_i a rd h1
   split at h
   ·rename_i as' rds' h2
    simp only [zsI, zpI] at h
    obtain ⟨rfl, rfl⟩ := h
    obtain ⟨e1, e2, e3, e4⟩ := readAll_at h2
    refine ⟨by simp [e1], by simp [e2], by simp [e3], fun j k' s' a' rd' hk hs ha hr => ?_⟩
    cases j with
    | zero =>
     simp only [List.getElem?_cons_zero, zsI] at hk hs ha hr
     subst hk; subst hs; subst ha; subst hr
     exact h1
    | succ j => exact e4 j k' s' a' rd' (by simpa using hk) (by simpa using hs) (by simpa using ha) (by simpa using hr)
   ·cases h
  ·cases h
 | [], _ :: _, _, _, h => by simp [readAll] at h
 | _ :: _, [], _, _, h => by simp [readAll] at h
def isV : AK → Bool
 | .v => true
 | _ => false
theorem envA_look : ∀ (ks : List AK) (as : List Arg) (j0 t : Nat) (x : SV), look (envA ks as j0) t = some x → j0 ≤ t ∧ ∃ k a, ks[t - j0]? = some k ∧ as[t - j0]? = some a ∧ ((∃ u, k = .v ∧ a = .v u ∧ x = .v u) ∨ x = .row t)
 | [], as, j0, t, x, h => by simp [envA, look] at h
 | k :: ks, [], j0, t, x, h => by cases k <;> simp [envA, look] at h
 | k :: ks, a :: as, j0, t, x, h => by
  have rest : look (envA ks as (j0 + 1)) t = some x → j0 ≤ t ∧ ∃ k' a', (k :: ks)[t - j0]? = some k' ∧ (a :: as)[t - j0]? = some a' ∧ ((∃ u, k' = .v ∧ a' = .v u ∧ x = .v u) ∨ x = .row t) := by
   intro h
   obtain ⟨h1, k', a', h2, h3, h4⟩ := envA_look ks as (j0 + 1) t x h
   refine ⟨by omega, k', a', ?_, ?_, h4⟩
   ·rw [show t - j0 = (t - (j0 + 1)) + 1 by omega]; simpa using h2
   ·rw [show t - j0 = (t - (j0 + 1)) + 1 by omega]; simpa using h3
  have row : look ((j0, SV.row j0) :: envA ks as (j0 + 1)) t = some x → j0 ≤ t ∧ ∃ k' a', (k :: ks)[t - j0]? = some k' ∧ (a :: as)[t - j0]? = some a' ∧ ((∃ u, k' = .v ∧ a' = .v u ∧ x = .v u) ∨ x = .row t) := by
   intro hh
   rw [look_cons] at hh
   split at hh
   ·rename_i e
    subst e
    exact ⟨Nat.le_refl _, k, a, by simp, by simp, .inr (Option.some.inj hh).symm⟩
   ·exact rest hh
  cases k with
  | v =>
   cases a with
   | v u =>
    simp only [envA] at h
    rw [look_cons] at h
    split at h
    ·rename_i e
     subst e
     simp only [zsI] at h
     exact ⟨Nat.le_refl _, .v, .v u, by simp, by simp, .inl ⟨u, rfl, rfl, h.symm⟩⟩
    ·exact rest h
   | _ => exact row h
  | _ => exact row h
theorem memA_look : ∀ (ks : List AK) (as : List Arg) (j0 i : Nat) (r : Res), look (memA ks as j0) i = some r → j0 ≤ i ∧ ∃ k a, ks[i - j0]? = some k ∧ as[i - j0]? = some a ∧ k ≠ .v ∧ r = resA k a
 | [], as, j0, t, x, h => by simp [memA, look] at h
 | k :: ks, [], j0, t, x, h => by cases k <;> simp [memA, look] at h
 | k :: ks, a :: as, j0, t, x, h => by
  have rest : look (memA ks as (j0 + 1)) t = some x → j0 ≤ t ∧ ∃ k' a', (k :: ks)[t - j0]? = some k' ∧ (a :: as)[t - j0]? = some a' ∧ k' ≠ .v ∧ x = resA k' a' := by
   intro h
   obtain ⟨h1, k', a', h2, h3, h4⟩ := memA_look ks as (j0 + 1) t x h
   refine ⟨by omega, k', a', ?_, ?_, h4⟩
   ·rw [show t - j0 = (t - (j0 + 1)) + 1 by omega]; simpa using h2
   ·rw [show t - j0 = (t - (j0 + 1)) + 1 by omega]; simpa using h3
  have row : k ≠ .v → look ((j0, resA k a) :: memA ks as (j0 + 1)) t = some x → j0 ≤ t ∧ ∃ k' a', (k :: ks)[t - j0]? = some k' ∧ (a :: as)[t - j0]? = some a' ∧ k' ≠ .v ∧ x = resA k' a' := by
   intro hk hh
   rw [look_cons] at hh
   split at hh
   ·rename_i e
    subst e
    exact ⟨Nat.le_refl _, k, a, by simp, by simp, hk, (Option.some.inj hh).symm⟩
   ·exact rest hh
  cases k with
  | v => exact rest h
  | _ => exact row (by simp) h
theorem ownIds_own : ∀ {ks : List AK} {ss : List SV} {as : List Arg} {rds : List (List Nat)}, readAll M ks ss = some (as, rds) → ∀ i ∈ ownIds ks rds, ∃ (j : Nat) (e : TypeId) (k : IntKind) (rd : List Nat), ks[j]? = some (AK.own e k) ∧ rds[j]? = some rd ∧ i ∈ rd ∧ ∃ c, M i = some (Res.own e c)
 | [], [], as, rds, h, i, hi => by
  simp only [readAll, zsI, zpI] at h
  obtain ⟨rfl, rfl⟩ := h
  simp [ownIds] at hi
 | k :: ks, s :: ss, as, rds, h, i, hi => by
  simp only [readAll] at h
  split at h
  ·rename_i a rd h1
   split at h
   ·rename_i as' rds' h2
    simp only [zsI, zpI] at h
    obtain ⟨rfl, rfl⟩ := h
    have rest : i ∈ ownIds ks rds' → ∃ (j : Nat) (e : TypeId) (k' : IntKind) (rd' : List Nat), (k :: ks)[j]? = some (AK.own e k') ∧ (rd :: rds')[j]? = some rd' ∧ i ∈ rd' ∧ ∃ c, M i = some (Res.own e c) := by
     intro hi
     obtain ⟨j, e, k', rd', a1, a2, a3, a4⟩ := ownIds_own h2 i hi
     exact ⟨j + 1, e, k', rd', by simpa using a1, by simpa using a2, a3, a4⟩
    cases k with
    | own e k =>
     simp only [ownIds, List.mem_append] at hi
     rcases hi with hi | hi
     ·refine ⟨0, e, k, rd, by simp, by simp, hi, ?_⟩
      unfold readA at h1
      simp only [] at h1
      split at h1
      ·simp only [zsI, zpI] at h1; obtain ⟨_, rfl⟩ := h1; simp at hi
      ·rename_i i'
       split at h1
       ·rename_i e' q l hM
        split at h1
        ·rename_i hq
         simp only [zaT, decide_eq_true_eq] at hq
         have he := zbE hq.2
         subst he
         simp only [zsI, zpI] at h1; obtain ⟨_, rfl⟩ := h1
         obtain rfl := List.mem_singleton.1 hi
         exact ⟨_, hM⟩
        ·cases h1
       ·cases h1
      ·cases h1
     ·exact rest hi
    | _ => exact rest hi
   ·cases h
  ·cases h
 | [], _ :: _, _, _, h, _, _ => by simp [readAll] at h
 | _ :: _, [], _, _, h, _, _ => by simp [readAll] at h
theorem any_beq {l : List Nat} {i : Nat} (h : l.any (Nat.beq i) = false) : i ∉ l := fun hm => by
 rw [List.any_eq_false] at h
 exact h i hm (by simp)
theorem apart_at : ∀ {ks : List AK} {rds : List (List Nat)} {vs : List Nat}, apartIds ks rds vs = true → ks.length = rds.length → (∀ (j : Nat) (e : TypeId) (k : IntKind) (rd : List Nat), ks[j]? = some (.own e k) → rds[j]? = some rd → ∀ i ∈ rd, i ∉ vs) ∧
  ∀ (j j' : Nat) (e : TypeId) (k : IntKind) (rd rd' : List Nat), j ≠ j' → ks[j]? = some (.own e k) → rds[j]? = some rd → rds[j']? = some rd' → ∀ i ∈ rd, i ∉ rd'
 | [], rds, us, _, hl => by
  have : rds = [] := List.eq_nil_of_length_eq_zero hl.symm
  subst this
  exact ⟨fun j e k rd h => by simp at h, fun j j' e k rd rd' _ h => by simp at h⟩
 | k :: ks, [], us, _, hl => by simp at hl
 | k :: ks, rd :: rds, vs, h, hl => by
  have hl' : ks.length = rds.length := by simpa using hl
  have h2 : apartIds ks rds (rd ++ vs) = true := by
   cases k <;> simp only [apartIds, zaT] at h <;> first | exact h | exact h.2
  have own : ∀ e q, k = .own e q → ∀ i ∈ rd, i ∉ vs ∧ ∀ r ∈ rds, i ∉ r := by
   rintro e q rfl i hi
   simp only [apartIds, zaT] at h
   have := List.all_eq_true.1 h.1 i hi
   simp only [zaT, Bool.not_eq_true'] at this
   refine ⟨any_beq this.1, fun r hr hm => ?_⟩
   have h3 := this.2
   rw [List.any_eq_false] at h3
   refine h3 r hr ?_
   rw [List.any_eq_true]
   exact ⟨i, hm, by simp⟩
  obtain ⟨r1, r2⟩ := apart_at h2 hl'
  refine ⟨fun j e q rd' hk hj i hi => ?_, fun j j' e' k' ra rb hne hj ha hb i hi => ?_⟩
  ·cases j with
   | zero =>
    simp only [List.getElem?_cons_zero, zsI] at hj hk
    subst hj; exact (own e q hk i hi).1
   | succ j => exact fun hm => r1 j e q rd' (by simpa using hk) (by simpa using hj) i hi (List.mem_append_right _ hm)
  ·cases j with
   | zero =>
    simp only [List.getElem?_cons_zero, zsI] at ha hj
    subst ha
    cases j' with
    | zero => exact absurd rfl hne
    | succ j' => exact (own e' k' hj i hi).2 rb (List.mem_iff_getElem?.2 ⟨j', by simpa using hb⟩)
   | succ j =>
    cases j' with
    | zero =>
     simp only [List.getElem?_cons_zero, zsI] at hb
     subst hb
     exact fun hm => r1 j e' k' ra (by simpa using hj) (by simpa using ha) i hi (List.mem_append_left _ hm)
    | succ j' => exact r2 j j' e' k' ra rb (by omega) (by simpa using hj) (by simpa using ha) (by simpa using hb) i hi
end
end Sx

/- A contract out of a walk, for functions with slices: the theorem. -/
namespace Sx
open Go
set_option linter.unusedVariables false
set_option linter.unusedSimpArgs false
section
variable {I : Interp} {P : Program} {sp : FuncId → Option Spec} {γ : Vn} {M : Nat → Option Res} {w : World}
def calleeVn (γ : Vn) (M : Nat → Option Res) (vs : List Value) (rds : List (List Nat)) : Vn := ⟨fun _ => 0, fun j => vs.getD j undef, fun j => footOf γ M (rds.getD j [])⟩
theorem argOK_res {F : Nat → Prop} {v : Value} {k : AK} {a : Arg} (h : ArgOK I F w v k a) (hk : k ≠ .v) {γ' : Vn} {j : Nat} (hv : γ'.val j = v) (hf : γ'.foot j = F) : ResOK I γ' j w (resA k a) ∧ ((resA k a).foot γ' j = F) ∧ ((resA k a).mut = true → ∃ e q, k = .own e q) ∧ ∀ p, (resA k a).ids p = true := by
 cases k with
 | v => exact absurd rfl hk
 | ro q => cases a <;> simp only [ArgOK] at h; exact ⟨by simp only [resA, ResOK, hv, hf]; exact h, by simp [resA, Res.foot, hf], by simp [resA, Res.mut], fun p => rfl⟩
 | roS q => cases a <;> simp only [ArgOK] at h; exact ⟨by simp only [resA, ResOK, hv, hf]; exact h, by simp [resA, Res.foot, hf], by simp [resA, Res.mut], fun p => rfl⟩
 | ros => cases a <;> simp only [ArgOK] at h; exact ⟨by simp only [resA, ResOK, hv, hf]; exact h, by simp [resA, Res.foot, hf], by simp [resA, Res.mut], fun p => rfl⟩
 | own e q => cases a <;> simp only [ArgOK] at h; exact ⟨by simp only [resA, ResOK, hv, hf]; exact h, by simp [resA, Res.foot, hf], fun _ => ⟨e, q, rfl⟩, fun p => rfl⟩
theorem tupled_cong {γ γ' : Vn} {xs ys : List SV} (h : SV.dens γ xs = SV.dens γ' ys) : (tupled xs).den γ = (tupled ys).den γ' := by
 rw [tupled_den, tupled_den]
 simp only [h]
theorem spec_genA {I : Interp} {P : Program} {sp : FuncId → Option Spec} (hsp : ∀ f s, sp f = some s → SpecOK I P f s) (hm : P.follows .mixedOrders = true) (an : List Arg → List Ann) {f : FuncId} {fn : Func} {c : Code} {N : Nat}
  (hf : P.funcs[f]? = some fn) (hname : (fn.name == "runtime.NumGoroutine") = false) (hb' : fn.body.isSome = true) (hc : bodyOf fn = c) (hN : fn.ntmps = N) {ks : List AK} {g : List Arg → Option (Bool × List Ret)} (hks : ks.length ≤ N ∧ ks.length ≤ 64) (hrs : ∀ as p rs, g as = some (p, rs) → rs.length ≤ 8)
  (h : ∀ as rs, as.length = ks.length → g as = some (true, rs) → wpc P sp N (an as) c 0 64 (envA ks as 0) (memA ks as 0) (retG P fn.results.toList rs)) : SpecOK I P f (gspec ks g) where
 enters args w := by
  have h1 : fn.name ≠ "runtime.NumGoroutine" := by simpa using hname
  simp [callFunc, hf, h1, body_of hb']
 calls γ D M args w b hM hD hids hfr hamb hfit := by
  simp only [gspec] at hfit
  split at hfit
  ·rename_i as rds hread
   split at hfit
   ·rename_i p rs hap hg
    subst hfit
    obtain ⟨l1, l2, l3, hat⟩ := readAll_at hread
    have hout : (gspec ks g).out args M b = (tupled (retSV b rs 0), retEff b rs 0 ++ (ownIds ks rds).map fun i => (i, .gone)) := by simp [Spec.out, gspec, hread, hg]
    rw [hout]
    obtain ⟨hap1, hap2⟩ := apart_at hap l3.symm
    clear hap1
    have hbody : fn.body = some c := by rw [← hc]; exact body_of hb'
    refine calls_of_wp hf hbody ?_
    let S0 : Nat → Prop := fun x => ∃ i ∈ ownIds ks rds, ∃ q, M i = some q ∧ q.foot γ i x
    let T0 : Ft := ⟨S0, fun x => ∃ i q, M i = some q ∧ q.foot γ i x⟩
    let γc := calleeVn γ M (SV.dens γ args) rds
    have one : ∀ (j : Nat) (k : AK) (a : Arg), ks[j]? = some k → as[j]? = some a → ∃ s rd, args[j]? = some s ∧ rds[j]? = some rd ∧ readA M k s = some (a, rd) ∧ ArgOK I (footOf γ M rd) w (s.den γ) k a ∧ γc.val j = s.den γ ∧ γc.foot j = footOf γ M rd := by
     intro j k a hk ha
     have hj : j < ks.length := (List.getElem?_eq_some_iff.1 hk).1
     have hs : args[j]? = some args[j] := List.getElem?_eq_getElem (by omega)
     have hr : rds[j]? = some rds[j] := List.getElem?_eq_getElem (by omega)
     have hra := hat j k _ a _ hk hs ha hr
     refine ⟨_, _, hs, hr, hra, readA_ok hM hra, ?_, ?_⟩
     ·show (SV.dens γ args).getD j undef = _
      simp [List.getD, dens_eq, hs]
     ·show footOf γ M (rds.getD j []) = _
      simp [List.getD, hr]
    have res1 : ∀ (i : Nat) (r : Res), look (memA ks as 0) i = some r → ∃ k a s rd, ks[i]? = some k ∧ k ≠ .v ∧ rds[i]? = some rd ∧ r = resA k a ∧ ResOK I γc i w r ∧ r.foot γc i = footOf γ M rd ∧ (r.mut = true → ∃ e q, k = .own e q) ∧ (∀ p, r.ids p = true) ∧ i < ks.length ∧ readA M k s = some (a, rd) := by
     intro i r hr
     obtain ⟨_, k, a, h2, h3, h4, h5⟩ := memA_look ks as 0 i r hr
     rw [Nat.sub_zero] at h2 h3
     obtain ⟨s, rd, e1, e2, e3, e4, e5, e6⟩ := one i k a h2 h3
     obtain ⟨q1, q2, q3, q4⟩ := argOK_res e4 h4 e5 e6
     subst h5
     exact ⟨k, a, s, rd, h2, h4, e2, rfl, q1, q2, q3, q4, (List.getElem?_eq_some_iff.1 h2).1, e3⟩
    have lowF : ∀ rd x, footOf γ M rd x → x < w.heap.size := fun rd x ⟨i, _, q, hq, hx⟩ => hM.low i q x hq hx
    have ownF : ∀ (i : Nat) (e : TypeId) (q : IntKind) (rd : List Nat), ks[i]? = some (.own e q) → rds[i]? = some rd → ∀ y ∈ rd, y ∈ ownIds ks rds ∧ ∃ c, M y = some (.own e c) := by
     intro i e q rd hk hr y hy
     have hmem : y ∈ ownIds ks rds := by
      clear hap hap2 hout one res1 hat l1 hread l2 hks h
      induction ks generalizing rds i with
      | nil => simp at hk
      | cons k ks ih =>
       cases rds with
       | nil => simp at l3
       | cons rd0 rds =>
        cases i with
        | zero =>
         simp only [List.getElem?_cons_zero, zsI] at hk hr
         subst hk; subst hr
         simp only [ownIds, List.mem_append]; exact .inl hy
        | succ i =>
         have := ih (rds := rds) (by simpa using l3) i (by simpa using hk) (by simpa using hr)
         cases k <;> simp only [ownIds] <;> first | exact this | exact List.mem_append_right _ this
     obtain ⟨j, e', k', rd', a1, a2, a3, a4⟩ := ownIds_own hread y hmem
     by_cases hji : j = i
     ·subst hji
      rw [hk] at a1
      simp only [zsI, AK.own.injEq] at a1
      obtain ⟨rfl, rfl⟩ := a1
      exact ⟨hmem, a4⟩
     ·exact absurd hy (hap2 j i e' k' rd' rd hji a1 a2 hr y a3)
    have hs : Sat I N w T0 γc (lowB 64) (look (envA ks as 0)) (look (memA ks as 0)) { tmps := (SV.dens γ args).toArray ++ Array.replicate (fn.ntmps - (SV.dens γ args).toArray.size) undef, defers := [] } w := by
     refine ⟨fun t x hx => ?_, fun t x hx => ?_, ⟨fun i r hi => ?_, fun i r x hi hx => ?_, fun i j ri rj x hij hi hj hmut hx hy => ?_⟩, fun i r hi => ?_, Fr.refl _ _, fun i r x hi hx => ?_, ?_, rfl, hamb.1, fun x hx ⟨i, hi, q, hq, hf⟩ => (by
      obtain ⟨_, _, _, _, _, _, _, cc, hcc⟩ := ownIds_own hread i hi
      rw [hcc] at hq
      cases hq
      exact hamb.2 x hx i _ hcc rfl hf)⟩
     ·obtain ⟨_, k, a, h2, h3, h4⟩ := envA_look ks as 0 t x hx
      rw [Nat.sub_zero] at h2 h3
      obtain ⟨s, rd, e1, e2, e3, e4, e5, e6⟩ := one t k a h2 h3
      have hlt : t < args.length := (List.getElem?_eq_some_iff.1 e1).1
      rw [Array.getElem?_append_left (by simpa [dens_length] using hlt)]
      have : (SV.dens γ args).toArray[t]? = some (s.den γ) := by simp [dens_eq, e1]
      rw [this]
      rcases h4 with ⟨u, rfl, rfl, rfl⟩ | rfl
      ·simp only [ArgOK] at e4; rw [e4]; simp [SV.den]
      ·simp only [SV.den]; rw [e5]
     ·obtain ⟨_, k, a, h2, h3, h4⟩ := envA_look ks as 0 t x hx
      have hlt : t < ks.length := by rw [Nat.sub_zero] at h2; exact (List.getElem?_eq_some_iff.1 h2).1
      rcases h4 with ⟨u, _, _, rfl⟩ | rfl
      ·simp [SV.ids]
      ·simp only [SV.ids, lowB]; exact blt_iff.2 (by omega)
     ·obtain ⟨k, a, s, rd, _, _, _, _, h5, _⟩ := res1 i r hi; exact h5
     ·obtain ⟨k, a, s, rd, _, _, _, _, _, h6, _⟩ := res1 i r hi; rw [h6] at hx; exact lowF rd x hx
     ·obtain ⟨k, a, s, rd, c1, c2, c3, c4, _, c6, c7, _⟩ := res1 i ri hi
      obtain ⟨k', a', s', rd', d1, d2, d3, d4, _, d6, d7, _⟩ := res1 j rj hj
      rw [c6] at hx
      rw [d6] at hy
      obtain ⟨e, q, rfl⟩ := c7 hmut
      obtain ⟨y, hy1, r1, hr1, hf1⟩ := hx
      obtain ⟨z, hz1, r2, hr2, hf2⟩ := hy
      obtain ⟨_, cc, hcc⟩ := ownF i e q rd c1 c3 y hy1
      have hyz : y ≠ z := fun e => by subst e; exact hap2 i j _ _ rd rd' hij c1 c3 d3 y hy1 hz1
      rw [hcc] at hr1
      cases hr1
      exact hM.apart y z _ r2 x hyz hcc hr2 rfl hf1 hf2
     ·obtain ⟨k, a, s, rd, _, _, _, _, _, _, _, h8, h9, _⟩ := res1 i r hi
      exact ⟨blt_iff.2 (by omega), h8 _⟩
     ·obtain ⟨k, a, s, rd, c1, c2, c3, c4, _, c6, c7, _⟩ := res1 i r hi
      rw [c6] at hx
      cases hmut : r.mut with
      | true =>
       obtain ⟨e, q, rfl⟩ := c7 hmut
       obtain ⟨y, hy1, r1, hr1, hf1⟩ := hx
       exact .inr (.inl ⟨y, (ownF i e q rd c1 c3 y hy1).1, r1, hr1, hf1⟩)
      | false =>
       obtain ⟨y, hy1, r1, hr1, hf1⟩ := hx
       exact .inr (.inr ⟨rfl, y, r1, hr1, hf1⟩)
     ·simp [dens_length]; omega
    refine Code.wp_mono ?_ (wpc_sound hsp hm c 0 64 _ _ _ γc _ w (h as rs l2 hg) hs)
    rintro e a' w' ⟨B', env', mem', γ', _, hγc, hK, hsat⟩
    have fin : (resK P env' mem' fn.results.toList fun xs => RetsOK mem' xs rs []) → a'.defers = [] ∧ ∃ v', (results fn a'.tmps).run P w' = .ok v' w' ∧ (∃ γ2, Ending.returned v' = .returned ((tupled (retSV b rs 0)).den γ2) ∧ Agree (D · = true) γ γ2 ∧
      MSat I γ2 (fun i => (look (retEff b rs 0 ++ (ownIds ks rds).map fun i => (i, .gone)) i).or (M i)) w' ∧
      (∀ i r x, look (retEff b rs 0 ++ (ownIds ks rds).map fun i => (i, .gone)) i = some r → r.foot γ2 i x → w.heap.size ≤ x ∨ ∃ j q, M j = some q ∧ (r.mut = true → q.mut = true) ∧ q.foot γ j x) ∧
      Fr (fun x => ∃ i q, (look (retEff b rs 0 ++ (ownIds ks rds).map fun i => (i, .gone)) i).isSome = true ∧ M i = some q ∧ q.mut = true ∧ q.foot γ i x) w w') := by
     intro hr
     obtain ⟨xs, h1, h2⟩ := results_run (fn := fn) hsat hr
     obtain ⟨ids, i1, i2, i3, i4, i5, i6, i7⟩ := rets_ok hsat xs rs [] h1
     refine ⟨hsat.defers, _, h2, ?_⟩
     have hlen8 := hrs as true rs hg
     let V : Nat → Value := fun i => if b ≤ i ∧ i < b + 64 then ((xs[i - b]?).map (SV.den γ')).getD undef else γ.val i
     let γ2 : Vn := ⟨γ.blk, V, fun i => if b ≤ i ∧ i < b + 64 then (fun g => (V i).ownBlock = some g) else γ.foot i⟩
     have hDb : ∀ i, b ≤ i → i < b + 64 → D i = false := fun i h1 h2 => hfr i (fresh_iff.2 ⟨h1, h2⟩)
     have hnot : ∀ i, D i = true → ¬ (b ≤ i ∧ i < b + 64) := fun i hi ⟨h1, h2⟩ => by rw [hDb i h1 h2] at hi; cases hi
     have hag : Agree (D · = true) γ γ2 := ⟨fun _ _ => rfl, fun i hi => if_neg (hnot i hi), fun i hi => if_neg (hnot i hi)⟩
     have hVj : ∀ j x, j < 64 → xs[j]? = some x → V (b + j) = x.den γ' := fun j x hj hx => by
      show (if b ≤ b + j ∧ b + j < b + 64 then _ else _) = _
      rw [if_pos ⟨by omega, by omega⟩, Nat.add_sub_cancel_left, hx]; rfl
     have hFj : ∀ j, j < 64 → γ2.foot (b + j) = fun g => (V (b + j)).ownBlock = some g := fun j hj => if_pos ⟨by omega, by omega⟩
     have hgone : ∀ i, (∃ r, look ((ownIds ks rds).map fun i => (i, Res.gone)) i = some r) ↔ i ∈ ownIds ks rds := by
      intro i
      generalize ownIds ks rds = L
      induction L with
      | nil => simp [look]
      | cons y L ih =>
       rw [List.map_cons, look_cons]
       by_cases hy : y = i
       ·simp [hy]
       ·rw [if_neg hy, ih]; simp [Ne.symm hy]
     have hgone2 : ∀ i r, look ((ownIds ks rds).map fun i => (i, Res.gone)) i = some r → r = .gone := by
      intro i r
      generalize ownIds ks rds = L
      induction L with
      | nil => simp [look]
      | cons y L ih =>
       rw [List.map_cons, look_cons]
       split
       ·intro h; exact (Option.some.inj h).symm
       ·exact ih
     have effs : ∀ i r, look (retEff b rs 0 ++ (ownIds ks rds).map fun i => (i, Res.gone)) i = some r → (∃ j e k l, i = b + j ∧ rs[j]? = some (Ret.ints e k l) ∧ r = .own e (.ints k l)) ∨ (i ∈ ownIds ks rds ∧ r = .gone) := by
      intro i r hi
      rw [look_append] at hi
      cases hl : look (retEff b rs 0) i with
      | some q =>
       rw [hl] at hi
       simp only [Option.some_or, zsI] at hi
       subst hi
       obtain ⟨j, e, k, l, h3, h4, h5⟩ := retEff_get b rs 0 i q hl
       exact .inl ⟨j, e, k, l, by omega, h4, h5⟩
      | none =>
       rw [hl] at hi
       simp only [Option.none_or] at hi
       exact .inr ⟨(hgone i).1 ⟨r, hi⟩, hgone2 i r hi⟩
     have isown : ∀ i, i ∈ ownIds ks rds → (look (retEff b rs 0 ++ (ownIds ks rds).map fun i => (i, Res.gone)) i).isSome = true ∧ ∃ e c, M i = some (.own e c) := by
      intro i hi
      obtain ⟨_, e, _, _, _, _, _, c, hc⟩ := ownIds_own hread i hi
      refine ⟨?_, e, c, hc⟩
      obtain ⟨r, hr⟩ := (hgone i).2 hi
      rw [look_append, hr]
      cases look (retEff b rs 0) i <;> rfl
     have S0own : ∀ x, S0 x → ∃ i q, (look (retEff b rs 0 ++ (ownIds ks rds).map fun i => (i, Res.gone)) i).isSome = true ∧ M i = some q ∧ q.mut = true ∧ q.foot γ i x := by
      rintro x ⟨i, hi, q, hq, hx⟩
      obtain ⟨s1, e, cc, hc⟩ := isown i hi
      rw [hc] at hq
      cases hq
      exact ⟨i, _, s1, hc, rfl, hx⟩
     have newF : ∀ j e k l, rs[j]? = some (Ret.ints e k l) → j < 64 ∧ ∃ x, xs[j]? = some x ∧ V (b + j) = x.den γ' ∧ NewRow I w w' S0 (x.den γ') e k l := by
      intro j e k l hj
      have hj8 : j < 64 := by have := (List.getElem?_eq_some_iff.1 hj).1; omega
      obtain ⟨x, hx, hn⟩ := i4 j e k l hj
      exact ⟨hj8, x, hx, hVj j x hj8 hx, hn⟩
     have oldR : ∀ i r, (look (retEff b rs 0 ++ (ownIds ks rds).map fun i => (i, Res.gone)) i) = none → M i = some r → (∀ x, r.foot γ i x → ¬ S0 x) := by
      rintro i r hn hr x hx ⟨y, hy, q, hq, hxy⟩
      obtain ⟨s1, e, cc, hc⟩ := isown y hy
      have hne : y ≠ i := fun e => by subst e; rw [hn] at s1; cases s1
      rw [hc] at hq
      cases hq
      exact hM.apart y i _ r x hne hc hr rfl hxy hx
     have look' : ∀ i r, ((look (retEff b rs 0 ++ (ownIds ks rds).map fun i => (i, Res.gone)) i).or (M i)) = some r → (look (retEff b rs 0 ++ (ownIds ks rds).map fun i => (i, Res.gone)) i = some r) ∨ (look (retEff b rs 0 ++ (ownIds ks rds).map fun i => (i, Res.gone)) i = none ∧ M i = some r) := by
      intro i r hi
      cases hl : look (retEff b rs 0 ++ (ownIds ks rds).map fun i => (i, Res.gone)) i with
      | some q => rw [hl] at hi; simp only [Option.some_or, zsI] at hi; subst hi; exact .inl rfl
      | none => rw [hl] at hi; simp only [Option.none_or] at hi; exact .inr ⟨rfl, hi⟩
     have footOld : ∀ i r, M i = some r → r.foot γ2 i = r.foot γ i := fun i r hi => foot_agree hag (hD i r hi).1 r
     have footNew : ∀ j e k l, rs[j]? = some (Ret.ints e k l) → ∀ x, (Res.own e (.ints k l)).foot γ2 (b + j) x → ∃ s, xs[j]? = some s ∧ (s.den γ').ownBlock = some x ∧ (w.heap.size ≤ x ∨ S0 x) ∧ x < w'.heap.size := by
      intro j e k l hj x hx
      obtain ⟨hj8, s, hs1, hs2, hs3⟩ := newF j e k l hj
      simp only [Res.foot] at hx
      rw [hFj j hj8, hs2] at hx
      exact ⟨s, hs1, hx, hs3.src x hx, own_low hs3.own x hx⟩
     refine ⟨γ2, ?_, hag, ⟨fun i r hi => ?_, fun i r x hi hx => ?_, fun i j ri rj x hij hi hj hmut hx hy => ?_⟩, fun i r x hi hx => ?_, ?_⟩
     ·congr 1
      refine tupled_cong ?_
      have e1 : SV.dens γ' xs = SV.dens γ2 (retSV b rs 0) := by
       apply List.ext_getElem?
       intro j
       rw [dens_eq, dens_eq, List.getElem?_map, List.getElem?_map, retSV_get]
       cases hr : rs[j]? with
       | none =>
        have : xs[j]? = none := List.getElem?_eq_none (by have := List.getElem?_eq_none_iff.1 hr; omega)
        rw [this]; rfl
       | some q =>
        cases q with
        | v u => rw [i3 j u hr]; simp [SV.den]
        | ints e k l =>
         obtain ⟨hj8, s, hs1, hs2, hs3⟩ := newF j e k l hr
         rw [hs1]
         simp only [Option.map_some, SV.den, Nat.zero_add]
         exact congrArg some hs2.symm
      exact e1
     ·rcases look' i r hi with h3 | ⟨h3, h4⟩
      ·rcases effs i r h3 with ⟨j, e, k, l, rfl, hj, rfl⟩ | ⟨_, rfl⟩
       ·obtain ⟨hj8, s, hs1, hs2, hs3⟩ := newF j e k l hj
        refine ⟨?_, fun g => ?_⟩
        ·show w'.ownsRow 0 e 1 (V (b + j)) l.length (l.map (Value.int k))
         rw [hs2]; exact hs3.own
        ·rw [hFj j hj8]
       ·trivial
      ·refine ResOK.loc (w := w) (fun x hx => ?_) (resOK_agree hag (hD i r h4).1 r (hD i r h4).2 (hM.ok i r h4))
       rw [footOld i r h4] at hx
       exact hsat.fr.same x (hM.low i r x h4 hx) (oldR i r h3 h4 x hx)
     ·rcases look' i r hi with h3 | ⟨h3, h4⟩
      ·rcases effs i r h3 with ⟨j, e, k, l, rfl, hj, rfl⟩ | ⟨_, rfl⟩
       ·obtain ⟨s, _, _, _, h9⟩ := footNew j e k l hj x hx; exact h9
       ·exact hx.elim
      ·rw [footOld i r h4] at hx
       exact Nat.lt_of_lt_of_le (hM.low i r x h4 hx) hsat.fr.size
     ·-- no two share what one may write
      have newOld : ∀ (j : Nat) (e : TypeId) (k : IntKind) (l : List Int) (i' : Nat) (r' : Res), rs[j]? = some (Ret.ints e k l) → (Res.own e (.ints k l)).foot γ2 (b + j) x → look (retEff b rs 0 ++ (ownIds ks rds).map fun i => (i, Res.gone)) i' = none → M i' = some r' → r'.foot γ2 i' x → False := by
       intro j e k l i' r' hj hx' hn hM' hy'
       obtain ⟨s, _, _, h8, _⟩ := footNew j e k l hj x hx'
       rw [footOld i' r' hM'] at hy'
       rcases h8 with h8 | h8
       ·have := hM.low i' r' x hM' hy'; omega
       ·exact oldR i' r' hn hM' x hy' h8
      rcases look' i ri hi with h3 | ⟨h3, h4⟩
      ·rcases effs i ri h3 with ⟨ji, e, k, l, rfl, hji, rfl⟩ | ⟨_, rfl⟩
       ·rcases look' j rj hj with h5 | ⟨h5, h6⟩
        ·rcases effs j rj h5 with ⟨jj, e', k', l', rfl, hjj, rfl⟩ | ⟨_, rfl⟩
         ·obtain ⟨s, s1, s2, _⟩ := footNew ji e k l hji x hx
          obtain ⟨s', s1', s2', _⟩ := footNew jj e' k' l' hjj x hy
          obtain ⟨y, q, y1, y2, y3, y4⟩ := i5 ji e k l s hji s1 x s2
          obtain ⟨y', q', y1', y2', y3', y4'⟩ := i5 jj e' k' l' s' hjj s1' x s2'
          by_cases hyy : y = y'
          ·subst hyy
           exact hij (by rw [i7 ji jj y y1 y1'])
          ·exact hsat.mem.apart y y' q q' x hyy y2 y2' y3 y4 y4'
         ·exact hy.elim
        ·exact newOld ji e k l j rj hji hx h5 h6 hy
       ·exact hx.elim
      ·rcases look' j rj hj with h5 | ⟨h5, h6⟩
       ·rcases effs j rj h5 with ⟨jj, e', k', l', rfl, hjj, rfl⟩ | ⟨_, rfl⟩
        ·exact newOld jj e' k' l' i ri hjj hy h3 h4 hx
        ·exact hy.elim
       ·rw [footOld i ri h4] at hx
        rw [footOld j rj h6] at hy
        exact hM.apart i j ri rj x hij h4 h6 hmut hx hy
     ·rcases effs i r hi with ⟨j, e, k, l, rfl, hj, rfl⟩ | ⟨_, rfl⟩
      ·obtain ⟨s, _, _, h8, _⟩ := footNew j e k l hj x hx
       rcases h8 with h8 | h8
       ·exact .inl h8
       ·obtain ⟨y, q, _, q1, q2, q3⟩ := S0own x h8
        exact .inr ⟨y, q, q1, fun _ => q2, q3⟩
      ·exact hx.elim
     ·exact hsat.fr.mono fun x _ hx => S0own x hx
    cases e <;> simp only [retG] at hK <;> first | exact fin hK | exact hK.elim
   ·cases hfit
  ·cases hfit
theorem spec_gen {I : Interp} {P : Program} {sp : FuncId → Option Spec} (hsp : ∀ f s, sp f = some s → SpecOK I P f s) (hm : P.follows .mixedOrders = true) (an : List Ann) {f : FuncId} {fn : Func} {c : Code} {N : Nat}
  (hf : P.funcs[f]? = some fn) (hname : (fn.name == "runtime.NumGoroutine") = false) (hb' : fn.body.isSome = true) (hc : bodyOf fn = c) (hN : fn.ntmps = N) {ks : List AK} {g : List Arg → Option (Bool × List Ret)} (hks : ks.length ≤ N ∧ ks.length ≤ 64) (hrs : ∀ as p rs, g as = some (p, rs) → rs.length ≤ 8)
  (h : ∀ as rs, as.length = ks.length → g as = some (true, rs) → wpc P sp N an c 0 64 (envA ks as 0) (memA ks as 0) (retG P fn.results.toList rs)) : SpecOK I P f (gspec ks g) := spec_genA hsp hm (fun _ => an) hf hname hb' hc hN hks hrs h
end
end Sx

/- Contracts by patterns: structs of slices, objects behind pointers. -/
namespace Sx
open Go
set_option linter.unusedVariables false
set_option linter.unusedSimpArgs false
inductive Pat where
 | v
 | ro (k : IntKind)
 | roS (ks : List IntKind)
 | ros
 | own (e : TypeId) (k : IntKind)
 | ownS (e : TypeId) (ks : List IntKind)
 | ownps (e : TypeId)
 | opt (ks : List IntKind)
 | deep (fs : List DS)
 | agg (ps : List Pat)
 | obj (t : TypeId) (ps : List Pat)
 | objs (t : TypeId) (ps : List Pat) (ks : List IntKind) (n : Nat)
 | robj (t : TypeId) (ps : List Pat)
 | robjs (t : TypeId) (ps : List Pat) (ks : List IntKind) (n : Nat)
 | lit (t : TypeId) (m : Nat) (ps : List Pat)
 | fn (f : FuncId) (ps : List Pat)
inductive Dt where
 | v (x : Value)
 | ints (l : List Int)
 | structs (l : List (List Int))
 | rows (l : List (List Int))
 | opts (L : List (List (List Int)))
 | deep (l : List (List DD))
 | node (l : List Dt)
 deriving Inhabited
mutual
def Pat.size : Pat → Nat
 | .v => 0
 | .ro _ | .roS _ | .ros | .own _ _ | .ownS _ _ | .opt _ | .deep _ => 1
 | .ownps _ => 2
 | .agg ps => Pat.sizes ps
 | .obj _ ps => Pat.sizes ps + 1
 | .objs _ ps _ _ => Pat.sizes ps + 2
 | .robj _ ps => Pat.sizes ps + 1
 | .robjs _ ps _ _ => Pat.sizes ps + 2
 | .lit _ _ ps => Pat.sizes ps + 1
 | .fn _ ps => Pat.sizes ps
def Pat.sizes : List Pat → Nat
 | [] => 0
 | p :: ps => p.size + Pat.sizes ps
end
mutual
def Pat.obs : Pat → List Bool
 | .v => []
 | .ro _ | .roS _ | .ros | .own _ _ | .ownS _ _ | .opt _ | .deep _ => [false]
 | .ownps _ => [false, false]
 | .agg ps => Pat.obss ps
 | .obj _ ps => true :: Pat.obss ps
 | .objs _ ps _ _ => true :: (Pat.obss ps ++ [false])
 | .robj _ ps => false :: Pat.obss ps
 | .robjs _ ps _ _ => false :: (Pat.obss ps ++ [false])
 | .lit _ _ ps => false :: Pat.obss ps
 | .fn _ ps => Pat.obss ps
def Pat.obss : List Pat → List Bool
 | [] => []
 | p :: ps => p.obs ++ Pat.obss ps
end
structure Nm where
 x : SV
 rds : List Nat
 wr : Bool
 ob : Bool
 deriving Inhabited
def blkCells (M : Nat → Option Res) (i : Nat) (t : TypeId) : Option (List SV) := match M i with
 | some (.blk u cs) => match Nat.beq u t with
  | true => some cs
  | false => none
 | some (.arr u n a) => match Nat.beq u t with
  | true => some (a.toList.map .v)
  | false => none
 | _ => none
def roCells (M : Nat → Option Res) (i : Nat) (t : TypeId) : Option (List SV) := match M i with
 | some (.rblk u cs) => match Nat.beq u t with
  | true => some cs
  | false => none
 | _ => blkCells M i t
def rowArg (M : Nat → Option Res) (k : AK) (s : SV) : Option (Dt × List Nm) := match readA M k s with
 | some (.ints l, rd) => some (.ints l, [⟨s, rd, false, false⟩])
 | some (.structs l, rd) => some (.structs l, [⟨s, rd, false, false⟩])
 | some (.rows l, rd) => some (.rows l, [⟨s, rd, false, false⟩])
 | _ => none
def ownArg (M : Nat → Option Res) (e : TypeId) (k : IntKind) (s : SV) : Option (Dt × List Nm) := match readA M (.own e k) s with
 | some (.ints l, rd) => some (.ints l, [⟨s, rd, true, false⟩])
 | _ => none
def ownSArg (M : Nat → Option Res) (e : TypeId) (ks : List IntKind) (s : SV) : Option (Dt × List Nm) := match s with
 | .v (.slice none 0 0) => some (.structs [], [⟨s, [], true, false⟩])
 | .row i => match M i with
  | some (.own e' (.structs qs l)) => match decide (qs = ks) && Nat.beq e' e with
   | true => some (.structs l, [⟨s, [i], true, false⟩])
   | false => none
  | _ => none
 | _ => none
def ownpArg (M : Nat → Option Res) (e : TypeId) (s : SV) : Option (Dt × List Nm) := match s with
 | .v (.slice none 0 0) => some (.rows [], [⟨s, [], true, false⟩, ⟨.v (.agg #[]), [], false, false⟩])
 | .row i => match M i with
  | some (.ownp e' j) => match Nat.beq e' e, M j with
   | true, some (.pool xss) => some (.rows xss, [⟨s, [i], true, false⟩, ⟨.row j, [j], false, false⟩])
   | _, _ => none
  | _ => none
 | _ => none
def optArg (M : Nat → Option Res) (ks : List IntKind) (s : SV) : Option (Dt × List Nm) := match s with
 | .v (.pointer none) => some (.structs [], [⟨s, [], false, false⟩])
 | .row i => match M i with
  | some (.opt qs l) => match decide (qs = ks) with
   | true => some (.structs l, [⟨s, [i], false, false⟩])
   | false => none
  | _ => none
 | _ => none
def deepArg (M : Nat → Option Res) (fs : List DS) (s : SV) : Option (Dt × List Nm) := match s with
 | .v (.slice none 0 0) => some (.deep [], [⟨s, [], false, false⟩])
 | .row i => match M i with
  | some (.deep gs l) => match DS.beqs gs fs with
   | true => some (.deep l, [⟨s, [i], false, false⟩])
   | false => none
  | some (.ownq _ z j) => match M j with
   | some (.dpool gs l zz) => match DS.beqs gs fs && Nat.beq z fs.length && Nat.blt 0 z with
    | true => some (.deep l, [⟨s, [i, j], false, false⟩])
    | false => none
   | _ => none
  | _ => none
 | _ => none
def selsArg (M : Nat → Option Res) (ks : List IntKind) (n : Nat) (cs : List SV) : Option (List (List (List Int)) × Nat) := match bund cs, Nat.beq cs.length n with
 | some j, true => match M j with
  | some (.sels qs L) => match decide (qs = ks) with
   | true => some (L, j)
   | false => none
  | _ => none
 | _, _ => none
def optsOf (ds : List Dt) : List (List (List Int)) := match ds with
 | .opts L :: _ => L
 | _ => []
def cellsL : SV → Option (List SV)
 | .agg xs => some xs
 | .v (.agg a) => some (a.toList.map .v)
 | _ => none
mutual
def pm (M : Nat → Option Res) : Pat → SV → Option (Dt × List Nm)
 | .v, s => match s with
  | .v x => some (.v x, [])
  | _ => none
 | .ro k, s => rowArg M (.ro k) s
 | .roS ks, s => rowArg M (.roS ks) s
 | .ros, s => rowArg M .ros s
 | .own e k, s => ownArg M e k s
 | .ownS e ks, s => ownSArg M e ks s
 | .ownps e, s => ownpArg M e s
 | .opt ks, s => optArg M ks s
 | .deep fs, s => deepArg M fs s
 | .agg ps, s => match cellsL s with
  | some xs => match pms M ps xs with
   | some (ds, ns) => some (.node ds, ns)
   | none => none
  | none => none
 | .obj t ps, s => match s with
  | .ptr i off => match Nat.beq off 0, blkCells M i t with
   | true, some cs => match pms M ps cs with
    | some (ds, ns) => some (.node ds, ⟨s, [i], true, true⟩ :: ns)
    | none => none
   | _, _ => none
  | _ => none
 | .objs t ps ks n, s => match s with
  | .ptr i off => match Nat.beq off 0, blkCells M i t with
   | true, some cs => match selsArg M ks n (cs.drop ps.length) with
    | some (L, j) => match pms M ps (cs.take ps.length) with
     | some (ds, ns) => some (.node (ds ++ [.opts L]), ⟨s, [i], true, true⟩ :: (ns ++ [⟨.row j, [j], false, false⟩]))
     | none => none
    | none => none
   | _, _ => none
  | _ => none
 | .robj t ps, s => match s with
  | .ptr i off => match Nat.beq off 0, roCells M i t with
   | true, some cs => match pms M ps cs with
    | some (ds, ns) => some (.node ds, ⟨s, [i], false, false⟩ :: ns)
    | none => none
   | _, _ => none
  | _ => none
 | .robjs t ps ks n, s => match s with
  | .ptr i off => match Nat.beq off 0, roCells M i t with
   | true, some cs => match selsArg M ks n (cs.drop ps.length) with
    | some (L, j) => match pms M ps (cs.take ps.length) with
     | some (ds, ns) => some (.node (ds ++ [.opts L]), ⟨s, [i], false, false⟩ :: (ns ++ [⟨.row j, [j], false, false⟩]))
     | none => none
    | none => none
   | _, _ => none
  | _ => none
 | .lit t m ps, s => match s with
  | .sl i off l c => match Nat.beq off 0 && Nat.beq l m && Nat.beq c m, roCells M i t with
   | true, some cs => match pms M ps cs with
    | some (ds, ns) => some (.node ds, ⟨s, [i], false, false⟩ :: ns)
    | none => none
   | _, _ => none
  | _ => none
 | .fn f ps, s => match s with
  | .fn (.func g) caps => match Nat.beq f g, pms M ps caps with
   | true, some (ds, ns) => some (.node ds, ns)
   | _, _ => none
  | _ => none
def pms (M : Nat → Option Res) : List Pat → List SV → Option (List Dt × List Nm)
 | [], [] => some ([], [])
 | p :: ps, s :: ss => match pm M p s with
  | some (d, ns) => match pms M ps ss with
   | some (ds, ms) => some (d :: ds, ns ++ ms)
   | none => none
  | none => none
 | _, _ => none
end
mutual
def mk : Pat → Dt → Nat → SV × Mem
 | .v, d, n => match d with
  | .v x => (.v x, [])
  | _ => (.v undef, [])
 | .ro k, d, n => match d with
  | .ints l => (.row n, [(n, .ro (.ints k l))])
  | _ => (.v undef, [])
 | .roS ks, d, n => match d with
  | .structs l => (.row n, [(n, .ro (.structs ks l))])
  | _ => (.v undef, [])
 | .ros, d, n => match d with
  | .rows l => (.row n, [(n, .ros l)])
  | _ => (.v undef, [])
 | .own e k, d, n => match d with
  | .ints l => (.row n, [(n, .own e (.ints k l))])
  | _ => (.v undef, [])
 | .ownS e ks, d, n => match d with
  | .structs l => (.row n, [(n, .own e (.structs ks l))])
  | _ => (.v undef, [])
 | .ownps e, d, n => match d with
  | .rows l => (.row n, [(n, .ownp e (n + 1)), (n + 1, .pool l)])
  | _ => (.v undef, [])
 | .opt ks, d, n => match d with
  | .structs l => (.row n, [(n, .opt ks l)])
  | _ => (.v undef, [])
 | .deep fs, d, n => match d with
  | .deep l => (.row n, [(n, .deep fs l)])
  | _ => (.v undef, [])
 | .agg ps, d, n => match d with
  | .node ds => match mks ps ds n with
   | (xs, m) => (mkAgg xs, m)
  | _ => (.v undef, [])
 | .obj t ps, d, n => match d with
  | .node ds => match mks ps ds (n + 1) with
   | (xs, m) => (.ptr n 0, (n, .blk t xs) :: m)
  | _ => (.v undef, [])
 | .objs t ps ks k, d, n => match d with
  | .node ds => match mks ps ds (n + 1) with
   | (xs, m) => (.ptr n 0, (n, .blk t (xs ++ selList (n + 1 + Pat.sizes ps) k 0)) :: (m ++ [(n + 1 + Pat.sizes ps, .sels ks (optsOf (ds.drop ps.length)))]))
  | _ => (.v undef, [])
 | .robj t ps, d, n => match d with
  | .node ds => match mks ps ds (n + 1) with
   | (xs, m) => (.ptr n 0, (n, .rblk t xs) :: m)
  | _ => (.v undef, [])
 | .robjs t ps ks k, d, n => match d with
  | .node ds => match mks ps ds (n + 1) with
   | (xs, m) => (.ptr n 0, (n, .rblk t (xs ++ selList (n + 1 + Pat.sizes ps) k 0)) :: (m ++ [(n + 1 + Pat.sizes ps, .sels ks (optsOf (ds.drop ps.length)))]))
  | _ => (.v undef, [])
 | .lit t k ps, d, n => match d with
  | .node ds => match mks ps ds (n + 1) with
   | (xs, m) => (.sl n 0 k k, (n, .rblk t xs) :: m)
  | _ => (.v undef, [])
 | .fn f ps, d, n => match d with
  | .node ds => match mks ps ds n with
   | (xs, m) => (.fn (.func f) xs, m)
  | _ => (.v undef, [])
def mks : List Pat → List Dt → Nat → List SV × Mem
 | p :: ps, d :: ds, n => match mk p d n with
  | (x, m) => match mks ps ds (n + p.size) with
   | (xs, m') => (x :: xs, m ++ m')
 | _, _, _ => ([], [])
end

section
variable {I : Interp} {P : Program} {γ γc : Vn} {M M' : Nat → Option Res} {w : World}
theorem rowArg_spec {k : AK} {s : SV} {d : Dt} {ns : List Nm} (h : rowArg M k s = some (d, ns)) : ∃ a rd, readA M k s = some (a, rd) ∧ ns = [⟨s, rd, false, false⟩] ∧ ((∃ l, a = .ints l ∧ d = .ints l) ∨ (∃ l, a = .structs l ∧ d = .structs l) ∨ (∃ l, a = .rows l ∧ d = .rows l)) := by
 unfold rowArg at h
 split at h
 ·rename_i l rd hr; simp only [zsI, zpI] at h; exact ⟨_, _, hr, h.2.symm, .inl ⟨l, rfl, h.1.symm⟩⟩
 ·rename_i l rd hr; simp only [zsI, zpI] at h; exact ⟨_, _, hr, h.2.symm, .inr (.inl ⟨l, rfl, h.1.symm⟩)⟩
 ·rename_i l rd hr; simp only [zsI, zpI] at h; exact ⟨_, _, hr, h.2.symm, .inr (.inr ⟨l, rfl, h.1.symm⟩)⟩
 ·cases h
theorem ownArg_spec {e : TypeId} {k : IntKind} {s : SV} {d : Dt} {ns : List Nm} (h : ownArg M e k s = some (d, ns)) : ∃ l rd, readA M (.own e k) s = some (.ints l, rd) ∧ ns = [⟨s, rd, true, false⟩] ∧ d = .ints l := by
 unfold ownArg at h
 split at h
 ·rename_i l rd hr; simp only [zsI, zpI] at h; exact ⟨_, _, hr, h.2.symm, h.1.symm⟩
 ·cases h
structure NmOK (M : Nat → Option Res) (m : Nm) : Prop where
 wr : m.wr = true → ∀ i ∈ m.rds, ∃ q, M i = some q ∧ q.mut = true
 ob : m.ob = true → m.wr = true ∧ ∃ i, m.x = .ptr i 0 ∧ m.rds = [i] ∧ ((∃ t cs, M i = some (.blk t cs)) ∨ ∃ t n a, M i = some (.arr t n a))
def nmBlk (γ : Vn) (m : Nm) : Nat := match m.x with
 | .ptr i _ => γ.blk i
 | .sl i _ _ _ => γ.blk i
 | _ => 0
def nmVal (γ : Vn) (m : Nm) : Value := match m.ob, m.x with
 | true, .ptr i _ => γ.val i
 | _, x => x.den γ
def nmFoot (γ : Vn) (M : Nat → Option Res) (m : Nm) : Nat → Prop := match m.ob, m.x with
 | true, .ptr i _ => γ.foot i
 | _, _ => footOf γ M m.rds
def Cor (γ : Vn) (M : Nat → Option Res) (γc : Vn) (n : Nat) (ns : List Nm) : Prop := ∀ j m, ns[j]? = some m → γc.blk (n + j) = nmBlk γ m ∧ γc.val (n + j) = nmVal γ m ∧ γc.foot (n + j) = nmFoot γ M m
theorem Cor.left {n : Nat} {ns ms : List Nm} (h : Cor γ M γc n (ns ++ ms)) : Cor γ M γc n ns := fun j m hj => h j m (by rw [List.getElem?_append_left (List.getElem?_eq_some_iff.1 hj).1]; exact hj)
theorem Cor.right {n : Nat} {ns ms : List Nm} (h : Cor γ M γc n (ns ++ ms)) : Cor γ M γc (n + ns.length) ms := fun j m hj => by
 rw [Nat.add_assoc]
 exact h (ns.length + j) m (by rw [List.getElem?_append_right (by omega)]; simpa using hj)
def inR (n k i : Nat) : Bool := Nat.ble n i && Nat.blt i (n + k)
theorem inR_iff {n k i : Nat} : inR n k i = true ↔ n ≤ i ∧ i < n + k := by simp [inR, blt_iff]
structure MkOK (I : Interp) (γ : Vn) (M : Nat → Option Res) (γc : Vn) (w : World) (n k : Nat) (mem : Mem) (ns : List Nm) : Prop where
 len : ns.length = k
 mem : ∀ i r, (i, r) ∈ mem → n ≤ i ∧ ∃ m, ns[i - n]? = some m ∧ ResOK I γc i w r ∧ (∀ b, r.foot γc i b ↔ footOf γ M m.rds b) ∧ r.mut = m.wr ∧ r.ids (inR n k) = true
 nm : ∀ m ∈ ns, NmOK M m
theorem dens_v (γ : Vn) (l : List Value) : List.map (SV.den γ ∘ SV.v) l = l := by
 have : (SV.den γ ∘ SV.v) = id := by funext x; simp [SV.den]
 rw [this, List.map_id]
theorem blkCells_spec (hs : MSat I γ M w) {i : Nat} {t : TypeId} {cs : List SV} (h : blkCells M i t = some cs) : ((∃ t cs, M i = some (.blk t cs)) ∨ ∃ t n a, M i = some (.arr t n a)) ∧ w.heap[γ.blk i]? = some (.cells (SV.dens γ cs).toArray t (0, 0)) ∧ ∀ b, footOf γ M [i] b ↔ b = γ.blk i := by
 unfold blkCells at h
 split at h
 ·rename_i u l hM
  split at h
  ·rename_i e
   have e := zbE e
   subst e
   simp only [zsI] at h
   subst h
   refine ⟨.inl ⟨_, _, hM⟩, hs.ok i _ hM, fun b => ⟨fun ⟨j, hj, q, hq, hb⟩ => ?_, fun hb => ⟨i, by simp, _, hM, hb⟩⟩⟩
   simp only [List.mem_singleton] at hj
   subst hj
   rw [hM] at hq; cases hq; exact hb
  ·cases h
 ·rename_i u n a hM
  split at h
  ·rename_i e
   have e := zbE e
   subst e
   simp only [zsI] at h
   subst h
   refine ⟨.inr ⟨_, _, _, hM⟩, ?_, fun b => ⟨fun ⟨j, hj, q, hq, hb⟩ => ?_, fun hb => ⟨i, by simp, _, hM, hb⟩⟩⟩
   ·have := (hs.ok i _ hM).2
    rw [this]
    congr 2
    apply Array.ext'
    simp [dens_eq, dens_v]
   ·simp only [List.mem_singleton] at hj
    subst hj
    rw [hM] at hq; cases hq; exact hb
  ·cases h
 ·cases h
theorem roCells_spec (hs : MSat I γ M w) {i : Nat} {t : TypeId} {cs : List SV} (h : roCells M i t = some cs) : w.heap[γ.blk i]? = some (.cells (SV.dens γ cs).toArray t (0, 0)) ∧ ∀ b, footOf γ M [i] b ↔ b = γ.blk i := by
 unfold roCells at h
 split at h
 ·rename_i u l hM
  split at h
  ·rename_i e
   have e := zbE e
   subst e
   simp only [zsI] at h
   subst h
   refine ⟨hs.ok i _ hM, fun b => ⟨fun ⟨j, hj, q, hq, hb⟩ => ?_, fun hb => ⟨i, by simp, _, hM, hb⟩⟩⟩
   simp only [List.mem_singleton] at hj
   subst hj
   rw [hM] at hq; cases hq; exact hb
  ·cases h
 ·exact (blkCells_spec hs h).2
theorem selsArg_spec {ks : List IntKind} {n : Nat} {cs : List SV} {L : List (List (List Int))} {j : Nat} (h : selsArg M ks n cs = some (L, j)) : M j = some (.sels ks L) ∧ cs.length = n ∧ ∀ m, m < cs.length → cs[m]? = some (.sel j m) := by
 unfold selsArg at h
 split at h
 ·rename_i k hb hl
  split at h
  ·rename_i qs L' hM
   split at h
   ·rename_i hq
    simp only [decide_eq_true_eq] at hq
    simp only [zsI, zpI] at h
    obtain ⟨rfl, rfl⟩ := h
    subst hq
    exact ⟨hM, zbE hl, (bund_get hb).2⟩
   ·cases h
  ·cases h
 ·cases h
theorem selsArg_loc {ks : List IntKind} {n : Nat} {cs : List SV} {L : List (List (List Int))} {j : Nat} (h : selsArg M ks n cs = some (L, j)) (hM : M' j = M j) : selsArg M' ks n cs = some (L, j) := by
 have h1 := (selsArg_spec h).1
 unfold selsArg at h ⊢
 split at h
 ·rename_i k hb hl
  split at h
  ·rename_i qs L' hMk
   split at h
   ·rename_i hq
    simp only [zsI, zpI] at h
    obtain ⟨rfl, rfl⟩ := h
    simp only [hb, hl, hM, hMk, hq]
   ·cases h
  ·cases h
 ·cases h
theorem dens_sel {γ γc : Vn} {j q n : Nat} {cs : List SV} (hv : γc.val q = γ.val j) (hl : cs.length = n) (h : ∀ m, m < cs.length → cs[m]? = some (.sel j m)) : SV.dens γc (selList q n 0) = SV.dens γ cs := by
 rw [dens_eq, dens_eq]
 apply List.ext_getElem?
 intro m
 rw [List.getElem?_map, List.getElem?_map, selList_get]
 by_cases hm : m < n
 ·rw [if_pos hm, h m (by omega)]; simp [SV.den, hv]
 ·rw [if_neg hm, List.getElem?_eq_none (by omega)]; rfl
theorem mks_more : ∀ (ps : List Pat) (ds es : List Dt) (n : Nat), ds.length = ps.length → mks ps (ds ++ es) n = mks ps ds n
 | [], ds, es, n, h => by simp [mks]
 | p :: ps, [], es, n, h => by simp at h
 | p :: ps, d :: ds, es, n, h => by
  rw [List.cons_append, mks, mks, mks_more ps ds es _ (by simpa using h)]
theorem pms_dlen : ∀ (ps : List Pat) (ss : List SV) (ds : List Dt) (ns : List Nm), pms M ps ss = some (ds, ns) → ds.length = ps.length
 | [], [], ds, ns, h => by
  unfold pms at h
  simp only [zsI, zpI] at h; obtain ⟨rfl, rfl⟩ := h; simp
 | p :: ps, s :: ss, ds, ns, h => by
  unfold pms at h
  split at h
  ·split at h
   ·rename_i ds2 n2 h2
    simp only [zsI, zpI] at h
    obtain ⟨rfl, rfl⟩ := h
    have := pms_dlen ps ss ds2 n2 h2
    simp [this]
   ·cases h
  ·cases h
 | [], _ :: _, ds, ns, h => by simp [pms] at h
 | _ :: _, [], ds, ns, h => by simp [pms] at h
theorem footOf_one {i : Nat} {r : Res} (h : M i = some r) (b : Nat) : footOf γ M [i] b ↔ r.foot γ i b :=
 ⟨fun ⟨j, hj, q, hq, hb⟩ => by obtain rfl := List.mem_singleton.1 hj; rw [h] at hq; cases hq; exact hb, fun hb => ⟨i, List.mem_singleton.2 rfl, _, h, hb⟩⟩
theorem roCells_loc {i : Nat} {t : TypeId} (h : M' i = M i) : roCells M' i t = roCells M i t := by
 unfold roCells blkCells; rw [h]
theorem cellsL_den {s : SV} {xs : List SV} (h : cellsL s = some xs) : s.den γ = .agg (SV.dens γ xs).toArray := by
 unfold cellsL at h
 split at h
 ·simp only [zsI] at h; subst h; simp [SV.den]
 ·rename_i a
  simp only [zsI] at h; subst h
  simp only [SV.den]
  congr 1
  apply Array.ext'
  simp [dens_eq, dens_v]
 ·cases h
theorem mk_row (hs : MSat I γ M w) {k : AK} {s : SV} {a : Arg} {rd : List Nat} {n : Nat} {wr : Bool} (hk : k ≠ .v) (hw : wr = (resA k a).mut) (hown : wr = true → ∀ i ∈ rd, ∃ q, M i = some q ∧ q.mut = true) (h : readA M k s = some (a, rd)) (hc : Cor γ M γc n [⟨s, rd, wr, false⟩]) :
  MkOK I γ M γc w n 1 [(n, resA k a)] [⟨s, rd, wr, false⟩] ∧ (SV.row n).den γc = s.den γ := by
 obtain ⟨c1, c2, c3⟩ := hc 0 _ rfl
 rw [Nat.add_zero] at c1 c2 c3
 simp only [nmVal, nmFoot] at c2 c3
 obtain ⟨r1, r2, r3, r4⟩ := argOK_res (readA_ok hs h) hk c2 c3
 refine ⟨⟨rfl, fun i r hi => ?_, fun m hm => ?_⟩, by simp only [SV.den]; exact c2⟩
 ·simp only [List.mem_singleton, zpI] at hi
  obtain ⟨rfl, rfl⟩ := hi
  exact ⟨Nat.le_refl _, _, by rw [Nat.sub_self]; rfl, r1, fun b => by rw [r2], hw.symm, r4 _⟩
 ·simp only [List.mem_singleton] at hm
  subst hm
  exact ⟨hown, fun h => by cases h⟩
theorem ownSArg_spec {e : TypeId} {ks : List IntKind} {s : SV} {d : Dt} {ns : List Nm} (h : ownSArg M e ks s = some (d, ns)) :
  ∃ l rd, d = .structs l ∧ ns = [⟨s, rd, true, false⟩] ∧ ((s = .v (.slice none 0 0) ∧ l = [] ∧ rd = []) ∨ ∃ i, s = .row i ∧ rd = [i] ∧ M i = some (.own e (.structs ks l))) := by
 unfold ownSArg at h
 split at h
 ·simp only [zsI, zpI] at h; exact ⟨[], [], h.1.symm, h.2.symm, .inl ⟨rfl, rfl, rfl⟩⟩
 ·rename_i i
  split at h
  ·rename_i e' qs l hM
   split at h
   ·rename_i hq
    simp only [zaT, decide_eq_true_eq] at hq
    have he := zbE hq.2
    have hk := hq.1
    subst he; subst hk
    simp only [zsI, zpI] at h; exact ⟨l, [i], h.1.symm, h.2.symm, .inr ⟨i, rfl, rfl, hM⟩⟩
   ·cases h
  ·cases h
 ·cases h
theorem mk_ownS (hs : MSat I γ M w) {e : TypeId} {ks : List IntKind} {s : SV} {d : Dt} {ns : List Nm} {n : Nat} (h : ownSArg M e ks s = some (d, ns)) (hc : Cor γ M γc n ns) :
  ∃ l, d = .structs l ∧ MkOK I γ M γc w n 1 [(n, .own e (.structs ks l))] ns ∧ (SV.row n).den γc = s.den γ := by
 obtain ⟨l, rd, rfl, rfl, hcase⟩ := ownSArg_spec h
 obtain ⟨c1, c2, c3⟩ := hc 0 _ rfl
 rw [Nat.add_zero] at c1 c2 c3
 simp only [nmVal, nmFoot] at c2 c3
 refine ⟨l, rfl, ⟨rfl, fun i r hi => ?_, fun m hm => ?_⟩, by simp only [SV.den]; exact c2⟩
 ·simp only [List.mem_singleton, zpI] at hi
  obtain ⟨rfl, rfl⟩ := hi
  refine ⟨Nat.le_refl _, _, by rw [Nat.sub_self]; rfl, ?_, fun b => by simp only [Res.foot]; rw [c3], rfl, rfl⟩
  simp only [ResOK]
  rw [c2, c3]
  rcases hcase with ⟨rfl, rfl, rfl⟩ | ⟨i, rfl, rfl, hM⟩
  ·refine ⟨World.ownsRow_nil w 0 _ _, fun b => ?_⟩
   simp [SV.den, Value.ownBlock, footOf]
  ·obtain ⟨o1, o2⟩ := hs.ok i _ hM
   refine ⟨o1, fun b => ?_⟩
   simp only [SV.den]
   rw [← o2 b]
   exact ⟨fun ⟨j, hj, q, hq, hx⟩ => by obtain rfl := List.mem_singleton.1 hj; rw [hM] at hq; cases hq; exact hx, fun hx => ⟨i, List.mem_singleton.2 rfl, _, hM, hx⟩⟩
 ·simp only [List.mem_singleton] at hm
  subst hm
  refine ⟨fun _ j hj => ?_, fun h => (by cases h)⟩
  rcases hcase with ⟨rfl, rfl, rfl⟩ | ⟨i, rfl, rfl, hM⟩
  ·simp at hj
  ·simp only [List.mem_singleton] at hj
   subst hj
   exact ⟨_, hM, rfl⟩
theorem ownpArg_spec {e : TypeId} {s : SV} {d : Dt} {ns : List Nm} (h : ownpArg M e s = some (d, ns)) :
  ∃ l, d = .rows l ∧ ((s = .v (.slice none 0 0) ∧ l = [] ∧ ns = [⟨s, [], true, false⟩, ⟨.v (.agg #[]), [], false, false⟩]) ∨ ∃ i j, s = .row i ∧ ns = [⟨s, [i], true, false⟩, ⟨.row j, [j], false, false⟩] ∧ M i = some (.ownp e j) ∧ M j = some (.pool l)) := by
 unfold ownpArg at h
 split at h
 ·simp only [zsI, zpI] at h; exact ⟨[], h.1.symm, .inl ⟨rfl, rfl, h.2.symm⟩⟩
 ·rename_i i
  split at h
  ·rename_i e' j hM
   split at h
   ·rename_i xss he hP
    have he := zbE he
    subst he
    simp only [zsI, zpI] at h; exact ⟨xss, h.1.symm, .inr ⟨i, j, rfl, h.2.symm, hM, hP⟩⟩
   ·cases h
  ·cases h
 ·cases h
theorem mk_ownp (hs : MSat I γ M w) {e : TypeId} {s : SV} {d : Dt} {ns : List Nm} {n : Nat} (h : ownpArg M e s = some (d, ns)) (hc : Cor γ M γc n ns) :
  ∃ l, d = .rows l ∧ MkOK I γ M γc w n 2 [(n, .ownp e (n + 1)), (n + 1, .pool l)] ns ∧ (SV.row n).den γc = s.den γ := by
 obtain ⟨l, rfl, hcase⟩ := ownpArg_spec h
 rcases hcase with ⟨rfl, rfl, rfl⟩ | ⟨i, j, rfl, rfl, hM, hP⟩
 ·obtain ⟨c1, c2, c3⟩ := hc 0 _ rfl
  obtain ⟨d1, d2, d3⟩ := hc 1 _ rfl
  rw [Nat.add_zero] at c1 c2 c3
  simp only [nmVal, nmFoot, SV.den] at c2 c3 d2 d3
  refine ⟨[], rfl, ⟨rfl, fun k r hk => ?_, fun m hm => ?_⟩, by simp only [SV.den]; exact c2⟩
  ·simp only [List.mem_cons, zpI, List.not_mem_nil, or_false] at hk
   rcases hk with ⟨rfl, rfl⟩ | ⟨rfl, rfl⟩
   ·refine ⟨Nat.le_refl _, _, by rw [Nat.sub_self]; rfl, ?_, fun b => by simp only [Res.foot]; rw [c3], rfl, by simp [Res.ids, SV.idss, SV.ids, inR_iff]⟩
    simp only [ResOK]
    rw [c2, c3, d2]
    refine ⟨World.ownsRow_nil w 0 _ _, fun b => ?_⟩
    simp [Value.ownBlock, footOf]
   ·refine ⟨Nat.le_succ _, _, by rw [Nat.add_sub_cancel_left]; rfl, ?_, fun b => by simp only [Res.foot]; rw [d3], rfl, rfl⟩
    simp only [ResOK]
    rw [d2]
    exact ⟨rfl, fun k y xs hy => by simp [poolVs] at hy⟩
  ·simp only [List.mem_cons, List.not_mem_nil, or_false] at hm
   rcases hm with rfl | rfl
   ·exact ⟨fun _ j hj => (by simp at hj), fun h => (by cases h)⟩
   ·exact ⟨fun h => (by cases h), fun h => (by cases h)⟩
 ·obtain ⟨c1, c2, c3⟩ := hc 0 _ rfl
  obtain ⟨d1, d2, d3⟩ := hc 1 _ rfl
  rw [Nat.add_zero] at c1 c2 c3
  simp only [nmVal, nmFoot, SV.den] at c2 c3 d2 d3
  obtain ⟨o1, o2⟩ := hs.ok i _ hM
  have o3 := hs.ok j _ hP
  refine ⟨l, rfl, ⟨rfl, fun k r hk => ?_, fun m hm => ?_⟩, by simp only [SV.den]; exact c2⟩
  ·simp only [List.mem_cons, zpI, List.not_mem_nil, or_false] at hk
   rcases hk with ⟨rfl, rfl⟩ | ⟨rfl, rfl⟩
   ·refine ⟨Nat.le_refl _, _, by rw [Nat.sub_self]; rfl, ?_, fun b => by simp only [Res.foot]; rw [c3], rfl, by simp [Res.ids, SV.idss, SV.ids, inR_iff]⟩
    simp only [ResOK]
    rw [c2, c3, d2]
    refine ⟨o1, fun b => ?_⟩
    rw [← o2 b]
    exact footOf_one hM b
   ·refine ⟨Nat.le_succ _, _, by rw [Nat.add_sub_cancel_left]; rfl, ?_, fun b => by simp only [Res.foot]; rw [d3], rfl, rfl⟩
    simp only [ResOK] at o3 ⊢
    rw [d2, d3]
    refine ⟨o3.1, fun k y xs hy hx => ?_⟩
    have := o3.2 k y xs hy hx
    refine ⟨this.1, ?_⟩
    rcases this.2 with h1 | ⟨ad, cap, e1, hf, rest⟩ | h1
    ·exact .inl h1
    ·exact .inr (.inl ⟨ad, cap, e1, (footOf_one hP _).2 hf, rest⟩)
    ·exact .inr (.inr h1)
  ·simp only [List.mem_cons, List.not_mem_nil, or_false] at hm
   rcases hm with rfl | rfl
   ·exact ⟨fun _ k hk => (by obtain rfl := List.mem_singleton.1 hk; exact ⟨_, hM, rfl⟩), fun h => (by cases h)⟩
   ·exact ⟨fun h => (by cases h), fun h => (by cases h)⟩
theorem optArg_spec {ks : List IntKind} {s : SV} {d : Dt} {ns : List Nm} (h : optArg M ks s = some (d, ns)) :
  ∃ l rd, d = .structs l ∧ ns = [⟨s, rd, false, false⟩] ∧ ((s = .v (.pointer none) ∧ l = [] ∧ rd = []) ∨ ∃ i, s = .row i ∧ rd = [i] ∧ M i = some (.opt ks l)) := by
 unfold optArg at h
 split at h
 ·simp only [zsI, zpI] at h; exact ⟨[], [], h.1.symm, h.2.symm, .inl ⟨rfl, rfl, rfl⟩⟩
 ·rename_i i
  split at h
  ·rename_i qs l hM
   split at h
   ·rename_i hq
    have hk := of_decide_eq_true hq
    subst hk
    simp only [zsI, zpI] at h; exact ⟨l, [i], h.1.symm, h.2.symm, .inr ⟨i, rfl, rfl, hM⟩⟩
   ·cases h
  ·cases h
 ·cases h
theorem mk_opt (hs : MSat I γ M w) {ks : List IntKind} {s : SV} {d : Dt} {ns : List Nm} {n : Nat} (h : optArg M ks s = some (d, ns)) (hc : Cor γ M γc n ns) :
  ∃ l, d = .structs l ∧ MkOK I γ M γc w n 1 [(n, .opt ks l)] ns ∧ (SV.row n).den γc = s.den γ := by
 obtain ⟨l, rd, rfl, rfl, hcase⟩ := optArg_spec h
 obtain ⟨c1, c2, c3⟩ := hc 0 _ rfl
 rw [Nat.add_zero] at c1 c2 c3
 simp only [nmVal, nmFoot] at c2 c3
 refine ⟨l, rfl, ⟨rfl, fun i r hi => ?_, fun m hm => ?_⟩, by simp only [SV.den]; exact c2⟩
 ·simp only [List.mem_singleton, zpI] at hi
  obtain ⟨rfl, rfl⟩ := hi
  refine ⟨Nat.le_refl _, _, by rw [Nat.sub_self]; rfl, ?_, fun b => by simp only [Res.foot]; rw [c3], rfl, rfl⟩
  simp only [ResOK]
  rw [c2, c3]
  rcases hcase with ⟨rfl, rfl, rfl⟩ | ⟨i, rfl, rfl, hM⟩
  ·exact .inl ⟨by simp [SV.den], rfl⟩
  ·have ho : OptIn (γ.foot i) w (γ.val i) ks l := hs.ok i _ hM
   simp only [SV.den]
   rcases ho with h1 | ⟨ad, xs, e, el, hf, hsp, hx⟩
   ·exact .inl h1
   ·exact .inr ⟨ad, xs, e, el, ⟨i, List.mem_singleton.2 rfl, _, hM, hf⟩, hsp, hx⟩
 ·simp only [List.mem_singleton] at hm
  subst hm
  exact ⟨fun h => (by cases h), fun h => (by cases h)⟩
theorem deepArg_spec {fs : List DS} {s : SV} {d : Dt} {ns : List Nm} (h : deepArg M fs s = some (d, ns)) :
  ∃ l rd, d = .deep l ∧ ns = [⟨s, rd, false, false⟩] ∧ ((s = .v (.slice none 0 0) ∧ l = [] ∧ rd = []) ∨ (∃ i, s = .row i ∧ rd = [i] ∧ M i = some (.deep fs l)) ∨ ∃ i e z j zz, s = .row i ∧ rd = [i, j] ∧ M i = some (.ownq e z j) ∧ M j = some (.dpool fs l zz) ∧ z = fs.length ∧ 0 < z) := by
 unfold deepArg at h
 split at h
 ·simp only [zsI, zpI] at h; exact ⟨[], [], h.1.symm, h.2.symm, .inl ⟨rfl, rfl, rfl⟩⟩
 ·rename_i i
  split at h
  ·rename_i qs l hM
   split at h
   ·rename_i hq
    have hk := DS.beqs_eq _ _ hq
    subst hk
    simp only [zsI, zpI] at h; exact ⟨l, [i], h.1.symm, h.2.symm, .inr (.inl ⟨i, rfl, rfl, hM⟩)⟩
   ·cases h
  ·rename_i e z j hM
   split at h
   ·rename_i gs l zz hP
    split at h
    ·rename_i hq
     simp only [zaT] at hq
     have hk := DS.beqs_eq _ _ hq.1.1
     subst hk
     simp only [zsI, zpI] at h
     exact ⟨l, [i, j], h.1.symm, h.2.symm, .inr (.inr ⟨i, e, z, j, zz, rfl, rfl, hM, hP, zbE hq.1.2, zbL hq.2⟩)⟩
    ·cases h
   ·cases h
  ·cases h
 ·cases h
theorem readsIn_mono {F F' : Nat → Prop} {v : Value} {sz n : Nat} {xs : List Value} (hF : ∀ b, F b → F' b) (h : ReadsIn F w v sz n xs) : ReadsIn F' w v sz n xs := by
 obtain ⟨h1, h2⟩ := h
 refine ⟨h1, ?_⟩
 rcases h2 with h | ⟨a, cap, e, hf, r⟩ | h
 ·exact .inl h
 ·exact .inr (.inl ⟨a, cap, e, hF _ hf, r⟩)
 ·exact .inr (.inr h)
theorem deepN_mono {F F' : Nat → Prop} (hF : ∀ b, F b → F' b) : ∀ (d : Nat) (fs : List DS) (v : Value) (l : List (List DD)), DeepN F w d fs v l → DeepN F' w d fs v l
 | 0, _, _, _, h => h
 | d + 1, fs, v, l, h => by
  obtain ⟨vs, h1, h2⟩ := h
  refine ⟨vs, readsIn_mono hF h1, fun k c f hk hf => ?_⟩
  obtain ⟨y, hy, hm⟩ := h2 k c f hk hf
  refine ⟨y, hy, ?_⟩
  cases f with
  | n q => exact hm
  | s gs => exact deepN_mono hF d gs y _ hm
theorem mk_deep (hs : MSat I γ M w) {fs : List DS} {s : SV} {d : Dt} {ns : List Nm} {n : Nat} (h : deepArg M fs s = some (d, ns)) (hc : Cor γ M γc n ns) :
  ∃ l, d = .deep l ∧ MkOK I γ M γc w n 1 [(n, .deep fs l)] ns ∧ (SV.row n).den γc = s.den γ := by
 obtain ⟨l, rd, rfl, rfl, hcase⟩ := deepArg_spec h
 obtain ⟨c1, c2, c3⟩ := hc 0 _ rfl
 rw [Nat.add_zero] at c1 c2 c3
 simp only [nmVal, nmFoot] at c2 c3
 refine ⟨l, rfl, ⟨rfl, fun i r hi => ?_, fun m hm => ?_⟩, by simp only [SV.den]; exact c2⟩
 ·simp only [List.mem_singleton, zpI] at hi
  obtain ⟨rfl, rfl⟩ := hi
  refine ⟨Nat.le_refl _, _, by rw [Nat.sub_self]; rfl, ?_, fun b => by simp only [Res.foot]; rw [c3], rfl, rfl⟩
  simp only [ResOK]
  rw [c2, c3]
  rcases hcase with ⟨rfl, rfl, rfl⟩ | ⟨i, rfl, rfl, hM⟩ | ⟨i, e, z, j, zz, rfl, rfl, hM, hP, hz, h0⟩
  ·exact ⟨1, [], ⟨by simp, .inl ⟨by simp [SV.den], rfl⟩⟩, fun k c f hk => by simp at hk⟩
  ·obtain ⟨d, hd⟩ := hs.ok i _ hM
   simp only [SV.den]
   exact ⟨d, deepN_mono (fun b hb => ⟨i, List.mem_singleton.2 rfl, _, hM, hb⟩) d fs _ l hd⟩
  ·obtain ⟨_, _, h1, _, _, d, h2⟩ := dpool_reads hs hM hP hz h0
   simp only [SV.den]
   refine ⟨d + 1, _, readsIn_mono (fun b hb => ⟨i, List.mem_cons_self .., _, hM, hb⟩) h1, fun k c f hk hf => ?_⟩
   obtain ⟨y, hy, hm⟩ := h2 k c f hk hf
   refine ⟨y, hy, ?_⟩
   cases f with
   | n q => exact hm
   | s gs => exact deepN_mono (fun b hb => ⟨j, List.mem_cons_of_mem _ (List.mem_cons_self ..), _, hP, hb⟩) d gs y _ hm
 ·simp only [List.mem_singleton] at hm
  subst hm
  exact ⟨fun h => (by cases h), fun h => (by cases h)⟩
def kindA : AK → Arg → Bool
 | .v, .v _ => true
 | .ro _, .ints _ => true
 | .roS _, .structs _ => true
 | .ros, .rows _ => true
 | .own _ _, .ints _ => true
 | _, _ => false
theorem readA_kind {k : AK} {s : SV} {a : Arg} {rd : List Nat} (h : readA M k s = some (a, rd)) : kindA k a = true := by
 unfold readA at h
 repeat' split at h
 all_goals first | (cases h; done) | (simp only [zsI, zpI] at h; obtain ⟨rfl, _⟩ := h; rfl)
theorem readA_own {e : TypeId} {k : IntKind} {s : SV} {a : Arg} {rd : List Nat} (h : readA M (.own e k) s = some (a, rd)) : ∀ i ∈ rd, ∃ q, M i = some q ∧ q.mut = true := by
 unfold readA at h
 simp only at h
 split at h
 ·simp only [zsI, zpI] at h; obtain ⟨_, rfl⟩ := h; simp
 ·split at h
  ·rename_i hM
   split at h
   ·simp only [zsI, zpI] at h
    obtain ⟨_, rfl⟩ := h
    intro j hj
    simp only [List.mem_singleton] at hj
    subst hj
    exact ⟨_, hM, rfl⟩
   ·cases h
  ·cases h
 ·cases h
theorem row_inR {n : Nat} : (SV.row n).ids (inR n 1) = true := by simp only [SV.ids]; rw [inR_iff]; omega
theorem mkAgg_ids {p : Nat → Bool} {xs : List SV} (h : SV.idss p xs = true) : (mkAgg xs).ids p = true := by
 unfold mkAgg; split
 ·simp [SV.ids]
 ·simpa [SV.ids] using h
mutual
theorem pm_mk (hs : MSat I γ M w) : ∀ (p : Pat) (s : SV) (d : Dt) (ns : List Nm) (n : Nat), pm M p s = some (d, ns) → Cor γ M γc n ns →
  MkOK I γ M γc w n p.size (mk p d n).2 ns ∧ (mk p d n).1.den γc = s.den γ ∧ (mk p d n).1.ids (inR n p.size) = true
 | .v, s, d, ns, n, h, hc => by
  unfold pm at h
  split at h
  ·simp only [zsI, zpI] at h
   obtain ⟨rfl, rfl⟩ := h
   exact ⟨⟨rfl, fun i r hi => by simp [mk] at hi, fun m hm => by simp at hm⟩, rfl, by simp [mk, SV.ids]⟩
  ·cases h
 | .ro k, s, d, ns, n, h, hc => by
  unfold pm at h
  obtain ⟨a, rd, h1, rfl, h2⟩ := rowArg_spec h
  rcases h2 with ⟨l, rfl, rfl⟩ | ⟨l, rfl, rfl⟩ | ⟨l, rfl, rfl⟩
  ·obtain ⟨m1, m2⟩ := mk_row (k := .ro k) hs (by simp) rfl (fun h => by cases h) h1 hc
   exact ⟨m1, m2, row_inR⟩
  ·exact absurd (readA_kind h1) (by simp [kindA])
  ·exact absurd (readA_kind h1) (by simp [kindA])
 | .roS ks, s, d, ns, n, h, hc => by
  unfold pm at h
  obtain ⟨a, rd, h1, rfl, h2⟩ := rowArg_spec h
  rcases h2 with ⟨l, rfl, rfl⟩ | ⟨l, rfl, rfl⟩ | ⟨l, rfl, rfl⟩
  ·exact absurd (readA_kind h1) (by simp [kindA])
  ·obtain ⟨m1, m2⟩ := mk_row (k := .roS ks) hs (by simp) rfl (fun h => by cases h) h1 hc
   exact ⟨m1, m2, row_inR⟩
  ·exact absurd (readA_kind h1) (by simp [kindA])
 | .ros, s, d, ns, n, h, hc => by
  unfold pm at h
  obtain ⟨a, rd, h1, rfl, h2⟩ := rowArg_spec h
  rcases h2 with ⟨l, rfl, rfl⟩ | ⟨l, rfl, rfl⟩ | ⟨l, rfl, rfl⟩
  ·exact absurd (readA_kind h1) (by simp [kindA])
  ·exact absurd (readA_kind h1) (by simp [kindA])
  ·obtain ⟨m1, m2⟩ := mk_row (k := .ros) hs (by simp) rfl (fun h => by cases h) h1 hc
   exact ⟨m1, m2, row_inR⟩
 | .own e k, s, d, ns, n, h, hc => by
  unfold pm at h
  obtain ⟨l, rd, h1, rfl, rfl⟩ := ownArg_spec h
  obtain ⟨m1, m2⟩ := mk_row (k := .own e k) hs (by simp) rfl (fun _ => readA_own h1) h1 hc
  exact ⟨m1, m2, row_inR⟩
 | .ownS e ks, s, d, ns, n, h, hc => by
  unfold pm at h
  obtain ⟨l, rfl, m1, m2⟩ := mk_ownS hs h hc
  exact ⟨m1, m2, row_inR⟩
 | .ownps e, s, d, ns, n, h, hc => by
  unfold pm at h
  obtain ⟨l, rfl, m1, m2⟩ := mk_ownp hs h hc
  exact ⟨m1, m2, by simp [mk, SV.ids, Pat.size, inR_iff]⟩
 | .opt ks, s, d, ns, n, h, hc => by
  unfold pm at h
  obtain ⟨l, rfl, m1, m2⟩ := mk_opt hs h hc
  exact ⟨m1, m2, row_inR⟩
 | .deep fs, s, d, ns, n, h, hc => by
  unfold pm at h
  obtain ⟨l, rfl, m1, m2⟩ := mk_deep hs h hc
  exact ⟨m1, m2, row_inR⟩
 | .agg ps, s, d, ns, n, h, hc => by
  unfold pm at h
  split at h
  ·rename_i xs hx
   split at h
   ·rename_i ds ms hp
    simp only [zsI, zpI] at h
    obtain ⟨rfl, rfl⟩ := h
    obtain ⟨m1, m2, m3⟩ := pms_mk hs ps xs ds ms n hp hc
    simp only [mk, Pat.size]
    refine ⟨m1, ?_, ?_⟩
    ·rw [mkAgg_den, m2, cellsL_den hx]
    ·exact mkAgg_ids m3
   ·cases h
  ·cases h
 | .obj t ps, s, d, ns, n, h, hc => by
  unfold pm at h
  split at h
  ·rename_i i off
   split at h
   ·rename_i cs h0 hcs
    split at h
    ·rename_i ds ms hp
     simp only [zsI, zpI] at h
     obtain ⟨rfl, rfl⟩ := h
     have h0 := zbE h0
     subst h0
     obtain ⟨b1, b2, b3⟩ := blkCells_spec hs hcs
     have hc' : Cor γ M γc (n + 1) ms := by have := hc.right (ns := [⟨.ptr i 0, [i], true, true⟩]) (ms := ms); simpa using this
     obtain ⟨c1, c2, c3⟩ := hc 0 _ rfl
     rw [Nat.add_zero] at c1
     simp only [nmBlk] at c1
     obtain ⟨m1, m2, m3⟩ := pms_mk hs ps cs ds ms (n + 1) hp hc'
     have up : ∀ j, inR (n + 1) (Pat.sizes ps) j = true → inR n (Pat.sizes ps + 1) j = true := fun j hj => by rw [inR_iff] at hj ⊢; omega
     simp only [mk, Pat.size]
     refine ⟨⟨by simp [m1.len], fun j r hj => ?_, fun m hm => ?_⟩, by simp [SV.den, c1], by simp only [SV.ids]; rw [inR_iff]; omega⟩
     ·simp only [List.mem_cons, zpI] at hj
      rcases hj with ⟨rfl, rfl⟩ | hj
      ·refine ⟨Nat.le_refl _, _, by rw [Nat.sub_self]; rfl, ?_, fun b => ?_, rfl, ?_⟩
       ·simp only [ResOK]; rw [c1, m2]; exact b2
       ·rw [b3]; simp only [Res.foot]; rw [c1]
       ·exact SV.idss_mono up _ m3
      ·obtain ⟨k1, m, k2, k3, k4, k5, k6⟩ := m1.mem j r hj
       refine ⟨by omega, m, ?_, k3, k4, k5, ?_⟩
       ·rw [show j - n = (j - (n + 1)) + 1 by omega]; simpa using k2
       ·cases r <;> first | exact SV.idss_mono up _ k6 | rfl
     ·simp only [List.mem_cons] at hm
      rcases hm with rfl | hm
      ·refine ⟨fun _ j hj => ?_, fun _ => ⟨rfl, i, rfl, rfl, b1⟩⟩
       simp only [List.mem_singleton] at hj
       subst hj
       rcases b1 with ⟨_, _, hM⟩ | ⟨_, _, _, hM⟩ <;> exact ⟨_, hM, rfl⟩
      ·exact m1.nm m hm
    ·cases h
   ·cases h
  ·cases h
 | .objs t ps ks k, s, d, ns, n, h, hc => by
  unfold pm at h
  split at h
  ·rename_i i off
   split at h
   ·rename_i cs h0 hcs
    split at h
    ·rename_i L j hsl
     split at h
     ·rename_i ds ms hp
      simp only [zsI, zpI] at h
      obtain ⟨rfl, rfl⟩ := h
      have h0 := zbE h0
      subst h0
      obtain ⟨s1, s2, s4⟩ := selsArg_spec hsl
      obtain ⟨b1, b2, b3⟩ := blkCells_spec hs hcs
      have hcr : Cor γ M γc (n + 1) (ms ++ [⟨.row j, [j], false, false⟩]) := by have := hc.right (ns := [⟨.ptr i 0, [i], true, true⟩]) (ms := ms ++ [⟨.row j, [j], false, false⟩]); simpa using this
      have hc' : Cor γ M γc (n + 1) ms := hcr.left
      obtain ⟨c1, c2, c3⟩ := hc 0 _ rfl
      rw [Nat.add_zero] at c1
      simp only [nmBlk] at c1
      obtain ⟨m1, m2, m3⟩ := pms_mk hs ps (cs.take ps.length) ds ms (n + 1) hp hc'
      have hq := hcr.right 0 _ rfl
      rw [m1.len, Nat.add_zero] at hq
      obtain ⟨q1, q2, q3⟩ := hq
      simp only [nmVal, nmFoot, SV.den] at q2 q3
      have hdl := pms_dlen ps _ ds ms hp
      have up : ∀ x, inR (n + 1) (Pat.sizes ps) x = true → inR n (Pat.sizes ps + 2) x = true := fun x hx => by rw [inR_iff] at hx ⊢; omega
      have hden : SV.dens γc ((mks ps ds (n + 1)).1 ++ selList (n + 1 + Pat.sizes ps) k 0) = SV.dens γ cs := by
       rw [dens_append, m2, dens_sel q2 s2 s4, ← dens_append, List.take_append_drop]
      have hopt : optsOf (List.drop ps.length (ds ++ [Dt.opts L])) = L := by
       rw [← hdl, List.drop_left]; rfl
      simp only [mk, Pat.size, mks_more ps ds _ _ hdl, hopt]
      refine ⟨⟨by simp [m1.len], fun x r hx => ?_, fun m hm => ?_⟩, by simp [SV.den, c1], by simp only [SV.ids]; rw [inR_iff]; omega⟩
      ·simp only [List.mem_cons, List.mem_append, zpI, List.not_mem_nil, or_false] at hx
       rcases hx with ⟨rfl, rfl⟩ | hx | ⟨rfl, rfl⟩
       ·refine ⟨Nat.le_refl _, _, by rw [Nat.sub_self]; rfl, ?_, fun b => ?_, rfl, ?_⟩
        ·simp only [ResOK]; rw [c1, hden]; exact b2
        ·rw [b3]; simp only [Res.foot]; rw [c1]
        ·simp only [Res.ids]
         rw [idss_eq, List.all_append, zaT, ← idss_eq, ← idss_eq]
         exact ⟨SV.idss_mono up _ m3, selList_ids (by rw [inR_iff]; omega) _ _⟩
       ·obtain ⟨k1, m, k2, k3, k4, k5, k6⟩ := m1.mem x r hx
        refine ⟨by omega, m, ?_, k3, k4, k5, ?_⟩
        ·rw [show x - n = (x - (n + 1)) + 1 by omega, List.getElem?_cons_succ, List.getElem?_append_left (List.getElem?_eq_some_iff.1 k2).1]; exact k2
        ·cases r <;> first | exact SV.idss_mono up _ k6 | rfl
       ·refine ⟨by omega, ⟨.row j, [j], false, false⟩, ?_, ?_, fun b => ?_, rfl, rfl⟩
        ·rw [show n + 1 + Pat.sizes ps - n = Pat.sizes ps + 1 by omega, List.getElem?_cons_succ, ← m1.len]; simp
        ·simp only [ResOK]
         rw [q2, q3]
         intro m l hl
         have ho := hs.ok j _ s1
         simp only [ResOK] at ho
         have := ho m l hl
         rcases this with h1 | ⟨ad, xs, e, el, hf, hsp, hx⟩
         ·exact .inl h1
         ·exact .inr ⟨ad, xs, e, el, (footOf_one s1 _).2 hf, hsp, hx⟩
        ·simp only [Res.foot]; rw [q3]
      ·simp only [List.mem_cons, List.mem_append, List.not_mem_nil, or_false] at hm
       rcases hm with rfl | hm | rfl
       ·refine ⟨fun _ x hx => ?_, fun _ => ⟨rfl, i, rfl, rfl, b1⟩⟩
        simp only [List.mem_singleton] at hx
        subst hx
        rcases b1 with ⟨_, _, hM⟩ | ⟨_, _, _, hM⟩ <;> exact ⟨_, hM, rfl⟩
       ·exact m1.nm m hm
       ·exact ⟨fun h => (by cases h), fun h => (by cases h)⟩
     ·cases h
    ·cases h
   ·cases h
  ·cases h
 | .robj t ps, s, d, ns, n, h, hc => by
  unfold pm at h
  split at h
  ·rename_i i off
   split at h
   ·rename_i cs h0 hcs
    split at h
    ·rename_i ds ms hp
     simp only [zsI, zpI] at h
     obtain ⟨rfl, rfl⟩ := h
     have h0 := zbE h0
     subst h0
     obtain ⟨b2, b3⟩ := roCells_spec hs hcs
     have hc' : Cor γ M γc (n + 1) ms := by have := hc.right (ns := [⟨.ptr i 0, [i], false, false⟩]) (ms := ms); simpa using this
     obtain ⟨c1, c2, c3⟩ := hc 0 _ rfl
     rw [Nat.add_zero] at c1
     simp only [nmBlk] at c1
     obtain ⟨m1, m2, m3⟩ := pms_mk hs ps cs ds ms (n + 1) hp hc'
     have up : ∀ j, inR (n + 1) (Pat.sizes ps) j = true → inR n (Pat.sizes ps + 1) j = true := fun j hj => by rw [inR_iff] at hj ⊢; omega
     simp only [mk, Pat.size]
     refine ⟨⟨by simp [m1.len], fun j r hj => ?_, fun m hm => ?_⟩, by simp [SV.den, c1], by simp only [SV.ids]; rw [inR_iff]; omega⟩
     ·simp only [List.mem_cons, zpI] at hj
      rcases hj with ⟨rfl, rfl⟩ | hj
      ·refine ⟨Nat.le_refl _, _, by rw [Nat.sub_self]; rfl, ?_, fun b => ?_, rfl, ?_⟩
       ·simp only [ResOK]; rw [c1, m2]; exact b2
       ·rw [b3]; simp only [Res.foot]; rw [c1]
       ·exact SV.idss_mono up _ m3
      ·obtain ⟨k1, m, k2, k3, k4, k5, k6⟩ := m1.mem j r hj
       refine ⟨by omega, m, ?_, k3, k4, k5, ?_⟩
       ·rw [show j - n = (j - (n + 1)) + 1 by omega]; simpa using k2
       ·cases r <;> first | exact SV.idss_mono up _ k6 | rfl
     ·simp only [List.mem_cons] at hm
      rcases hm with rfl | hm
      ·exact ⟨fun h => (by cases h), fun h => (by cases h)⟩
      ·exact m1.nm m hm
    ·cases h
   ·cases h
  ·cases h
 | .robjs t ps ks k, s, d, ns, n, h, hc => by
  unfold pm at h
  split at h
  ·rename_i i off
   split at h
   ·rename_i cs h0 hcs
    split at h
    ·rename_i L j hsl
     split at h
     ·rename_i ds ms hp
      simp only [zsI, zpI] at h
      obtain ⟨rfl, rfl⟩ := h
      have h0 := zbE h0
      subst h0
      obtain ⟨s1, s2, s4⟩ := selsArg_spec hsl
      obtain ⟨b2, b3⟩ := roCells_spec hs hcs
      have hcr : Cor γ M γc (n + 1) (ms ++ [⟨.row j, [j], false, false⟩]) := by have := hc.right (ns := [⟨.ptr i 0, [i], false, false⟩]) (ms := ms ++ [⟨.row j, [j], false, false⟩]); simpa using this
      have hc' : Cor γ M γc (n + 1) ms := hcr.left
      obtain ⟨c1, c2, c3⟩ := hc 0 _ rfl
      rw [Nat.add_zero] at c1
      simp only [nmBlk] at c1
      obtain ⟨m1, m2, m3⟩ := pms_mk hs ps (cs.take ps.length) ds ms (n + 1) hp hc'
      have hq := hcr.right 0 _ rfl
      rw [m1.len, Nat.add_zero] at hq
      obtain ⟨q1, q2, q3⟩ := hq
      simp only [nmVal, nmFoot, SV.den] at q2 q3
      have hdl := pms_dlen ps _ ds ms hp
      have up : ∀ x, inR (n + 1) (Pat.sizes ps) x = true → inR n (Pat.sizes ps + 2) x = true := fun x hx => by rw [inR_iff] at hx ⊢; omega
      have hden : SV.dens γc ((mks ps ds (n + 1)).1 ++ selList (n + 1 + Pat.sizes ps) k 0) = SV.dens γ cs := by
       rw [dens_append, m2, dens_sel q2 s2 s4, ← dens_append, List.take_append_drop]
      have hopt : optsOf (List.drop ps.length (ds ++ [Dt.opts L])) = L := by
       rw [← hdl, List.drop_left]; rfl
      simp only [mk, Pat.size, mks_more ps ds _ _ hdl, hopt]
      refine ⟨⟨by simp [m1.len], fun x r hx => ?_, fun m hm => ?_⟩, by simp [SV.den, c1], by simp only [SV.ids]; rw [inR_iff]; omega⟩
      ·simp only [List.mem_cons, List.mem_append, zpI, List.not_mem_nil, or_false] at hx
       rcases hx with ⟨rfl, rfl⟩ | hx | ⟨rfl, rfl⟩
       ·refine ⟨Nat.le_refl _, _, by rw [Nat.sub_self]; rfl, ?_, fun b => ?_, rfl, ?_⟩
        ·simp only [ResOK]; rw [c1, hden]; exact b2
        ·rw [b3]; simp only [Res.foot]; rw [c1]
        ·simp only [Res.ids]
         rw [idss_eq, List.all_append, zaT, ← idss_eq, ← idss_eq]
         exact ⟨SV.idss_mono up _ m3, selList_ids (by rw [inR_iff]; omega) _ _⟩
       ·obtain ⟨k1, m, k2, k3, k4, k5, k6⟩ := m1.mem x r hx
        refine ⟨by omega, m, ?_, k3, k4, k5, ?_⟩
        ·rw [show x - n = (x - (n + 1)) + 1 by omega, List.getElem?_cons_succ, List.getElem?_append_left (List.getElem?_eq_some_iff.1 k2).1]; exact k2
        ·cases r <;> first | exact SV.idss_mono up _ k6 | rfl
       ·refine ⟨by omega, ⟨.row j, [j], false, false⟩, ?_, ?_, fun b => ?_, rfl, rfl⟩
        ·rw [show n + 1 + Pat.sizes ps - n = Pat.sizes ps + 1 by omega, List.getElem?_cons_succ, ← m1.len]; simp
        ·simp only [ResOK]
         rw [q2, q3]
         intro m l hl
         have ho := hs.ok j _ s1
         simp only [ResOK] at ho
         have := ho m l hl
         rcases this with h1 | ⟨ad, xs, e, el, hf, hsp, hx⟩
         ·exact .inl h1
         ·exact .inr ⟨ad, xs, e, el, (footOf_one s1 _).2 hf, hsp, hx⟩
        ·simp only [Res.foot]; rw [q3]
      ·simp only [List.mem_cons, List.mem_append, List.not_mem_nil, or_false] at hm
       rcases hm with rfl | hm | rfl
       ·exact ⟨fun h => (by cases h), fun h => (by cases h)⟩
       ·exact m1.nm m hm
       ·exact ⟨fun h => (by cases h), fun h => (by cases h)⟩
     ·cases h
    ·cases h
   ·cases h
  ·cases h
 | .lit t k ps, s, d, ns, n, h, hc => by
  unfold pm at h
  split at h
  ·rename_i i off l c
   split at h
   ·rename_i cs h0 hcs
    split at h
    ·rename_i ds ms hp
     simp only [zsI, zpI] at h
     obtain ⟨rfl, rfl⟩ := h
     simp only [zaT] at h0
     have e1 := zbE h0.1.1
     have e2 := zbE h0.1.2
     have e3 := zbE h0.2
     subst e1; subst e2; subst e3
     obtain ⟨b2, b3⟩ := roCells_spec hs hcs
     have hc' : Cor γ M γc (n + 1) ms := by have := hc.right (ns := [⟨.sl i 0 c c, [i], false, false⟩]) (ms := ms); simpa using this
     obtain ⟨c1, c2, c3⟩ := hc 0 _ rfl
     rw [Nat.add_zero] at c1
     simp only [nmBlk] at c1
     obtain ⟨m1, m2, m3⟩ := pms_mk hs ps cs ds ms (n + 1) hp hc'
     have up : ∀ j, inR (n + 1) (Pat.sizes ps) j = true → inR n (Pat.sizes ps + 1) j = true := fun j hj => by rw [inR_iff] at hj ⊢; omega
     simp only [mk, Pat.size]
     refine ⟨⟨by simp [m1.len], fun j r hj => ?_, fun m hm => ?_⟩, by simp [SV.den, c1], by simp only [SV.ids]; rw [inR_iff]; omega⟩
     ·simp only [List.mem_cons, zpI] at hj
      rcases hj with ⟨rfl, rfl⟩ | hj
      ·refine ⟨Nat.le_refl _, _, by rw [Nat.sub_self]; rfl, ?_, fun b => ?_, rfl, ?_⟩
       ·simp only [ResOK]; rw [c1, m2]; exact b2
       ·rw [b3]; simp only [Res.foot]; rw [c1]
       ·exact SV.idss_mono up _ m3
      ·obtain ⟨k1, m, k2, k3, k4, k5, k6⟩ := m1.mem j r hj
       refine ⟨by omega, m, ?_, k3, k4, k5, ?_⟩
       ·rw [show j - n = (j - (n + 1)) + 1 by omega]; simpa using k2
       ·cases r <;> first | exact SV.idss_mono up _ k6 | rfl
     ·simp only [List.mem_cons] at hm
      rcases hm with rfl | hm
      ·exact ⟨fun h => (by cases h), fun h => (by cases h)⟩
      ·exact m1.nm m hm
    ·cases h
   ·cases h
  ·cases h
 | .fn f ps, s, d, ns, n, h, hc => by
  unfold pm at h
  split at h
  ·rename_i g caps
   split at h
   ·rename_i ds ms h0 hp
    simp only [zsI, zpI] at h
    obtain ⟨rfl, rfl⟩ := h
    have h0 := zbE h0
    subst h0
    obtain ⟨m1, m2, m3⟩ := pms_mk hs ps caps ds ms n hp hc
    simp only [mk, Pat.size]
    exact ⟨m1, by simp [SV.den, m2], by simpa [SV.ids] using m3⟩
   ·cases h
  ·cases h
theorem pms_mk (hs : MSat I γ M w) : ∀ (ps : List Pat) (ss : List SV) (ds : List Dt) (ns : List Nm) (n : Nat), pms M ps ss = some (ds, ns) → Cor γ M γc n ns →
  MkOK I γ M γc w n (Pat.sizes ps) (mks ps ds n).2 ns ∧ SV.dens γc (mks ps ds n).1 = SV.dens γ ss ∧ SV.idss (inR n (Pat.sizes ps)) (mks ps ds n).1 = true
 | [], [], ds, ns, n, h, hc => by
  unfold pms at h
  simp only [zsI, zpI] at h
  obtain ⟨rfl, rfl⟩ := h
  exact ⟨⟨rfl, fun i r hi => by simp [mks] at hi, fun m hm => by simp at hm⟩, by simp [mks, SV.dens], by simp [mks, SV.idss]⟩
 | p :: ps, s :: ss, ds, ns, n, h, hc => by
  unfold pms at h
  split at h
  ·rename_i d1 n1 h1
   split at h
   ·rename_i ds2 n2 h2
    simp only [zsI, zpI] at h
    obtain ⟨rfl, rfl⟩ := h
    obtain ⟨a1, a2, a3⟩ := pm_mk hs p s d1 n1 n h1 hc.left
    have hc2 := hc.right
    rw [a1.len] at hc2
    obtain ⟨b1, b2, b3⟩ := pms_mk hs ps ss ds2 n2 (n + p.size) h2 hc2
    have up1 : ∀ j, inR n p.size j = true → inR n (p.size + Pat.sizes ps) j = true := fun j hj => by rw [inR_iff] at hj ⊢; omega
    have up2 : ∀ j, inR (n + p.size) (Pat.sizes ps) j = true → inR n (p.size + Pat.sizes ps) j = true := fun j hj => by rw [inR_iff] at hj ⊢; omega
    simp only [mks, Pat.sizes]
    refine ⟨⟨by simp [a1.len, b1.len], fun j r hj => ?_, fun m hm => ?_⟩, by simp [SV.dens, a2, b2], ?_⟩
    ·simp only [List.mem_append] at hj
     rcases hj with hj | hj
     ·obtain ⟨k1, m, k2, k3, k4, k5, k6⟩ := a1.mem j r hj
      refine ⟨k1, m, by rw [List.getElem?_append_left (List.getElem?_eq_some_iff.1 k2).1]; exact k2, k3, k4, k5, ?_⟩
      cases r <;> first | exact SV.idss_mono up1 _ k6 | rfl
     ·obtain ⟨k1, m, k2, k3, k4, k5, k6⟩ := b1.mem j r hj
      refine ⟨by omega, m, ?_, k3, k4, k5, ?_⟩
      ·rw [List.getElem?_append_right (by rw [a1.len]; omega), a1.len, show j - n - p.size = j - (n + p.size) by omega]; exact k2
      ·cases r <;> first | exact SV.idss_mono up2 _ k6 | rfl
    ·simp only [List.mem_append] at hm
     rcases hm with hm | hm
     ·exact a1.nm m hm
     ·exact b1.nm m hm
    ·simp only [SV.idss, zaT]
     exact ⟨SV.ids_mono up1 _ a3, SV.idss_mono up2 _ b3⟩
   ·cases h
  ·cases h
 | [], _ :: _, ds, ns, n, h, hc => by simp [pms] at h
 | _ :: _, [], ds, ns, n, h, hc => by simp [pms] at h
end
theorem rowArg_loc {k : AK} {s : SV} {d : Dt} {ns : List Nm} (h : rowArg M k s = some (d, ns)) (hM : ∀ m ∈ ns, ∀ i ∈ m.rds, M' i = M i) : rowArg M' k s = some (d, ns) := by
 obtain ⟨a, rd, h1, rfl, h2⟩ := rowArg_spec h
 have h3 := readA_loc (M' := M') h1 (hM ⟨s, rd, false, false⟩ (by simp))
 unfold rowArg at h ⊢
 rw [h3]; rw [h1] at h; exact h
theorem ownArg_loc {e : TypeId} {k : IntKind} {s : SV} {d : Dt} {ns : List Nm} (h : ownArg M e k s = some (d, ns)) (hM : ∀ m ∈ ns, ∀ i ∈ m.rds, M' i = M i) : ownArg M' e k s = some (d, ns) := by
 obtain ⟨a, rd, h1, rfl, h2⟩ := ownArg_spec h
 have h3 := readA_loc (M' := M') h1 (hM ⟨s, rd, true, false⟩ (by simp))
 unfold ownArg at h ⊢
 rw [h3]; rw [h1] at h; exact h
mutual
theorem pm_loc : ∀ (p : Pat) (s : SV) (d : Dt) (ns : List Nm), pm M p s = some (d, ns) → (∀ m ∈ ns, ∀ i ∈ m.rds, M' i = M i) → pm M' p s = some (d, ns)
 | .v, s, d, ns, h, hM => by unfold pm at h ⊢; exact h
 | .ro k, s, d, ns, h, hM => by unfold pm at h ⊢; exact rowArg_loc h hM
 | .roS ks, s, d, ns, h, hM => by unfold pm at h ⊢; exact rowArg_loc h hM
 | .ros, s, d, ns, h, hM => by unfold pm at h ⊢; exact rowArg_loc h hM
 | .own e k, s, d, ns, h, hM => by unfold pm at h ⊢; exact ownArg_loc h hM
 | .ownps e, s, d, ns, h, hM => by
  unfold pm at h ⊢
  obtain ⟨l, rfl, ⟨rfl, rfl, rfl⟩ | ⟨i, j, rfl, rfl, h1, h2⟩⟩ := ownpArg_spec h
  ·exact h
  ·have e1 := (hM ⟨.row i, [i], true, false⟩ (by simp) i (by simp)).trans h1
   have e2 := (hM ⟨.row j, [j], false, false⟩ (by simp) j (by simp)).trans h2
   simp [ownpArg, e1, e2]
 | .ownS e ks, s, d, ns, h, hM => by
  unfold pm at h ⊢
  obtain ⟨l, rd, rfl, rfl, hcase⟩ := ownSArg_spec h
  rcases hcase with ⟨rfl, rfl, rfl⟩ | ⟨i, rfl, rfl, hMi⟩
  ·rfl
  ·have hi := (hM _ (List.mem_cons_self ..) i (by simp)).trans hMi
   unfold ownSArg at h ⊢
   simp only [hi, hMi] at h ⊢
   exact h
 | .opt ks, s, d, ns, h, hM => by
  unfold pm at h ⊢
  obtain ⟨l, rd, rfl, rfl, hcase⟩ := optArg_spec h
  rcases hcase with ⟨rfl, rfl, rfl⟩ | ⟨i, rfl, rfl, hMi⟩
  ·rfl
  ·have hi := (hM _ (List.mem_cons_self ..) i (by simp)).trans hMi
   unfold optArg at h ⊢
   simp only [hi, hMi] at h ⊢
   exact h
 | .deep fs, s, d, ns, h, hM => by
  unfold pm at h ⊢
  obtain ⟨l, rd, rfl, rfl, hcase⟩ := deepArg_spec h
  rcases hcase with ⟨rfl, rfl, rfl⟩ | ⟨i, rfl, rfl, hMi⟩ | ⟨i, e, z, j, zz, rfl, rfl, hMi, hMj, _⟩
  ·rfl
  ·have hi := (hM _ (List.mem_cons_self ..) i (by simp)).trans hMi
   unfold deepArg at h ⊢
   simp only [hi, hMi] at h ⊢
   exact h
  ·have hi := (hM _ (List.mem_cons_self ..) i (by simp)).trans hMi
   have hj := (hM _ (List.mem_cons_self ..) j (by simp)).trans hMj
   unfold deepArg at h ⊢
   simp only [hi, hMi, hj, hMj] at h ⊢
   exact h
 | .agg ps, s, d, ns, h, hM => by
  unfold pm at h ⊢
  split at h
  ·rename_i xs hx
   split at h
   ·rename_i ds ms hp
    simp only [zsI, zpI] at h
    obtain ⟨rfl, rfl⟩ := h
    simp only [hx, pms_loc ps xs ds ms hp hM]
   ·cases h
  ·cases h
 | .obj t ps, s, d, ns, h, hM => by
  unfold pm at h ⊢
  split at h
  ·rename_i i off
   split at h
   ·rename_i cs h0 hcs
    split at h
    ·rename_i ds ms hp
     simp only [zsI, zpI] at h
     obtain ⟨rfl, rfl⟩ := h
     have hi := hM _ (List.mem_cons_self ..) i (by simp)
     have hcs' : blkCells M' i t = some cs := by unfold blkCells at hcs ⊢; rw [hi]; exact hcs
     simp only [h0, hcs', pms_loc ps cs ds ms hp (fun m hm => hM m (List.mem_cons_of_mem _ hm))]
    ·cases h
   ·cases h
  ·cases h
 | .objs t ps ks k, s, d, ns, h, hM => by
  unfold pm at h ⊢
  split at h
  ·rename_i i off
   split at h
   ·rename_i cs h0 hcs
    split at h
    ·rename_i L j hsl
     split at h
     ·rename_i ds ms hp
      simp only [zsI, zpI] at h
      obtain ⟨rfl, rfl⟩ := h
      have hi := hM _ (List.mem_cons_self ..) i (by simp)
      have hj := hM ⟨.row j, [j], false, false⟩ (by simp) j (by simp)
      have hcs' : blkCells M' i t = some cs := by unfold blkCells at hcs ⊢; rw [hi]; exact hcs
      simp only [h0, hcs', selsArg_loc hsl hj, pms_loc ps _ ds ms hp (fun m hm => hM m (List.mem_cons_of_mem _ (List.mem_append_left _ hm)))]
     ·cases h
    ·cases h
   ·cases h
  ·cases h
 | .robj t ps, s, d, ns, h, hM => by
  unfold pm at h ⊢
  split at h
  ·rename_i i off
   split at h
   ·rename_i cs h0 hcs
    split at h
    ·rename_i ds ms hp
     simp only [zsI, zpI] at h
     obtain ⟨rfl, rfl⟩ := h
     have hi := hM _ (List.mem_cons_self ..) i (by simp)
     have hcs' : roCells M' i t = some cs := by rw [roCells_loc hi]; exact hcs
     simp only [h0, hcs', pms_loc ps cs ds ms hp (fun m hm => hM m (List.mem_cons_of_mem _ hm))]
    ·cases h
   ·cases h
  ·cases h
 | .robjs t ps ks k, s, d, ns, h, hM => by
  unfold pm at h ⊢
  split at h
  ·rename_i i off
   split at h
   ·rename_i cs h0 hcs
    split at h
    ·rename_i L j hsl
     split at h
     ·rename_i ds ms hp
      simp only [zsI, zpI] at h
      obtain ⟨rfl, rfl⟩ := h
      have hi := hM _ (List.mem_cons_self ..) i (by simp)
      have hj := hM ⟨.row j, [j], false, false⟩ (by simp) j (by simp)
      have hcs' : roCells M' i t = some cs := by rw [roCells_loc hi]; exact hcs
      simp only [h0, hcs', selsArg_loc hsl hj, pms_loc ps _ ds ms hp (fun m hm => hM m (List.mem_cons_of_mem _ (List.mem_append_left _ hm)))]
     ·cases h
    ·cases h
   ·cases h
  ·cases h
 | .lit t k ps, s, d, ns, h, hM => by
  unfold pm at h ⊢
  split at h
  ·rename_i i off l c
   split at h
   ·rename_i cs h0 hcs
    split at h
    ·rename_i ds ms hp
     simp only [zsI, zpI] at h
     obtain ⟨rfl, rfl⟩ := h
     have hi := hM _ (List.mem_cons_self ..) i (by simp)
     have hcs' : roCells M' i t = some cs := by rw [roCells_loc hi]; exact hcs
     simp only [h0, hcs', pms_loc ps cs ds ms hp (fun m hm => hM m (List.mem_cons_of_mem _ hm))]
    ·cases h
   ·cases h
  ·cases h
 | .fn f ps, s, d, ns, h, hM => by
  unfold pm at h ⊢
  split at h
  ·rename_i g caps
   split at h
   ·rename_i ds ms h0 hp
    simp only [zsI, zpI] at h
    obtain ⟨rfl, rfl⟩ := h
    simp only [h0, pms_loc ps caps ds ms hp hM]
   ·cases h
  ·cases h
theorem pms_loc : ∀ (ps : List Pat) (ss : List SV) (ds : List Dt) (ns : List Nm), pms M ps ss = some (ds, ns) → (∀ m ∈ ns, ∀ i ∈ m.rds, M' i = M i) → pms M' ps ss = some (ds, ns)
 | [], [], ds, ns, h, hM => by unfold pms at h ⊢; exact h
 | p :: ps, s :: ss, ds, ns, h, hM => by
  unfold pms at h ⊢
  split at h
  ·rename_i d1 n1 h1
   split at h
   ·rename_i ds2 n2 h2
    simp only [zsI, zpI] at h
    obtain ⟨rfl, rfl⟩ := h
    simp only [pm_loc p s d1 n1 h1 (fun m hm => hM m (List.mem_append_left _ hm)), pms_loc ps ss ds2 n2 h2 (fun m hm => hM m (List.mem_append_right _ hm))]
   ·cases h
  ·cases h
 | [], _ :: _, ds, ns, h, _ => by simp [pms] at h
 | _ :: _, [], ds, ns, h, _ => by simp [pms] at h
end
mutual
theorem pm_obs : ∀ (p : Pat) (s : SV) (d : Dt) (ns : List Nm), pm M p s = some (d, ns) → ns.map Nm.ob = p.obs
 | .v, s, d, ns, h => by
  unfold pm at h
  split at h
  ·simp only [zsI, zpI] at h; obtain ⟨rfl, rfl⟩ := h; simp [Pat.obs]
  ·cases h
 | .ro k, s, d, ns, h => by unfold pm at h; obtain ⟨a, rd, _, rfl, _⟩ := rowArg_spec h; simp [Pat.obs]
 | .roS ks, s, d, ns, h => by unfold pm at h; obtain ⟨a, rd, _, rfl, _⟩ := rowArg_spec h; simp [Pat.obs]
 | .ros, s, d, ns, h => by unfold pm at h; obtain ⟨a, rd, _, rfl, _⟩ := rowArg_spec h; simp [Pat.obs]
 | .own e k, s, d, ns, h => by unfold pm at h; obtain ⟨a, rd, _, rfl, _⟩ := ownArg_spec h; simp [Pat.obs]
 | .ownS e ks, s, d, ns, h => by unfold pm at h; obtain ⟨l, rd, rfl, rfl, _⟩ := ownSArg_spec h; simp [Pat.obs]
 | .ownps e, s, d, ns, h => by unfold pm at h; obtain ⟨l, rfl, ⟨_, _, rfl⟩ | ⟨_, _, _, rfl, _⟩⟩ := ownpArg_spec h <;> simp [Pat.obs]
 | .opt ks, s, d, ns, h => by unfold pm at h; obtain ⟨l, rd, rfl, rfl, _⟩ := optArg_spec h; simp [Pat.obs]
 | .deep fs, s, d, ns, h => by unfold pm at h; obtain ⟨l, rd, rfl, rfl, _⟩ := deepArg_spec h; simp [Pat.obs]
 | .agg ps, s, d, ns, h => by
  unfold pm at h
  split at h
  ·rename_i xs hx
   split at h
   ·rename_i ds ms hp
    simp only [zsI, zpI] at h
    obtain ⟨rfl, rfl⟩ := h
    simp only [Pat.obs]; exact pms_obs ps xs ds ms hp
   ·cases h
  ·cases h
 | .obj t ps, s, d, ns, h => by
  unfold pm at h
  split at h
  ·rename_i i off
   split at h
   ·rename_i cs h0 hcs
    split at h
    ·rename_i ds ms hp
     simp only [zsI, zpI] at h
     obtain ⟨rfl, rfl⟩ := h
     simp only [Pat.obs, List.map_cons]; rw [pms_obs ps cs ds ms hp]
    ·cases h
   ·cases h
  ·cases h
 | .objs t ps ks k, s, d, ns, h => by
  unfold pm at h
  split at h
  ·rename_i i off
   split at h
   ·rename_i cs h0 hcs
    split at h
    ·rename_i L j hsl
     split at h
     ·rename_i ds ms hp
      simp only [zsI, zpI] at h
      obtain ⟨rfl, rfl⟩ := h
      simp only [Pat.obs, List.map_cons, List.map_append, List.map_nil]; rw [pms_obs ps _ ds ms hp]
     ·cases h
    ·cases h
   ·cases h
  ·cases h
 | .robj t ps, s, d, ns, h => by
  unfold pm at h
  split at h
  ·rename_i i off
   split at h
   ·rename_i cs h0 hcs
    split at h
    ·rename_i ds ms hp
     simp only [zsI, zpI] at h
     obtain ⟨rfl, rfl⟩ := h
     simp only [Pat.obs, List.map_cons]; rw [pms_obs ps cs ds ms hp]
    ·cases h
   ·cases h
  ·cases h
 | .robjs t ps ks k, s, d, ns, h => by
  unfold pm at h
  split at h
  ·rename_i i off
   split at h
   ·rename_i cs h0 hcs
    split at h
    ·rename_i L j hsl
     split at h
     ·rename_i ds ms hp
      simp only [zsI, zpI] at h
      obtain ⟨rfl, rfl⟩ := h
      simp only [Pat.obs, List.map_cons, List.map_append, List.map_nil]; rw [pms_obs ps _ ds ms hp]
     ·cases h
    ·cases h
   ·cases h
  ·cases h
 | .lit t k ps, s, d, ns, h => by
  unfold pm at h
  split at h
  ·rename_i i off l c
   split at h
   ·rename_i cs h0 hcs
    split at h
    ·rename_i ds ms hp
     simp only [zsI, zpI] at h
     obtain ⟨rfl, rfl⟩ := h
     simp only [Pat.obs, List.map_cons]; rw [pms_obs ps cs ds ms hp]
    ·cases h
   ·cases h
  ·cases h
 | .fn f ps, s, d, ns, h => by
  unfold pm at h
  split at h
  ·rename_i g caps
   split at h
   ·rename_i ds ms h0 hp
    simp only [zsI, zpI] at h
    obtain ⟨rfl, rfl⟩ := h
    simp only [Pat.obs]; exact pms_obs ps caps ds ms hp
   ·cases h
  ·cases h
theorem pms_obs : ∀ (ps : List Pat) (ss : List SV) (ds : List Dt) (ns : List Nm), pms M ps ss = some (ds, ns) → ns.map Nm.ob = Pat.obss ps
 | [], [], ds, ns, h => by
  unfold pms at h
  simp only [zsI, zpI] at h; obtain ⟨rfl, rfl⟩ := h; simp [Pat.obss]
 | p :: ps, s :: ss, ds, ns, h => by
  unfold pms at h
  split at h
  ·rename_i d1 n1 h1
   split at h
   ·rename_i ds2 n2 h2
    simp only [zsI, zpI] at h
    obtain ⟨rfl, rfl⟩ := h
    simp only [Pat.obss, List.map_append]; rw [pm_obs p s d1 n1 h1, pms_obs ps ss ds2 n2 h2]
   ·cases h
  ·cases h
 | [], _ :: _, ds, ns, h => by simp [pms] at h
 | _ :: _, [], ds, ns, h => by simp [pms] at h
end
theorem pms_len : ∀ (ps : List Pat) (ss : List SV) (ds : List Dt) (ns : List Nm), pms M ps ss = some (ds, ns) → ss.length = ps.length ∧ ds.length = ps.length
 | [], [], ds, ns, h => by
  unfold pms at h
  simp only [zsI, zpI] at h; obtain ⟨rfl, rfl⟩ := h; simp
 | p :: ps, s :: ss, ds, ns, h => by
  unfold pms at h
  split at h
  ·rename_i d1 n1 h1
   split at h
   ·rename_i ds2 n2 h2
    simp only [zsI, zpI] at h
    obtain ⟨rfl, rfl⟩ := h
    have := pms_len ps ss ds2 n2 h2
    simp [this]
   ·cases h
  ·cases h
 | [], _ :: _, ds, ns, h => by simp [pms] at h
 | _ :: _, [], ds, ns, h => by simp [pms] at h
end
end Sx

/- A contract by patterns out of a walk. -/
namespace Sx
open Go
set_option linter.unusedVariables false
set_option linter.unusedSimpArgs false
structure Post where
 res : List SV
 mem : Mem
def Nm.id (m : Nm) : Nat := match m.x with
 | .ptr i _ => i
 | _ => 0
def kap (ns : List Nm) (n b j : Nat) : Nat := match Nat.blt j n with
 | true => (ns.getD j default).id
 | false => b + (j - n)
def renMem (κ : Nat → Nat) : Mem → Mem
 | [] => []
 | (m, r) :: l => (κ m, r.ren κ) :: renMem κ l
def goneIds : List Nm → List Nat
 | [] => []
 | m :: l => match m.wr with
  | true => m.rds ++ goneIds l
  | false => goneIds l
def readIds : List Nm → List Nat
 | [] => []
 | m :: l => match m.wr with
  | true => readIds l
  | false => m.rds ++ readIds l
def frzs (M : Nat → Option Res) : List Nat → Mem
 | [] => []
 | i :: l => match M i with
  | some (.own e c) => (i, .ro c) :: frzs M l
  | _ => frzs M l
def frzM (al : Bool) (M : Nat → Option Res) (l : List Nat) : Mem := match al with
 | true => frzs M l
 | false => []
def frzOk (M : Nat → Option Res) : List Nat → Bool
 | [] => true
 | i :: l => match M i with
  | some (.own _ _) => frzOk M l
  | some r => !r.mut && frzOk M l
  | none => frzOk M l
def disj : List Nat → List Nat → Bool
 | [], _ => true
 | i :: l, b => match isIn i b with
  | true => false
  | false => disj l b
def apOne (m : Nm) : List Nm → Bool
 | [] => true
 | x :: l => match m.wr || x.wr with
  | true => disj m.rds x.rds && apOne m l
  | false => apOne m l
def apN : List Nm → Bool
 | [] => true
 | m :: l => apOne m l && apN l
theorem read_loc {M M' : Nat → Option Res} : ∀ (ns : List Nm), (∀ m ∈ ns, ∀ i ∈ m.rds, M' i = M i) → ∀ i ∈ readIds ns, M' i = M i
 | [], _, i, hi => by simp [readIds] at hi
 | m :: l, h, i, hi => by
  unfold readIds at hi
  split at hi
  ·exact read_loc l (fun m hm => h m (List.mem_cons_of_mem _ hm)) i hi
  ·rcases List.mem_append.1 hi with hi | hi
   ·exact h m (List.mem_cons_self ..) i hi
   ·exact read_loc l (fun m hm => h m (List.mem_cons_of_mem _ hm)) i hi
theorem frz_loc {M M' : Nat → Option Res} : ∀ (l : List Nat), (∀ i ∈ l, M' i = M i) → frzOk M' l = frzOk M l ∧ frzs M' l = frzs M l
 | [], _ => ⟨rfl, rfl⟩
 | i :: l, h => by
  have h1 := h i (List.mem_cons_self ..)
  obtain ⟨e1, e2⟩ := frz_loc l fun j hj => h j (List.mem_cons_of_mem _ hj)
  simp only [frzOk, frzs, h1, e1, e2]
  exact ⟨trivial, trivial⟩
def okNm (ps : List Pat) (m : Nat) : Bool := (Pat.obss ps).getD m false || (Nat.ble (Pat.sizes ps) m && Nat.blt m (Pat.sizes ps + 64))
def postOk (ps : List Pat) (al : Bool) (p : Post) : Bool := SV.idss (okNm ps) p.res && p.mem.all fun q => okNm ps q.1 && q.2.ids (okNm ps) && (al || q.2.mut)
def pspec (ps : List Pat) (al : Bool) (g : List Dt → Option (Bool × List Bool × (List Bool → Post))) : Spec where
 rd args M := match pms M ps args with
  | some (_, ns) => ns.flatMap Nm.rds
  | none => []
 fits args M := match pms M ps args with
  | some (ds, ns) => match apN ns && (!al || frzOk M (readIds ns)), g ds with
   | true, some (p, _) => p
   | _, _ => false
  | none => false
 sel args M := match pms M ps args with
  | some (ds, ns) => match g ds with
   | some (_, bs, _) => bs
   | none => []
  | none => []
 outs args M bs b := match pms M ps args with
  | some (ds, ns) => match g ds with
   | some (_, _, F) => (tupled (SV.rens (kap ns (Pat.sizes ps) b) (F bs).res), renMem (kap ns (Pat.sizes ps) b) (F bs).mem ++ ((goneIds ns).map (fun i => (i, Res.gone)) ++ frzM al M (readIds ns)))
   | none => (.v undef, [])
  | none => (.v undef, [])
 loc args M M' hf h := by
  cases hp : pms M ps args with
  | none => simp [hp] at hf
  | some q =>
   obtain ⟨ds, ns⟩ := q
   have hM : ∀ m ∈ ns, ∀ i ∈ m.rds, M' i = M i := fun m hm i hi => h i (by simp only [hp]; exact List.mem_flatMap.2 ⟨m, hm, hi⟩)
   have hp' := pms_loc ps args ds ns hp hM
   have e := read_loc ns hM
   simp only [hp, hp', (frz_loc _ e).1, frzM, (frz_loc _ e).2]
   exact ⟨trivial, trivial, trivial, fun _ _ => trivial⟩
def envP : List SV → Nat → Env
 | [], _ => []
 | x :: xs, j => (j, x) :: envP xs (j + 1)
def addU (n i j : Nat) (acc : List (Nat × Nat)) : List (Nat × Nat) := match Nat.blt i n with
 | true => acc
 | false => match look acc i with
  | some _ => acc
  | none => (i, j) :: acc
mutual
def uni (n : Nat) : SV → SV → List (Nat × Nat) → List (Nat × Nat)
 | .row i, y, acc => match y with
  | .row j => addU n i j acc
  | _ => acc
 | .ptr i _, y, acc => match y with
  | .ptr j _ => addU n i j acc
  | _ => acc
 | .sl i _ _ _, y, acc => match y with
  | .sl j _ _ _ => addU n i j acc
  | _ => acc
 | .sel i _, y, acc => match y with
  | .sel j _ => addU n i j acc
  | _ => acc
 | .agg xs, y, acc => match y with
  | .agg ys => unis n xs ys acc
  | _ => acc
 | .tup xs, y, acc => match y with
  | .tup ys => unis n xs ys acc
  | _ => acc
 | .fn _ xs, y, acc => match y with
  | .fn _ ys => unis n xs ys acc
  | _ => acc
 | _, _, acc => acc
def unis (n : Nat) : List SV → List SV → List (Nat × Nat) → List (Nat × Nat)
 | x :: xs, y :: ys, acc => unis n xs ys (uni n x y acc)
 | _, _, acc => acc
end
def rhoOf (n : Nat) (acc : List (Nat × Nat)) (i : Nat) : Nat := match Nat.blt i n with
 | true => i
 | false => match look acc i with
  | some j => j
  | none => i
def unim (n : Nat) (mem : Mem) : Mem → List (Nat × Nat) → List (Nat × Nat)
 | [], acc => acc
 | (m, .blk t cs) :: l, acc => match look mem (rhoOf n acc m) with
  | some (.blk _ cs') => unim n mem l (unis n cs cs' acc)
  | _ => unim n mem l acc
 | (m, .rblk t cs) :: l, acc => match look mem (rhoOf n acc m) with
  | some (.rblk _ cs') => unim n mem l (unis n cs cs' acc)
  | _ => unim n mem l acc
 | (m, .ownc t cs) :: l, acc => match look mem (rhoOf n acc m) with
  | some (.ownc _ cs') => unim n mem l (unis n cs cs' acc)
  | _ => unim n mem l acc
 | (m, .ownp e j) :: l, acc => match look mem (rhoOf n acc m) with
  | some (.ownp _ j') => unim n mem l (addU n j j' acc)
  | _ => unim n mem l acc
 | (m, .ownq e s j) :: l, acc => match look mem (rhoOf n acc m) with
  | some (.ownq _ _ j') => unim n mem l (addU n j j' acc)
  | _ => unim n mem l acc
 | _ :: l, acc => unim n mem l acc
def retM (n : Nat) (post : Post) (env : Env) (mem : Mem) (xs : List SV) : Prop :=
 (eqSs xs (SV.rens (rhoOf n (unim n mem post.mem (unis n post.res xs []))) post.res)).and (Fits (rhoOf n (unim n mem post.mem (unis n post.res xs []))) [] post.mem env mem)
def retP (P : Program) (rs : List ResultVar) (n : Nat) (post : Post) (e : Exit) (B : Nat) (env : Env) (mem : Mem) : Prop := match e with
 | .ret => resK P env mem rs fun xs => retM n post env mem xs
 | .normal => resK P env mem rs fun xs => retM n post env mem xs
 | _ => False

theorem isIn_iff {i : Nat} : ∀ (l : List Nat), isIn i l = true ↔ i ∈ l
 | [] => by simp [isIn]
 | j :: l => by
  unfold isIn
  split
  ·rename_i e; have := zbE e; subst this; simp
  ·rename_i e
   have hne : i ≠ j := fun h => by subst h; simp at e
   rw [isIn_iff l]; simp [hne]
theorem disj_spec {b : List Nat} : ∀ (a : List Nat), disj a b = true → ∀ i ∈ a, i ∉ b
 | [], _, i, hi => by simp at hi
 | j :: l, h, i, hi => by
  unfold disj at h
  split at h
  ·cases h
  ·rename_i e
   rcases List.mem_cons.1 hi with rfl | hi
   ·intro hb; rw [(isIn_iff b).2 hb] at e; cases e
   ·exact disj_spec l h i hi
theorem apOne_spec {m : Nm} : ∀ (l : List Nm), apOne m l = true → ∀ x ∈ l, (m.wr || x.wr) = true → ∀ i ∈ m.rds, i ∉ x.rds
 | [], _, x, hx, _ => by simp at hx
 | y :: l, h, x, hx, hw => by
  unfold apOne at h
  rcases List.mem_cons.1 hx with rfl | hx
  ·rw [hw] at h
   simp only [zaT] at h
   exact disj_spec _ h.1
  ·split at h
   ·simp only [zaT] at h; exact apOne_spec l h.2 x hx hw
   ·exact apOne_spec l h x hx hw
theorem apN_spec : ∀ (l : List Nm), apN l = true → ∀ (i j : Nat) (x y : Nm), i ≠ j → l[i]? = some x → l[j]? = some y → (x.wr || y.wr) = true → ∀ k ∈ x.rds, k ∉ y.rds
 | [], _, i, j, x, y, _, h, _, _ => by simp at h
 | m :: l, h, i, j, x, y, hij, hi, hj, hw => by
  simp only [apN, zaT] at h
  cases i with
  | zero =>
   simp only [List.getElem?_cons_zero, zsI] at hi
   subst hi
   cases j with
   | zero => exact absurd rfl hij
   | succ j =>
    rw [List.getElem?_cons_succ] at hj
    exact apOne_spec l h.1 y (List.mem_of_getElem? hj) hw
  | succ i =>
   rw [List.getElem?_cons_succ] at hi
   cases j with
   | zero =>
    simp only [List.getElem?_cons_zero, zsI] at hj
    subst hj
    intro k hk hk2
    exact apOne_spec l h.1 x (List.mem_of_getElem? hi) (by rw [Bool.or_comm]; exact hw) k hk2 hk
   | succ j =>
    rw [List.getElem?_cons_succ] at hj
    exact apN_spec l h.2 i j x y (by omega) hi hj hw
theorem goneIds_iff {i : Nat} : ∀ (l : List Nm), i ∈ goneIds l ↔ ∃ m ∈ l, m.wr = true ∧ i ∈ m.rds
 | [] => by simp [goneIds]
 | m :: l => by
  unfold goneIds
  split
  ·rename_i e; rw [List.mem_append, goneIds_iff l]; simp [e]
  ·rename_i e; rw [goneIds_iff l]; simp [e]
theorem readIds_iff {i : Nat} : ∀ (l : List Nm), i ∈ readIds l ↔ ∃ m ∈ l, m.wr = false ∧ i ∈ m.rds
 | [] => by simp [readIds]
 | m :: l => by
  unfold readIds
  split
  ·rename_i e; rw [readIds_iff l]; simp [e]
  ·rename_i e; rw [List.mem_append, readIds_iff l]; simp [e]
theorem frzs_look {M : Nat → Option Res} {i : Nat} {r : Res} : ∀ (l : List Nat), look (frzs M l) i = some r → i ∈ l ∧ ∃ e c, M i = some (.own e c) ∧ r = .ro c
 | [], h => by simp [frzs, look] at h
 | j :: l, h => by
  unfold frzs at h
  split at h
  ·rename_i e c hM
   rw [look_cons] at h
   split at h
   ·rename_i hji; subst hji
    simp only [zsI] at h
    exact ⟨List.mem_cons_self .., e, c, hM, h.symm⟩
   ·obtain ⟨h1, h2⟩ := frzs_look l h; exact ⟨List.mem_cons_of_mem _ h1, h2⟩
  ·obtain ⟨h1, h2⟩ := frzs_look l h; exact ⟨List.mem_cons_of_mem _ h1, h2⟩
theorem frzs_own {M : Nat → Option Res} {i : Nat} {e : TypeId} {c : Cont} (hM : M i = some (.own e c)) : ∀ (l : List Nat), i ∈ l → (look (frzs M l) i).isSome = true
 | [], h => by simp at h
 | j :: l, h => by
  unfold frzs
  by_cases hji : i = j
  ·subst hji
   rw [hM]
   simp only
   rw [look_cons, if_pos rfl]; rfl
  ·have hl : i ∈ l := by rcases List.mem_cons.1 h with h | h; exact absurd h hji; exact h
   split
   ·rw [look_cons, if_neg (Ne.symm hji)]; exact frzs_own hM l hl
   ·exact frzs_own hM l hl
theorem frzOk_spec {M : Nat → Option Res} {i : Nat} {r : Res} (hM : M i = some r) : ∀ (l : List Nat), frzOk M l = true → i ∈ l → r.mut = false ∨ ∃ e c, r = .own e c
 | [], _, h => by simp at h
 | j :: l, hf, h => by
  unfold frzOk at hf
  rcases List.mem_cons.1 h with rfl | h
  ·rw [hM] at hf
   split at hf
   ·rename_i e c hr; simp only [zsI] at hr; exact .inr ⟨e, c, hr⟩
   ·rename_i q _ hr
    simp only [zsI] at hr
    subst hr
    simp only [zaT, Bool.not_eq_true'] at hf
    exact .inl hf.1
   ·rename_i hr; cases hr
  ·split at hf
   ·exact frzOk_spec hM l hf h
   ·simp only [zaT] at hf; exact frzOk_spec hM l hf.2 h
   ·exact frzOk_spec hM l hf h
theorem renMem_look {κ : Nat → Nat} {i : Nat} {r : Res} : ∀ (l : Mem), look (renMem κ l) i = some r → ∃ m q, look l m = some q ∧ κ m = i ∧ r = q.ren κ
 | [], h => by simp [renMem, look] at h
 | (m, q) :: l, h => by
  rw [renMem, look_cons] at h
  split at h
  ·rename_i e
   simp only [zsI] at h
   exact ⟨m, q, by rw [look_cons, if_pos rfl], e, h.symm⟩
  ·rename_i hne
   obtain ⟨m', q', h1, h2, h3⟩ := renMem_look l h
   refine ⟨m', q', ?_, h2, h3⟩
   rw [look_cons, if_neg (fun e => by subst e; exact hne h2)]
   exact h1
theorem gone_look {i : Nat} {r : Res} (l : List Nat) (h : look (l.map fun i => (i, Res.gone)) i = some r) : i ∈ l ∧ r = .gone := by
 induction l with
 | nil => simp [look] at h
 | cons j l ih =>
  rw [List.map_cons, look_cons] at h
  split at h
  ·rename_i e; subst e; simp only [zsI] at h; exact ⟨List.mem_cons_self .., h.symm⟩
  ·obtain ⟨h1, h2⟩ := ih h; exact ⟨List.mem_cons_of_mem _ h1, h2⟩
theorem gone_some {i : Nat} (l : List Nat) (h : i ∈ l) : look (l.map fun i => (i, Res.gone)) i = some .gone := by
 induction l with
 | nil => simp at h
 | cons j l ih =>
  rw [List.map_cons, look_cons]
  split
  ·rfl
  ·rename_i hne
   rcases List.mem_cons.1 h with h | h
   ·exact absurd h.symm hne
   ·exact ih h
theorem envP_look : ∀ (xs : List SV) (j t : Nat) (x : SV), look (envP xs j) t = some x → j ≤ t ∧ xs[t - j]? = some x
 | [], j, t, x, h => by simp [envP, look] at h
 | y :: xs, j, t, x, h => by
  rw [envP, look_cons] at h
  split at h
  ·rename_i e; subst e; simp only [zsI] at h; subst h; exact ⟨Nat.le_refl _, by simp⟩
  ·rename_i hne
   obtain ⟨h1, h2⟩ := envP_look xs (j + 1) t x h
   refine ⟨by omega, ?_⟩
   rw [show t - j = (t - (j + 1)) + 1 by omega]
   simpa using h2
theorem Res.ok_ren' {I : Interp} {γ : Vn} {ρ : Nat → Nat} {i : Nat} {w : World} {r : Res} (h : ResOK I (γ.comp ρ) i w r) : ResOK I γ (ρ i) w (r.ren ρ) := by
 cases r with
 | blk t cs => simp only [Res.ren, ResOK] at h ⊢; rw [SV.dens_ren]; exact h
 | rblk t cs => simp only [Res.ren, ResOK] at h ⊢; rw [SV.dens_ren]; exact h
 | ownc e cs => simp only [Res.ren, ResOK, SV.rens_length] at h ⊢; rw [SV.dens_ren]; exact h
 | _ => exact h
mutual
theorem SV.ids_true : ∀ x : SV, x.ids (fun _ => true) = true
 | .v _ => by simp [SV.ids]
 | .ptr _ _ => by simp [SV.ids]
 | .sl _ _ _ _ => by simp [SV.ids]
 | .row _ => by simp [SV.ids]
 | .el _ _ _ _ => by simp [SV.ids]
 | .nilq _ _ => by simp [SV.ids]
 | .sel _ _ => by simp [SV.ids]
 | .selp _ _ _ => by simp [SV.ids]
 | .agg xs => by simp [SV.ids, SV.idss_true xs]
 | .tup xs => by simp [SV.ids, SV.idss_true xs]
 | .fn _ xs => by simp [SV.ids, SV.idss_true xs]
theorem SV.idss_true : ∀ xs : List SV, SV.idss (fun _ => true) xs = true
 | [] => by simp [SV.idss]
 | x :: xs => by simp [SV.idss, SV.ids_true x, SV.idss_true xs]
end
theorem Res.ids_true (r : Res) : r.ids (fun _ => true) = true := by cases r <;> first | exact SV.idss_true _ | rfl
end Sx

/- A contract by patterns out of a walk: the theorem. -/
namespace Sx
open Go
set_option linter.unusedVariables false
set_option linter.unusedSimpArgs false
def patVn (γ : Vn) (M : Nat → Option Res) (ns : List Nm) : Vn := ⟨fun j => nmBlk γ (ns.getD j default), fun j => nmVal γ (ns.getD j default), fun j => nmFoot γ M (ns.getD j default)⟩
theorem patVn_cor (γ : Vn) (M : Nat → Option Res) (ns : List Nm) : Cor γ M (patVn γ M ns) 0 ns := fun j m hj => by
 have : ns.getD j default = m := by simp [List.getD, hj]
 rw [Nat.zero_add]
 exact ⟨by simp only [patVn, this], by simp only [patVn, this], by simp only [patVn, this]⟩
def backVn (γ γf : Vn) (n b : Nat) : Vn := ⟨fun i => if b ≤ i ∧ i < b + 64 then γf.blk (n + (i - b)) else γ.blk i, fun i => if b ≤ i ∧ i < b + 64 then γf.val (n + (i - b)) else γ.val i, fun i => if b ≤ i ∧ i < b + 64 then γf.foot (n + (i - b)) else γ.foot i⟩
section
variable {I : Interp} {P : Program} {sp : FuncId → Option Spec} {γ : Vn} {M : Nat → Option Res} {w : World} {D : Nat → Bool}
theorem foot_ren' (γ : Vn) (κ : Nat → Nat) (m : Nat) (r : Res) : (r.ren κ).foot γ (κ m) = r.foot (γ.comp κ) m := Res.foot_ren γ κ m r
theorem pat_back {N : Nat} {ps : List Pat} {al : Bool} {args : List SV} {ds : List Dt} {ns : List Nm} {b : Nat} {post : Post} {γ' : Vn} {ρ : Nat → Nat} {a' : Act} {w' : World} {D' : Nat → Bool}
  (hM : MSat I γ M w) (hD : ∀ i r, M i = some r → D i = true ∧ r.ids D = true) (hfr : ∀ i, fresh b i = true → D i = false)
  (hp : pms M ps args = some (ds, ns)) (hnm : ∀ m ∈ ns, NmOK M m) (hlen : ns.length = Pat.sizes ps) (hn64 : Pat.sizes ps ≤ 64) (hfz : al = true → frzOk M (readIds ns) = true) (hpo : postOk ps al post = true)
  (hγc : Agree (lowB 64 · = true) (patVn γ M ns) γ') (hρ : ∀ i, i < Pat.sizes ps → ρ i = i)
  (hs : Sat I N w ⟨fun x => ∃ m ∈ ns, m.wr = true ∧ footOf γ M m.rds x, fun x => ∃ m ∈ ns, m.wr = false ∧ footOf γ M m.rds x⟩ (γ'.comp ρ) D' (look []) (look post.mem) a' w') :
  ∃ γ2, SV.dens γ2 (SV.rens (kap ns (Pat.sizes ps) b) post.res) = SV.dens (γ'.comp ρ) post.res ∧ Agree (D · = true) γ γ2 ∧
   MSat I γ2 (fun i => (look (renMem (kap ns (Pat.sizes ps) b) post.mem ++ ((goneIds ns).map (fun i => (i, Res.gone)) ++ frzM al M (readIds ns))) i).or (M i)) w' ∧
   (∀ i r x, look (renMem (kap ns (Pat.sizes ps) b) post.mem ++ ((goneIds ns).map (fun i => (i, Res.gone)) ++ frzM al M (readIds ns))) i = some r → r.foot γ2 i x → w.heap.size ≤ x ∨ ∃ j q, M j = some q ∧ (r.mut = true → q.mut = true) ∧ q.foot γ j x) ∧
   Fr (fun x => ∃ i q, (look (renMem (kap ns (Pat.sizes ps) b) post.mem ++ ((goneIds ns).map (fun i => (i, Res.gone)) ++ frzM al M (readIds ns))) i).isSome = true ∧ M i = some q ∧ q.mut = true ∧ q.foot γ i x) w w' := by
 let n := Pat.sizes ps
 let κ := kap ns n b
 let γf := γ'.comp ρ
 let γ2 := backVn γ γf n b
 have hdb : ∀ i, b ≤ i ∧ i < b + 64 → D i = false := fun i h => hfr i (fresh_iff.2 h)
 have hnot : ∀ i, D i = true → ¬ (b ≤ i ∧ i < b + 64) := fun i hi h => by rw [hdb i h] at hi; cases hi
 have hag : Agree (D · = true) γ γ2 := ⟨fun i hi => if_neg (hnot i hi), fun i hi => if_neg (hnot i hi), fun i hi => if_neg (hnot i hi)⟩
 have hcmp : Agree (okNm ps · = true) γf (γ2.comp κ) := by
  have key : ∀ m, okNm ps m = true → (γ2.comp κ).blk m = γf.blk m ∧ (γ2.comp κ).val m = γf.val m ∧ (γ2.comp κ).foot m = γf.foot m := by
   intro m hm
   unfold okNm at hm
   simp only [Bool.or_eq_true, zaT, Nat.ble_eq, blt_iff] at hm
   by_cases hlt : m < n
   ·have hob : (Pat.obss ps).getD m false = true := by
     rcases hm with hm | ⟨hm, _⟩
     ·exact hm
     ·exact absurd hm (by show ¬ n ≤ m; omega)
    have hmn : m < ns.length := by rw [hlen]; exact hlt
    have hget : ns[m]? = some ns[m] := List.getElem?_eq_getElem hmn
    have hobm : (ns[m]).ob = true := by
     rw [← pms_obs ps args ds ns hp] at hob
     simpa [List.getD, hget] using hob
    obtain ⟨hwr, i, hx, hrd, hMi⟩ := (hnm _ (List.getElem_mem hmn)).ob hobm
    have hgd : ns.getD m default = ns[m] := by simp [List.getD, hget]
    have hκ : κ m = i := by
     show kap ns n b m = i
     unfold kap
     rw [blt_iff.2 hlt]
     simp only [hgd, Nm.id, hx]
    have hDi : D i = true := by rcases hMi with ⟨_, _, h⟩ | ⟨_, _, _, h⟩ <;> exact (hD i _ h).1
    have hm64 : lowB 64 m = true := blt_iff.2 (by omega)
    have hρm : ρ m = m := hρ m hlt
    have p1 : (patVn γ M ns).blk m = γ.blk i := by simp only [patVn, hgd, nmBlk, hobm, hx]
    have p2 : (patVn γ M ns).val m = γ.val i := by simp only [patVn, hgd, nmVal, hobm, hx]
    have p3 : (patVn γ M ns).foot m = γ.foot i := by simp only [patVn, hgd, nmFoot, hobm, hx]
    refine ⟨?_, ?_, ?_⟩
    ·show γ2.blk (κ m) = γ'.blk (ρ m)
     rw [hκ, hρm, hγc.blk m hm64, p1]; exact hag.blk i hDi
    ·show γ2.val (κ m) = γ'.val (ρ m)
     rw [hκ, hρm, hγc.val m hm64, p2]; exact hag.val i hDi
    ·show γ2.foot (κ m) = γ'.foot (ρ m)
     rw [hκ, hρm, hγc.foot m hm64, p3]; exact hag.foot i hDi
   ·have hm2 : n ≤ m ∧ m < n + 64 := by
     rcases hm with hm | hm
     ·have : (Pat.obss ps).length = n := by rw [← pms_obs ps args ds ns hp, List.length_map, hlen]
      rw [List.getD_eq_getElem?_getD, List.getElem?_eq_none (by omega)] at hm; cases hm
     ·exact hm
    have hκ : κ m = b + (m - n) := by
     show kap ns n b m = _
     unfold kap
     have : Nat.blt m n = false := by
      cases h : Nat.blt m n with
      | false => rfl
      | true => exact absurd (blt_iff.1 h) hlt
     rw [this]
    have hin : b ≤ κ m ∧ κ m < b + 64 := by rw [hκ]; omega
    have hback : n + (κ m - b) = m := by rw [hκ]; omega
    refine ⟨?_, ?_, ?_⟩
    ·show γ2.blk (κ m) = _; show (if _ then _ else _) = _; rw [if_pos hin, hback]
    ·show γ2.val (κ m) = _; show (if _ then _ else _) = _; rw [if_pos hin, hback]
    ·show γ2.foot (κ m) = _; show (if _ then _ else _) = _; rw [if_pos hin, hback]
  exact ⟨fun i hi => (key i hi).1, fun i hi => (key i hi).2.1, fun i hi => (key i hi).2.2⟩
 unfold postOk at hpo
 rw [zaT, List.all_eq_true] at hpo
 have hmem : ∀ m r, look post.mem m = some r → okNm ps m = true ∧ r.ids (okNm ps) = true ∧ (al = true ∨ r.mut = true) := fun m r h => by
  have := hpo.2 (m, r) (look_mem h)
  simpa [zaT, Bool.or_eq_true, and_assoc] using this
 have footEq : ∀ m r, look post.mem m = some r → (r.ren κ).foot γ2 (κ m) = r.foot γf m := fun m r h => by
  rw [foot_ren']; exact foot_agree hcmp (hmem m r h).1 r
 let Z : Mem := frzM al M (readIds ns)
 let effs := renMem κ post.mem ++ ((goneIds ns).map (fun i => (i, Res.gone)) ++ Z)
 have hZ : ∀ i r, look Z i = some r → al = true ∧ i ∈ readIds ns ∧ ∃ e c, M i = some (.own e c) ∧ r = .ro c := fun i r h => by
  simp only [Z] at h
  cases al with
  | true => exact ⟨rfl, frzs_look _ h⟩
  | false => simp [frzM, look] at h
 have effL : ∀ i r, look effs i = some r → (∃ m q, look post.mem m = some q ∧ κ m = i ∧ r = q.ren κ) ∨ (r = .gone) ∨ (i ∉ goneIds ns ∧ al = true ∧ i ∈ readIds ns ∧ ∃ e c, M i = some (.own e c) ∧ r = .ro c) := by
  intro i r h
  rw [look_append, look_append] at h
  cases h1 : look (renMem κ post.mem) i with
  | some q => rw [h1] at h; simp only [Option.some_or, zsI] at h; subst h; exact .inl (renMem_look _ h1)
  | none =>
   rw [h1] at h
   simp only [Option.none_or] at h
   by_cases hg : i ∈ goneIds ns
   ·rw [gone_some _ hg] at h
    simp only [Option.some_or, zsI] at h
    exact .inr (.inl h.symm)
   ·cases h2 : look ((goneIds ns).map fun i => (i, Res.gone)) i with
    | some q => exact absurd (gone_look _ h2).1 hg
    | none =>
     rw [h2] at h
     simp only [Option.none_or] at h
     exact .inr (.inr ⟨hg, hZ i r h⟩)
 have effN : ∀ i, look effs i = none → i ∉ goneIds ns ∧ look Z i = none := by
  intro i h
  rw [look_append, look_append] at h
  cases h1 : look (renMem κ post.mem) i with
  | some q => rw [h1] at h; cases h
  | none =>
   rw [h1] at h
   simp only [Option.none_or] at h
   by_cases hg : i ∈ goneIds ns
   ·rw [gone_some _ hg] at h; cases h
   ·cases h2 : look ((goneIds ns).map fun i => (i, Res.gone)) i with
    | some q => rw [h2] at h; cases h
    | none => rw [h2] at h; exact ⟨hg, by simpa using h⟩
 have cls : ∀ i r, (look effs i).or (M i) = some r → (∃ m q, look post.mem m = some q ∧ κ m = i ∧ r = q.ren κ) ∨ (r = .gone) ∨ (i ∉ goneIds ns ∧ al = true ∧ ∃ e c, M i = some (.own e c) ∧ r = .ro c) ∨ (look effs i = none ∧ M i = some r) := by
  intro i r h
  cases h1 : look effs i with
  | some q =>
   rw [h1] at h
   simp only [Option.some_or, zsI] at h
   subst h
   rcases effL i q h1 with h2 | h2 | ⟨h2, h3, _, h4⟩
   ·exact .inl h2
   ·exact .inr (.inl h2)
   ·exact .inr (.inr (.inl ⟨h2, h3, h4⟩))
  | none => rw [h1] at h; exact .inr (.inr (.inr ⟨rfl, by simpa using h⟩))
 have F1 : ∀ i r x, i ∉ goneIds ns → M i = some r → r.foot γ i x → ¬ ∃ m ∈ ns, m.wr = true ∧ footOf γ M m.rds x := by
  rintro i r x hi hr hx ⟨m, hm, hw, y, hy, q, hq, hqx⟩
  obtain ⟨q', hq', hmut⟩ := (hnm m hm).wr hw y hy
  rw [hq] at hq'
  cases hq'
  have hyi : y ≠ i := fun e => hi ((goneIds_iff ns).2 ⟨m, hm, hw, e ▸ hy⟩)
  exact hM.apart y i q r x hyi hq hr hmut hqx hx
 have footOld : ∀ i r, M i = some r → ∀ (q : Res), (∀ x, q.foot γ2 i x ↔ q.foot γ i x) := fun i r h q x => by rw [foot_agree hag (hD i r h).1 q]
 have okOld : ∀ i r, i ∉ goneIds ns → M i = some r → ResOK I γ2 i w' r := fun i r hi h => by
  refine resOK_agree hag (hD i r h).1 r (hD i r h).2 (ResOK.loc (w := w) (fun x hx => hs.fr.same x (hM.low i r x h hx) (F1 i r x hi h hx)) (hM.ok i r h))
 have footRo : ∀ i e c x, M i = some (.own e c) → (Res.ro c).foot γ2 i x → (Res.own e c).foot γ i x := fun i e c x h hx => (footOld i _ h (.own e c) x).1 hx
 have src : ∀ m q x, look post.mem m = some q → q.foot γf m x → w.heap.size ≤ x ∨ (∃ m ∈ ns, m.wr = true ∧ footOf γ M m.rds x) ∨ (q.mut = false ∧ ∃ m ∈ ns, m.wr = false ∧ footOf γ M m.rds x) := fun m q x h hx => hs.own m q x h hx
 have clash : ∀ m q, look post.mem m = some q → ∀ x, q.foot γf m x → ∀ j r, j ∉ goneIds ns → M j = some r → r.foot γ j x → q.mut = true → False := by
  intro m q h x hx j r hj hr hy hmut
  rcases src m q x h hx with h1 | h1 | ⟨h1, _⟩
  ·have := hM.low j r x hr hy; omega
  ·exact F1 j r x hj hr hy h1
  ·rw [hmut] at h1; cases h1
 refine ⟨γ2, ?_, hag, ⟨fun i r h => ?_, fun i r x h hx => ?_, fun i j ri rj x hij hi hj hmut hx hy => ?_⟩, fun i r x h hx => ?_, ?_⟩
 ·rw [SV.dens_ren]
  exact SV.dens_agree hcmp post.res hpo.1
 ·rcases cls i r h with ⟨m, q, h1, rfl, rfl⟩ | rfl | ⟨h1, _, e, c, h2, rfl⟩ | ⟨h1, h2⟩
  ·exact Res.ok_ren' (resOK_agree hcmp (hmem m q h1).1 q (hmem m q h1).2.1 (hs.mem.ok m q h1))
  ·trivial
  ·have := okOld i _ h1 h2
   exact own_reads this.1 fun g hg => (this.2 g).2 hg
  ·exact okOld i r (effN i h1).1 h2
 ·rcases cls i r h with ⟨m, q, h1, rfl, rfl⟩ | rfl | ⟨h1, _, e, c, h2, rfl⟩ | ⟨h1, h2⟩
  ·rw [footEq m q h1] at hx; exact hs.mem.low m q x h1 hx
  ·exact hx.elim
  ·exact Nat.lt_of_lt_of_le (hM.low i _ x h2 (footRo i e c x h2 hx)) hs.fr.size
  ·exact Nat.lt_of_lt_of_le (hM.low i r x h2 ((footOld i r h2 r x).1 hx)) hs.fr.size
 ·rcases cls i ri hi with ⟨m, q, h1, rfl, rfl⟩ | rfl | ⟨h1, _, e, c, h2, rfl⟩ | ⟨h1, h2⟩
  ·rw [footEq m q h1] at hx
   rw [Res.mut_ren] at hmut
   rcases cls j rj hj with ⟨m', q', k1, rfl, rfl⟩ | rfl | ⟨k1, _, e', c', k2, rfl⟩ | ⟨k1, k2⟩
   ·rw [footEq m' q' k1] at hy
    exact hs.mem.apart m m' q q' x (fun e => hij (by rw [e])) h1 k1 hmut hx hy
   ·exact hy.elim
   ·exact clash m q h1 x hx j _ k1 k2 (footRo j e' c' x k2 hy) hmut
   ·exact clash m q h1 x hx j rj (effN j k1).1 k2 ((footOld j rj k2 rj x).1 hy) hmut
  ·cases hmut
  ·cases hmut
  ·have hx := (footOld i ri h2 ri x).1 hx
   have hig := (effN i h1).1
   rcases cls j rj hj with ⟨m', q', k1, rfl, rfl⟩ | rfl | ⟨k1, _, e', c', k2, rfl⟩ | ⟨k1, k2⟩
   ·rw [footEq m' q' k1] at hy
    rcases src m' q' x k1 hy with k3 | k3 | ⟨k3, m3, hm3, hw3, y, hyr, q3, hq3, hx3⟩
    ·have := hM.low i ri x h2 hx; omega
    ·exact F1 i ri x hig h2 hx k3
    ·by_cases hyi : y = i
     ·subst hyi
      have hal : al = true := by
       rcases (hmem m' q' k1).2.2 with h | h
       ·exact h
       ·rw [h] at k3; cases k3
      have hin : y ∈ readIds ns := (readIds_iff ns).2 ⟨m3, hm3, hw3, hyr⟩
      rcases frzOk_spec h2 _ (hfz hal) hin with h4 | ⟨e, c, rfl⟩
      ·rw [hmut] at h4; cases h4
      ·have := frzs_own h2 _ hin
       have hn := (effN y h1).2
       simp only [Z, hal, frzM] at hn
       rw [hn] at this; cases this
     ·exact hM.apart i y ri q3 x (Ne.symm hyi) h2 hq3 hmut hx hx3
   ·exact hy.elim
   ·exact hM.apart i j ri _ x hij h2 k2 hmut hx (footRo j e' c' x k2 hy)
   ·exact hM.apart i j ri rj x hij h2 k2 hmut hx ((footOld j rj k2 rj x).1 hy)
 ·rcases effL i r h with ⟨m, q, h1, rfl, rfl⟩ | rfl | ⟨h1, _, _, e, c, h2, rfl⟩
  ·rw [footEq m q h1] at hx
   rw [Res.mut_ren]
   rcases src m q x h1 hx with k | ⟨m', hm', hw, y, hy, q', hq', hx'⟩ | ⟨k, m', hm', hw, y, hy, q', hq', hx'⟩
   ·exact .inl k
   ·obtain ⟨q2, hq2, hmut⟩ := (hnm m' hm').wr hw y hy
    rw [hq'] at hq2; cases hq2
    exact .inr ⟨y, q', hq', fun _ => hmut, hx'⟩
   ·exact .inr ⟨y, q', hq', fun h => by rw [k] at h; (cases h), hx'⟩
  ·exact hx.elim
  ·exact .inr ⟨i, _, h2, fun h => (by cases h), footRo i e c x h2 hx⟩
 ·refine hs.fr.mono fun x _ hx => ?_
  obtain ⟨m, hm, hw, y, hy, q, hq, hqx⟩ := hx
  obtain ⟨q', hq', hmut⟩ := (hnm m hm).wr hw y hy
  rw [hq] at hq'
  cases hq'
  refine ⟨y, q, ?_, hq, hmut, hqx⟩
  have : look effs y ≠ none := fun h => (effN y h).1 ((goneIds_iff ns).2 ⟨m, hm, hw, hy⟩)
  show (look effs y).isSome = true
  cases h : look effs y with
  | some _ => rfl
  | none => exact absurd h this
def retPA (ad : List (Nat × TypeId × Cont)) (P : Program) (rs : List ResultVar) (n : Nat) (post : Post) (e : Exit) (B : Nat) (env : Env) (mem : Mem) : Prop := match adopt ad B env mem with
 | (env', mem') => retP P rs n post e (B + ad.length) env' mem'
theorem spec_patA {I : Interp} {P : Program} {sp : FuncId → Option Spec} (hsp : ∀ f s, sp f = some s → SpecOK I P f s) (hm : P.follows .mixedOrders = true) (an : List Dt → List Ann) (ad : List Dt → List (Nat × TypeId × Cont)) {f : FuncId} {fn : Func} {c : Code} {N : Nat}
  (hf : P.funcs[f]? = some fn) (hname : (fn.name == "runtime.NumGoroutine") = false) (hb' : fn.body.isSome = true) (hc : bodyOf fn = c) (hN : fn.ntmps = N) {ps : List Pat} {al : Bool} {g : List Dt → Option (Bool × List Bool × (List Bool → Post))} (hn : ps.length ≤ N ∧ Pat.sizes ps ≤ 64)
  (hpo : ∀ ds p bs F, g ds = some (p, bs, F) → postOk ps al (F bs) = true)
  (h : ∀ ds bs F, ds.length = ps.length → g ds = some (true, bs, F) → wpc P sp N (an ds) c 0 64 (envP (mks ps ds 0).1 0) (mks ps ds 0).2 (retPA (ad ds) P fn.results.toList (Pat.sizes ps) (F bs))) : SpecOK I P f (pspec ps al g) where
 enters args w := by
  have h1 : fn.name ≠ "runtime.NumGoroutine" := by simpa using hname
  simp [callFunc, hf, h1, body_of hb']
 calls γ D M args w b hM hD hids hfr hamb hfit := by
  simp only [pspec] at hfit
  split at hfit
  ·rename_i ds ns hp
   split at hfit
   ·rename_i p q hap hg
    obtain ⟨bs, F⟩ := q
    subst hfit
    rw [zaT, Bool.or_eq_true, Bool.not_eq_true'] at hap
    obtain ⟨hap, hfz⟩ := hap
    have hout : (pspec ps al g).out args M b = (tupled (SV.rens (kap ns (Pat.sizes ps) b) (F bs).res), renMem (kap ns (Pat.sizes ps) b) (F bs).mem ++ ((goneIds ns).map (fun i => (i, Res.gone)) ++ frzM al M (readIds ns))) := by simp [Spec.out, pspec, hp, hg]
    rw [hout]
    obtain ⟨mk1, den1, ids1⟩ := pms_mk (γc := patVn γ M ns) (n := 0) hM ps args ds ns hp (patVn_cor γ M ns)
    obtain ⟨hl1, hl2⟩ := pms_len ps args ds ns hp
    have hlen : ns.length = Pat.sizes ps := mk1.len
    let T0 : Ft := ⟨fun x => ∃ m ∈ ns, m.wr = true ∧ footOf γ M m.rds x, fun x => ∃ m ∈ ns, m.wr = false ∧ footOf γ M m.rds x⟩
    have up : ∀ j, inR 0 (Pat.sizes ps) j = true → lowB 64 j = true := fun j hj => by rw [inR_iff] at hj; exact blt_iff.2 (by omega)
    have hxl : (mks ps ds 0).1.length = args.length := by
     have := congrArg List.length den1
     simpa [dens_length] using this
    have hs : Sat I N w T0 (patVn γ M ns) (lowB 64) (look (envP (mks ps ds 0).1 0)) (look (mks ps ds 0).2) { tmps := (SV.dens γ args).toArray ++ Array.replicate (fn.ntmps - (SV.dens γ args).toArray.size) undef, defers := [] } w := by
     have res : ∀ i r, look (mks ps ds 0).2 i = some r → ∃ m, ns[i]? = some m ∧ ResOK I (patVn γ M ns) i w r ∧ (∀ b, r.foot (patVn γ M ns) i b ↔ footOf γ M m.rds b) ∧ r.mut = m.wr ∧ r.ids (lowB 64) = true := fun i r hi => by
      obtain ⟨_, m, h2, h3, h4, h5, h6⟩ := mk1.mem i r (look_mem hi)
      refine ⟨m, by simpa using h2, h3, h4, h5, ?_⟩
      cases r <;> first | exact SV.idss_mono up _ h6 | rfl
     have lowF : ∀ rd x, footOf γ M rd x → x < w.heap.size := fun rd x ⟨i, _, q, hq, hx⟩ => hM.low i q x hq hx
     refine ⟨fun t x hx => ?_, fun t x hx => ?_, ⟨fun i r hi => ?_, fun i r x hi hx => ?_, fun i j ri rj x hij hi hj hmut hx hy => ?_⟩, fun i r hi => ?_, Fr.refl _ _, fun i r x hi hx => ?_, ?_, rfl, hamb.1, fun x hx ⟨m, hm, hw, i, hi, q, hq, hf⟩ => (by
      obtain ⟨q', hq', hmq⟩ := (mk1.nm m hm).wr hw i hi
      rw [hq] at hq'
      cases hq'
      exact hamb.2 x hx i q hq hmq hf)⟩
     ·obtain ⟨_, h2⟩ := envP_look _ 0 t x hx
      rw [Nat.sub_zero] at h2
      have hlt : t < (mks ps ds 0).1.length := (List.getElem?_eq_some_iff.1 h2).1
      rw [Array.getElem?_append_left (by simp [dens_length]; omega)]
      rw [← den1]
      simp [dens_eq, h2]
     ·obtain ⟨_, h2⟩ := envP_look _ 0 t x hx
      have : x ∈ (mks ps ds 0).1 := List.mem_of_getElem? h2
      rw [idss_eq, List.all_eq_true] at ids1
      exact SV.ids_mono up x (ids1 x this)
     ·obtain ⟨m, _, h2, _⟩ := res i r hi; exact h2
     ·obtain ⟨m, _, _, h3, _⟩ := res i r hi; exact lowF _ x ((h3 x).1 hx)
     ·obtain ⟨m1, a1, _, a3, a4, _⟩ := res i ri hi
      obtain ⟨m2, b1, _, b3, b4, _⟩ := res j rj hj
      have hw : m1.wr = true := by rw [← a4]; exact hmut
      obtain ⟨y, hy1, q1, hq1, hf1⟩ := (a3 x).1 hx
      obtain ⟨z, hz1, q2, hq2, hf2⟩ := (b3 x).1 hy
      have hne : y ≠ z := fun e => apN_spec ns hap i j m1 m2 hij a1 b1 (by rw [hw]; rfl) y hy1 (e ▸ hz1)
      obtain ⟨q', hq', hmq⟩ := (mk1.nm m1 (List.mem_of_getElem? a1)).wr hw y hy1
      rw [hq1] at hq'
      cases hq'
      exact hM.apart y z q1 q2 x hne hq1 hq2 hmq hf1 hf2
     ·obtain ⟨m, h1, _, _, _, h5⟩ := res i r hi
      have := (List.getElem?_eq_some_iff.1 h1).1
      exact ⟨blt_iff.2 (by omega), h5⟩
     ·obtain ⟨m, h1, _, h3, h4, _⟩ := res i r hi
      have hm' := List.mem_of_getElem? h1
      cases hmut : r.mut with
      | true => exact .inr (.inl ⟨m, hm', by rw [← h4]; exact hmut, (h3 x).1 hx⟩)
      | false => exact .inr (.inr ⟨rfl, m, hm', by rw [← h4]; exact hmut, (h3 x).1 hx⟩)
     ·simp [dens_length]; omega
    refine calls_of_wp hf (body_of hb') ?_
    rw [hc]
    refine Code.wp_mono ?_ (wpc_sound hsp hm c 0 64 _ _ _ (patVn γ M ns) _ w (h ds bs F hl2 hg) hs)
    rintro e a' w' ⟨B1, env1, mem1, γ1, hB1, hγ1, hK1, hsat1⟩
    obtain ⟨γ', ag', hsat⟩ := sat_adopt (ad ds) B1 env1 mem1 γ1 hsat1
    have hγc := hγ1.trans (ag'.mono (lowB_mono hB1))
    unfold retPA at hK1
    split at hK1
    rename_i env' mem' hadp
    rw [hadp] at hsat
    have hK := hK1
    have hK' : resK P env' mem' fn.results.toList fun xs => retM (Pat.sizes ps) (F bs) env' mem' xs := by
     cases e <;> simp only [retP] at hK <;> first | exact hK | exact hK.elim
    have he : e = .ret ∨ e = .normal := by
     cases e <;> simp only [retP] at hK <;> first | exact .inl rfl | exact .inr rfl | exact hK.elim
    obtain ⟨xs, h1, h2⟩ := results_run (fn := fn) hsat hK'
    obtain ⟨h3, h4⟩ := Cl.and_spec h1
    have hx := eqSs_spec _ _ h3
    have hsat2 := sat_fits (D' := fun _ => true) (E := []) hsat h4 (fun t v h => by simp [look] at h) (fun i r _ => ⟨rfl, Res.ids_true r⟩)
    have hρ : ∀ i, i < Pat.sizes ps → rhoOf (Pat.sizes ps) (unim (Pat.sizes ps) mem' (F bs).mem (unis (Pat.sizes ps) (F bs).res xs [])) i = i := fun i hi => by
     unfold rhoOf; rw [blt_iff.2 hi]
    have hfz' : al = true → frzOk M (readIds ns) = true := fun hal => by
     rcases hfz with hfz | hfz
     ·rw [hal] at hfz; cases hfz
     ·exact hfz
    obtain ⟨γ2, k1, k2, k3, k4, k5⟩ := pat_back (b := b) hM hD hfr hp mk1.nm hlen hn.2 hfz' (hpo ds true bs F hg) hγc hρ hsat2
    have hval : (tupled xs).den γ' = (tupled (SV.rens (kap ns (Pat.sizes ps) b) (F bs).res)).den γ2 := by
     apply tupled_cong
     rw [k1, ← SV.dens_ren, ← hx]
    rcases he with rfl | rfl
    ·exact ⟨hsat.defers, _, h2, γ2, by rw [hval], k2, k3, k4, k5⟩
    ·exact ⟨hsat.defers, _, h2, γ2, by rw [hval], k2, k3, k4, k5⟩
   ·cases hfit
  ·cases hfit
theorem spec_pat {I : Interp} {P : Program} {sp : FuncId → Option Spec} (hsp : ∀ f s, sp f = some s → SpecOK I P f s) (hm : P.follows .mixedOrders = true) (an : List Dt → List Ann) {f : FuncId} {fn : Func} {c : Code} {N : Nat}
  (hf : P.funcs[f]? = some fn) (hname : (fn.name == "runtime.NumGoroutine") = false) (hb' : fn.body.isSome = true) (hc : bodyOf fn = c) (hN : fn.ntmps = N) {ps : List Pat} {al : Bool} {g : List Dt → Option (Bool × List Bool × (List Bool → Post))} (hn : ps.length ≤ N ∧ Pat.sizes ps ≤ 64)
  (hpo : ∀ ds p bs F, g ds = some (p, bs, F) → postOk ps al (F bs) = true)
  (h : ∀ ds bs F, ds.length = ps.length → g ds = some (true, bs, F) → wpc P sp N (an ds) c 0 64 (envP (mks ps ds 0).1 0) (mks ps ds 0).2 (retP P fn.results.toList (Pat.sizes ps) (F bs))) : SpecOK I P f (pspec ps al g) :=
 spec_patA hsp hm an (fun _ => []) hf hname hb' hc hN hn hpo h

end
abbrev zG : Type := Option (Bool × List Bool × (List Bool → Post))
end Sx
