/- A symbolic machine over the model, and that what it reckons is so: no statement of the program itself. -/
import Derived.Tactics
import Derived.Orders
import Derived.Laws.AppendOwn
import Derived.ChangeKeysEq
import Derived.Laws.Rows
import Derived.Laws.CopyRow
import Derived.Laws.Cells
import Derived.WalkSmall
import Derived.Laws.BytesArg
import Derived.Below
import Derived.Laws.Tables
import Derived.Maps.AppendAt
import Derived.Laws.MakeOwn
import Derived.Laws.StructEq
import Derived.Laws.Slices
import Derived.Great.FillDense
import Derived.Great.BuildSlice
import Derived.Laws.OwnMore
set_option linter.unusedVariables false
set_option linter.unusedSimpArgs false
/- A symbolic machine over the model: symbolic values, known memory, and what it is that they stand for. -/
namespace Sx
open Go
set_option linter.unusedVariables false

theorem zsI.{u} {α : Type u} (a b : α) : (some a = some b) = (a = b) := Option.some.injEq a b
theorem zpI.{u, v} {α : Type u} {β : Type v} (a : α) (b : β) (c : α) (d : β) : ((a, b) = (c, d)) = (a = c ∧ b = d) := Prod.mk.injEq a b c d
theorem zaT (a b : Bool) : ((a && b) = true) = (a = true ∧ b = true) := Bool.and_eq_true a b
theorem zbL {n m : Nat} (h : Nat.ble n m = true) : n ≤ m := Nat.le_of_ble_eq_true h
theorem zbE {n m : Nat} (h : Nat.beq n m = true) : n = m := Nat.eq_of_beq_eq_true h
theorem zlA.{u} {α : Type u} {a b : List α} : (a ++ b).length = a.length + b.length := List.length_append
theorem ztN (n : Nat) : ((n : Int)).toNat = n := Int.toNat_natCast n
def If (b : Bool) (x y : Prop) : Prop := match b with
 | true => x
 | false => y
inductive SV where
 | v (x : Value)
 | ptr (id off : Nat)
 | sl (id off len cap : Nat)
 | row (id : Nat)
 | el (id sz k c : Nat)
 | nilq (id : Nat) (neg : Bool)
 | sel (id k : Nat)
 | selp (id pre k : Nat)
 | agg (xs : List SV)
 | tup (xs : List SV)
 | fn (f : Fn) (caps : List SV)
 deriving Inhabited

structure Vn where
 blk : Nat → Nat
 val : Nat → Value
 foot : Nat → Nat → Prop

def nilV : Value → Bool
 | .slice none _ _ => true
 | .pointer none => true
 | _ => false
def negB : Bool → Bool → Bool
 | true, b => !b
 | false, b => b
def selP (v : Value) (k : Nat) : Option Addr := match v with
 | .agg a => match a.getD k undef with
  | .pointer x => x
  | _ => none
 | _ => none
mutual
def SV.den (γ : Vn) : SV → Value
 | .v x => x
 | .ptr i o => .pointer (some ⟨γ.blk i, o, none⟩)
 | .sl i o l c => .slice (some ⟨γ.blk i, o, none⟩) l c
 | .row i => γ.val i
 | .el i sz k c => match γ.val i with | .slice (some a) _ _ => .pointer (some ((a.add (k * sz)).add c)) | .pointer (some a) => .pointer (some ((a.add (k * sz)).add c)) | x => x
 | .nilq i neg => .bool (negB neg (nilV (γ.val i)))
 | .sel i k => .pointer (selP (γ.val i) k)
 | .selp i pre k => .pointer (some ⟨γ.blk i, pre + k, none⟩)
 | .agg xs => .agg (SV.dens γ xs).toArray
 | .tup xs => .tuple (SV.dens γ xs).toArray
 | .fn f cs => .func f #[] (SV.dens γ cs).toArray
def SV.dens (γ : Vn) : List SV → List Value
 | [] => []
 | x :: xs => x.den γ :: SV.dens γ xs
end
mutual
def SV.ids (p : Nat → Bool) : SV → Bool
 | .v _ => true
 | .ptr i _ => p i
 | .sl i _ _ _ => p i
 | .row i => p i
 | .el i _ _ _ => p i
 | .nilq i _ => p i
 | .sel i _ => p i
 | .selp i _ _ => p i
 | .agg xs => SV.idss p xs
 | .tup xs => SV.idss p xs
 | .fn _ cs => SV.idss p cs
def SV.idss (p : Nat → Bool) : List SV → Bool
 | [] => true
 | x :: xs => x.ids p && SV.idss p xs
end
theorem dens_eq (γ : Vn) : ∀ xs, SV.dens γ xs = xs.map (SV.den γ)
 | [] => by simp [SV.dens]
 | x :: xs => by simp [SV.dens, dens_eq γ xs]
theorem idss_eq (p : Nat → Bool) : ∀ xs, SV.idss p xs = xs.all (SV.ids p)
 | [] => by simp [SV.idss]
 | x :: xs => by simp [SV.idss, idss_eq p xs]

structure Agree (p : Nat → Prop) (γ γ' : Vn) : Prop where
 blk : ∀ i, p i → γ'.blk i = γ.blk i
 val : ∀ i, p i → γ'.val i = γ.val i
 foot : ∀ i, p i → γ'.foot i = γ.foot i
theorem Agree.refl (p : Nat → Prop) (γ : Vn) : Agree p γ γ := ⟨fun _ _ => rfl, fun _ _ => rfl, fun _ _ => rfl⟩
theorem Agree.trans {p : Nat → Prop} {a b c : Vn} (h : Agree p a b) (k : Agree p b c) : Agree p a c :=
 ⟨fun i hi => (k.blk i hi).trans (h.blk i hi), fun i hi => (k.val i hi).trans (h.val i hi), fun i hi => (k.foot i hi).trans (h.foot i hi)⟩
theorem Agree.mono {p q : Nat → Prop} {a b : Vn} (h : Agree p a b) (hq : ∀ i, q i → p i) : Agree q a b :=
 ⟨fun i hi => h.blk i (hq i hi), fun i hi => h.val i (hq i hi), fun i hi => h.foot i (hq i hi)⟩

mutual
theorem SV.den_agree {p : Nat → Bool} {γ γ' : Vn} (h : Agree (p · = true) γ γ') : ∀ x : SV, x.ids p = true → x.den γ' = x.den γ
 | .v x, _ => by simp [SV.den]
 | .ptr i o, hi => by simp only [SV.ids] at hi; simp [SV.den, h.blk i hi]
 | .sl i o l c, hi => by simp only [SV.ids] at hi; simp [SV.den, h.blk i hi]
 | .row i, hi => by simp only [SV.ids] at hi; simp [SV.den, h.val i hi]
 | .el i sz k c, hi => by simp only [SV.ids] at hi; simp only [SV.den, h.val i hi]
 | .nilq i neg, hi => by simp only [SV.ids] at hi; simp only [SV.den, h.val i hi]
 | .sel i k, hi => by simp only [SV.ids] at hi; simp only [SV.den, h.val i hi]
 | .selp i pre k, hi => by simp only [SV.ids] at hi; simp only [SV.den, h.blk i hi]
 | .agg xs, hi => by simp only [SV.ids] at hi; simp only [SV.den, SV.dens_agree h xs hi]
 | .tup xs, hi => by simp only [SV.ids] at hi; simp only [SV.den, SV.dens_agree h xs hi]
 | .fn f xs, hi => by simp only [SV.ids] at hi; simp only [SV.den, SV.dens_agree h xs hi]
theorem SV.dens_agree {p : Nat → Bool} {γ γ' : Vn} (h : Agree (p · = true) γ γ') : ∀ xs : List SV, SV.idss p xs = true → SV.dens γ' xs = SV.dens γ xs
 | [], _ => by simp [SV.dens]
 | x :: xs, hi => by
  simp only [SV.idss, zaT] at hi
  simp only [SV.dens, SV.den_agree h x hi.1, SV.dens_agree h xs hi.2]
end
mutual
theorem SV.ids_mono {p q : Nat → Bool} (h : ∀ i, p i = true → q i = true) : ∀ x : SV, x.ids p = true → x.ids q = true
 | .v x, _ => by simp [SV.ids]
 | .ptr i o, hi => by simp only [SV.ids] at hi ⊢; exact h i hi
 | .sl i o l c, hi => by simp only [SV.ids] at hi ⊢; exact h i hi
 | .row i, hi => by simp only [SV.ids] at hi ⊢; exact h i hi
 | .el i sz k c, hi => by simp only [SV.ids] at hi ⊢; exact h i hi
 | .nilq i neg, hi => by simp only [SV.ids] at hi ⊢; exact h i hi
 | .sel i k, hi => by simp only [SV.ids] at hi ⊢; exact h i hi
 | .selp i pre k, hi => by simp only [SV.ids] at hi ⊢; exact h i hi
 | .agg xs, hi => by simp only [SV.ids] at hi ⊢; exact SV.idss_mono h xs hi
 | .tup xs, hi => by simp only [SV.ids] at hi ⊢; exact SV.idss_mono h xs hi
 | .fn f xs, hi => by simp only [SV.ids] at hi ⊢; exact SV.idss_mono h xs hi
theorem SV.idss_mono {p q : Nat → Bool} (h : ∀ i, p i = true → q i = true) : ∀ xs : List SV, SV.idss p xs = true → SV.idss q xs = true
 | [], _ => by simp [SV.idss]
 | x :: xs, hi => by
  simp only [SV.idss, zaT] at hi ⊢
  exact ⟨SV.ids_mono h x hi.1, SV.idss_mono h xs hi.2⟩
end

/-! Known memory. -/
abbrev Dat := List (List Value)
def ecellsFrom (xs : List Int) : List IntKind → Nat → List Value
 | [], _ => []
 | k :: ks, c => .int k (xs.getD c 0) :: ecellsFrom xs ks (c + 1)
def ecells (ks : List IntKind) (xs : List Int) : Array Value := (ecellsFrom xs ks 0).toArray
theorem ecellsFrom_length (xs : List Int) : ∀ (ks : List IntKind) (c : Nat), (ecellsFrom xs ks c).length = ks.length
 | [], _ => rfl
 | k :: ks, c => by simp [ecellsFrom, ecellsFrom_length xs ks]
theorem ecellsFrom_get (xs : List Int) : ∀ (ks : List IntKind) (c i : Nat) (k : IntKind), ks[i]? = some k → (ecellsFrom xs ks c)[i]? = some (.int k (xs.getD (c + i) 0))
 | [], _, i, k, h => by simp at h
 | q :: ks, c, 0, k, h => by simp only [List.getElem?_cons_zero, zsI] at h; subst h; simp [ecellsFrom]
 | q :: ks, c, i + 1, k, h => by
  have := ecellsFrom_get xs ks (c + 1) i k (by simpa using h)
  simp only [ecellsFrom, List.getElem?_cons_succ, this]
  rw [show c + 1 + i = c + (i + 1) by omega]
theorem ecells_size (ks : List IntKind) (xs : List Int) : (ecells ks xs).size = ks.length := by simp [ecells, ecellsFrom_length]
inductive Cont where
 | ints (k : IntKind) (l : List Int)
 | structs (ks : List IntKind) (l : List (List Int))
 deriving Inhabited
def Cont.n : Cont → Nat
 | .ints _ l => l.length
 | .structs _ l => l.length
def Cont.sz : Cont → Nat
 | .ints _ _ => 1
 | .structs ks _ => ks.length
def Cont.at (c : Cont) (i : Nat) : Array Value := match c with
 | .ints k l => #[.int k (l.getD i 0)]
 | .structs ks l => ecells ks (l.getD i [])
def Cont.cells : Cont → List Value
 | .ints k l => l.map (.int k)
 | .structs ks l => l.flatMap fun xs => (ecells ks xs).toList
theorem flat_length {α β : Type} {f : α → List β} {m : Nat} : ∀ (l : List α), (∀ x ∈ l, (f x).length = m) → (l.flatMap f).length = l.length * m
 | [], _ => by simp
 | x :: l, h => by
  rw [List.flatMap_cons, zlA, flat_length l (fun y hy => h y (List.mem_cons_of_mem _ hy)), h x (List.mem_cons_self ..), List.length_cons, Nat.succ_mul]; omega
theorem Cont.cells_length (c : Cont) : c.cells.length = c.n * c.sz := by
 cases c with
 | ints k l => simp [Cont.cells, Cont.n, Cont.sz]
 | structs ks l => exact flat_length l fun x _ => by simp [ecells_size, Cont.sz]
theorem flat_get {α β : Type} {f : α → List β} {m : Nat} : ∀ (l : List α) (i j : Nat) (x : α), (∀ x ∈ l, (f x).length = m) → l[i]? = some x → j < m → (l.flatMap f)[i * m + j]? = (f x)[j]?
 | [], i, j, x, _, hx, _ => by simp at hx
 | y :: l, 0, j, x, h, hx, hj => by
  simp only [List.getElem?_cons_zero, zsI] at hx
  subst hx
  rw [List.flatMap_cons, Nat.zero_mul, Nat.zero_add, List.getElem?_append_left (by rw [h y (List.mem_cons_self ..)]; exact hj)]
 | y :: l, i + 1, j, x, h, hx, hj => by
  rw [List.flatMap_cons, List.getElem?_append_right (by rw [h y (List.mem_cons_self ..), Nat.succ_mul]; omega), h y (List.mem_cons_self ..)]
  rw [show (i + 1) * m + j - m = i * m + j by rw [Nat.succ_mul]; omega]
  exact flat_get l i j x (fun z hz => h z (List.mem_cons_of_mem _ hz)) (by simpa using hx) hj
theorem Cont.at_size (c : Cont) (i : Nat) : (c.at i).size = c.sz := by
 cases c with
 | ints k l => simp [Cont.at, Cont.sz]
 | structs ks l => simp [Cont.at, Cont.sz, ecells_size]
theorem Cont.cell_get (c : Cont) {i j : Nat} (hi : i < c.n) (hj : j < c.sz) : c.cells[i * c.sz + j]? = (c.at i)[j]? := by
 cases c with
 | ints k l =>
  simp only [Cont.n, Cont.sz] at hi hj ⊢
  obtain rfl : j = 0 := by omega
  simp [Cont.cells, Cont.at, List.getD, hi]
 | structs ks l =>
  simp only [Cont.n, Cont.sz] at hi hj ⊢
  have hx : l[i]? = some l[i] := List.getElem?_eq_getElem hi
  rw [Cont.cells, flat_get (m := ks.length) l i j l[i] (fun x _ => by simp [ecells_size]) hx hj]
  simp [Cont.at, List.getD, hx]
inductive DS where
 | n (k : IntKind)
 | s (fs : List DS)
 deriving Inhabited
inductive DD where
 | n (x : Int)
 | s (l : List (List DD))
instance : Inhabited DD := ⟨.n 0⟩
def DD.i : DD → Int
 | .n x => x
 | .s _ => 0
def DD.l : DD → List (List DD)
 | .s l => l
 | .n _ => []
mutual
def DS.beq : DS → DS → Bool
 | .n k, .n q => decide (k = q)
 | .s a, .s b => DS.beqs a b
 | _, _ => false
def DS.beqs : List DS → List DS → Bool
 | [], [] => true
 | a :: as, b :: bs => DS.beq a b && DS.beqs as bs
 | _, _ => false
end
mutual
theorem DS.beq_eq : ∀ a b : DS, DS.beq a b = true → a = b
 | .n k, .n q, h => by simp only [DS.beq, decide_eq_true_eq] at h; rw [h]
 | .s a, .s b, h => by simp only [DS.beq] at h; rw [DS.beqs_eq a b h]
 | .n k, .s b, h => by simp [DS.beq] at h
 | .s a, .n q, h => by simp [DS.beq] at h
theorem DS.beqs_eq : ∀ a b : List DS, DS.beqs a b = true → a = b
 | [], [], _ => rfl
 | a :: as, b :: bs, h => by
  simp only [DS.beqs, zaT] at h
  rw [DS.beq_eq a b h.1, DS.beqs_eq as bs h.2]
 | [], b :: bs, h => by simp [DS.beqs] at h
 | a :: as, [], h => by simp [DS.beqs] at h
end
def ddAt (l : List (List DD)) (k c : Nat) : DD := (l.getD k []).getD c (.n 0)
def kindsD : List DS → Option (List IntKind)
 | [] => some []
 | f :: fs => match f with
  | .n k => match kindsD fs with
   | some ks => some (k :: ks)
   | none => none
  | .s _ => none
def ddI (x : List DD) : List Int := x.map DD.i
inductive Res where
 | blk (t : TypeId) (cs : List SV)
 | arr (t : TypeId) (n : Nat) (a : Array Value)
 | rblk (t : TypeId) (cs : List SV)
 | ro (c : Cont)
 | ros (xss : List (List Int))
 | own (e : TypeId) (c : Cont)
 | ownc (e : TypeId) (cs : List SV)
 | opt (ks : List IntKind) (l : List (List Int))
 | sels (ks : List IntKind) (L : List (List (List Int)))
 | tail (i lo n sz : Nat)
 | pool (xss : List (List Int))
 | ownp (e : TypeId) (j : Nat)
 | deep (fs : List DS) (l : List (List DD))
 | dpool (fs : List DS) (l : List (List DD)) (z : Option Nat)
 | ownq (e : TypeId) (sz j : Nat)
 | ownh (e : TypeId) (sz j k c m : Nat)
 | mp (ks : List IntKind) (l : List (List Int))
 | abs (k : Nat) (d : Dat)
 | gone
 deriving Inhabited
def Res.ids (p : Nat → Bool) : Res → Bool
 | .blk _ cs => SV.idss p cs
 | .rblk _ cs => SV.idss p cs
 | .ownc _ cs => SV.idss p cs
 | .tail i _ _ _ => SV.idss p [.row i]
 | .ownp _ j => SV.idss p [.row j]
 | .ownq _ _ j => SV.idss p [.row j]
 | .ownh _ _ j _ _ m => SV.idss p [.row j, .row m]
 | _ => true
def Res.mut : Res → Bool
 | .blk .. | .arr .. | .own .. | .ownc .. | .ownp .. | .ownq .. | .ownh .. | .mp .. | .abs .. => true
 | _ => false

structure Interp where
 holds : Nat → Dat → World → Value → (Nat → Prop) → Prop
 loc : ∀ k d w w' v F, (∀ b, F b → w'.heap[b]? = w.heap[b]?) → holds k d w v F → holds k d w' v F
 base : World → Prop
 bb : Nat → Prop
 bloc : ∀ w w', (∀ b, bb b → w'.heap[b]? = w.heap[b]?) → base w → base w'
def AmbW (I : Interp) (w : World) : Prop := I.base w ∧ ∀ b, I.bb b → b < w.heap.size

def ReadsIn (F : Nat → Prop) (w : World) (v : Value) (sz n : Nat) (xs : List Value) : Prop :=
 xs.length = n * sz ∧ ((v = .slice none 0 0 ∧ n = 0) ∨ (∃ (a : Addr) (cap : Nat), v = .slice (some a) n cap ∧ F a.block ∧ a.spot = none ∧ n ≤ cap ∧ cap ≤ 9223372036854775807 ∧ (∀ i x, xs[i]? = some x → w.cell? (a.add i) = some x)) ∨ ∃ a : Addr, v = .slice (some a) 0 0 ∧ n = 0)
def ReadsC (F : Nat → Prop) (w : World) (v : Value) (c : Cont) : Prop := ReadsIn F w v c.sz c.n c.cells
def ReadsInN (F : Nat → Prop) (w : World) (v : Value) (xss : List (List Int)) : Prop :=
 ∃ vs : List Value, vs.length = xss.length ∧ ReadsIn F w v 1 xss.length vs ∧ ∀ (i : Nat) (y : Value) (xs : List Int), vs[i]? = some y → xss[i]? = some xs → ReadsC F w y (.ints .u8 xs)

def DeepN (F : Nat → Prop) (w : World) : Nat → List DS → Value → List (List DD) → Prop
 | 0, _, _, _ => False
 | d + 1, fs, v, l => ∃ vs : List Value, ReadsIn F w v fs.length l.length vs ∧ ∀ k c f, k < l.length → fs[c]? = some f → ∃ y, vs[k * fs.length + c]? = some y ∧ match f with
  | .n q => y = .int q (ddAt l k c).i
  | .s gs => DeepN F w d gs y (ddAt l k c).l
def DeepIn (F : Nat → Prop) (w : World) (v : Value) (fs : List DS) (l : List (List DD)) : Prop := ∃ d, DeepN F w d fs v l
def poolVs (v : Value) : List Value := match v with
 | .agg a => a.toList
 | _ => []
def PoolIn (F : Nat → Prop) (w : World) (v : Value) (xss : List (List Int)) : Prop :=
 (poolVs v).length = xss.length ∧ ∀ (k : Nat) (y : Value) (xs : List Int), (poolVs v)[k]? = some y → xss[k]? = some xs → ReadsC F w y (.ints .u8 xs)
def DPoolIn (F : Nat → Prop) (w : World) (v : Value) (fs : List DS) (l : List (List DD)) (z : Option Nat) : Prop :=
 (poolVs v).length = l.length * fs.length ∧ (∀ q k c gs, z = some q → q ≤ k → k < l.length → fs[c]? = some (.s gs) → (poolVs v)[k * fs.length + c]? = some (.slice none 0 0)) ∧ ∃ d, ∀ k c f, k < l.length → fs[c]? = some f → ∃ y, (poolVs v)[k * fs.length + c]? = some y ∧ match f with
  | .n q => y = .int q (ddAt l k c).i
  | .s gs => DeepN F w d gs y (ddAt l k c).l
def tailV (v : Value) (lo n sz : Nat) : Value := match v with
 | .slice base _ cap => .slice (if cap = lo then base else base.map (·.add (lo * sz))) n (cap - lo)
 | v => v
def OptIn (F : Nat → Prop) (w : World) (v : Value) (ks : List IntKind) (l : List (List Int)) : Prop :=
 (v = .pointer none ∧ l = []) ∨ ∃ (a : Addr) (xs : List Int), v = .pointer (some a) ∧ l = [xs] ∧ F a.block ∧ a.spot = none ∧ ∀ i x, (ecellsFrom xs ks 0)[i]? = some x → w.cell? (a.add i) = some x
def Res.foot (γ : Vn) (i : Nat) : Res → Nat → Prop
 | .blk _ _ => (· = γ.blk i)
 | .rblk _ _ => (· = γ.blk i)
 | .arr _ _ _ => (· = γ.blk i)
 | .tail _ _ _ _ => fun _ => False
 | .gone => fun _ => False
 | _ => γ.foot i
def ResOK (I : Interp) (γ : Vn) (i : Nat) (w : World) : Res → Prop
 | .blk t cs => w.heap[γ.blk i]? = some (.cells (SV.dens γ cs).toArray t (0, 0))
 | .rblk t cs => w.heap[γ.blk i]? = some (.cells (SV.dens γ cs).toArray t (0, 0))
 | .arr t n a => a.size = n ∧ w.heap[γ.blk i]? = some (.cells a t (0, 0))
 | .ro c => ReadsC (γ.foot i) w (γ.val i) c
 | .ros xss => ReadsInN (γ.foot i) w (γ.val i) xss
 | .own e c => w.ownsRow 0 e c.sz (γ.val i) c.n c.cells ∧ ∀ b, γ.foot i b ↔ (γ.val i).ownBlock = some b
 | .ownc e cs => w.ownsRow 0 e 1 (γ.val i) cs.length (SV.dens γ cs) ∧ ∀ b, γ.foot i b ↔ (γ.val i).ownBlock = some b
 | .opt ks l => OptIn (γ.foot i) w (γ.val i) ks l
 | .sels ks L => ∀ k l, L[k]? = some l → OptIn (γ.foot i) w (.pointer (selP (γ.val i) k)) ks l
 | .tail j lo n sz => γ.val i = tailV (γ.val j) lo n sz
 | .pool xss => PoolIn (γ.foot i) w (γ.val i) xss
 | .ownp e j => w.ownsRow 0 e 1 (γ.val i) (poolVs (γ.val j)).length (poolVs (γ.val j)) ∧ ∀ b, γ.foot i b ↔ (γ.val i).ownBlock = some b
 | .deep fs l => DeepIn (γ.foot i) w (γ.val i) fs l
 | .dpool fs l z => DPoolIn (γ.foot i) w (γ.val i) fs l z
 | .ownq e sz j => w.ownsRow 0 e sz (γ.val i) ((poolVs (γ.val j)).length / sz) (poolVs (γ.val j)) ∧ ∀ b, γ.foot i b ↔ (γ.val i).ownBlock = some b
 | .ownh e sz j k c m => w.ownsRow 0 e sz (γ.val i) ((poolVs (γ.val j)).length / sz) ((poolVs (γ.val j)).set (k * sz + c) (γ.val m)) ∧ ∀ b, γ.foot i b ↔ (γ.val i).ownBlock = some b
 | .mp ks l => ∃ (g : Nat) (es : Array MapEntry) (clock : Nat), γ.val i = .map (some g) ∧ w.heap[g]? = some (.map es clock) ∧ (∀ b, γ.foot i b ↔ b = g) ∧ es.toList.map (·.key) = l.map (fun z => Value.agg (ecells ks z)) ∧ ∀ e ∈ es.toList, e.val = .bool true
 | .abs k d => I.holds k d w (γ.val i) (γ.foot i)
 | .gone => True

theorem cell_same {w w' : World} {a : Addr} (h : w'.heap[a.block]? = w.heap[a.block]?) : w'.cell? a = w.cell? a := by
 unfold World.cell?; rw [h]
theorem addr_add_block (a : Addr) (n : Nat) : (a.add n).block = a.block := by
 unfold Addr.add; split <;> rfl
theorem ReadsIn.loc {F : Nat → Prop} {w w' : World} {v : Value} {sz n : Nat} {xs : List Value} (hF : ∀ b, F b → w'.heap[b]? = w.heap[b]?) (h : ReadsIn F w v sz n xs) : ReadsIn F w' v sz n xs := by
 obtain ⟨h1, h⟩ := h
 refine ⟨h1, ?_⟩
 rcases h with h | ⟨a, cap, e, hf, hs, hc, hm, hx⟩ | h
 ·exact .inl h
 ·refine .inr (.inl ⟨a, cap, e, hf, hs, hc, hm, fun i x hi => ?_⟩)
  rw [← hx i x hi]
  exact cell_same (by rw [addr_add_block]; exact hF _ hf)
 ·exact .inr (.inr h)
theorem DeepN.loc {F : Nat → Prop} {w w' : World} (hF : ∀ b, F b → w'.heap[b]? = w.heap[b]?) : ∀ (d : Nat) (fs : List DS) (v : Value) (l : List (List DD)), DeepN F w d fs v l → DeepN F w' d fs v l
 | 0, _, _, _, h => h
 | d + 1, fs, v, l, h => by
  obtain ⟨vs, h1, h2⟩ := h
  refine ⟨vs, ReadsIn.loc hF h1, fun k c f hk hf => ?_⟩
  obtain ⟨y, hy, hm⟩ := h2 k c f hk hf
  refine ⟨y, hy, ?_⟩
  cases f with
  | n q => exact hm
  | s gs => exact DeepN.loc hF d gs y _ hm
theorem OptIn.loc {F : Nat → Prop} {w w' : World} {v : Value} {ks : List IntKind} {l : List (List Int)} (hF : ∀ b, F b → w'.heap[b]? = w.heap[b]?) (h : OptIn F w v ks l) : OptIn F w' v ks l := by
 rcases h with h | ⟨a, xs, e, el, hf, hs, hx⟩
 ·exact .inl h
 ·refine .inr ⟨a, xs, e, el, hf, hs, fun i x hi => ?_⟩
  rw [← hx i x hi]
  exact cell_same (by rw [addr_add_block]; exact hF _ hf)
theorem ResOK.loc {I : Interp} {γ : Vn} {i : Nat} {w w' : World} : ∀ {r : Res}, (∀ b, r.foot γ i b → w'.heap[b]? = w.heap[b]?) → ResOK I γ i w r → ResOK I γ i w' r
 | .blk t cs, hF, h => (hF _ rfl).trans h
 | .rblk t cs, hF, h => (hF _ rfl).trans h
 | .arr t n a, hF, h => ⟨h.1, (hF _ rfl).trans h.2⟩
 | .ro c, hF, h => ReadsIn.loc hF h
 | .ros xss, hF, h => by
  obtain ⟨vs, h1, h2, h3⟩ := h
  exact ⟨vs, h1, ReadsIn.loc hF h2, fun i y xs hy hx => ReadsIn.loc hF (h3 i y xs hy hx)⟩
 | .own e c, hF, h => by
  refine ⟨⟨h.1.1, ?_⟩, h.2⟩
  rcases h.1.2 with h2 | ⟨g, cap, cur, e1, hb, hg, rest⟩
  ·exact .inl h2
  ·refine .inr ⟨g, cap, cur, e1, hb, ?_, rest⟩
   rw [← hg]; exact hF g ((h.2 g).2 (by simp [e1, Value.ownBlock]))
 | .ownc e cs, hF, h => by
  refine ⟨⟨h.1.1, ?_⟩, h.2⟩
  rcases h.1.2 with h2 | ⟨g, cap, cur, e1, hb, hg, rest⟩
  ·exact .inl h2
  ·refine .inr ⟨g, cap, cur, e1, hb, ?_, rest⟩
   rw [← hg]; exact hF g ((h.2 g).2 (by simp [e1, Value.ownBlock]))
 | .opt ks l, hF, h => OptIn.loc hF h
 | .sels ks L, hF, h => fun k l hl => OptIn.loc hF (h k l hl)
 | .tail _ _ _ _, _, h => h
 | .pool xss, hF, h => ⟨h.1, fun k y xs hy hx => ReadsIn.loc hF (h.2 k y xs hy hx)⟩
 | .ownp e j, hF, h => by
  refine ⟨⟨h.1.1, ?_⟩, h.2⟩
  rcases h.1.2 with h2 | ⟨g, cap, cur, e1, hb, hg, rest⟩
  ·exact .inl h2
  ·refine .inr ⟨g, cap, cur, e1, hb, ?_, rest⟩
   rw [← hg]; exact hF g ((h.2 g).2 (by simp [e1, Value.ownBlock]))
 | .deep fs l, hF, h => by
  obtain ⟨d, h⟩ := h
  exact ⟨d, DeepN.loc hF d fs _ l h⟩
 | .dpool fs l z, hF, h => by
  obtain ⟨h1, h0, d, h2⟩ := h
  refine ⟨h1, h0, d, fun k c f hk hf => ?_⟩
  obtain ⟨y, hy, hm⟩ := h2 k c f hk hf
  refine ⟨y, hy, ?_⟩
  cases f with
  | n q => exact hm
  | s gs => exact DeepN.loc hF d gs y _ hm
 | .ownq e sz j, hF, h => by
  refine ⟨⟨h.1.1, ?_⟩, h.2⟩
  rcases h.1.2 with h2 | ⟨g, cap, cur, e1, hb, hg, rest⟩
  ·exact .inl h2
  ·refine .inr ⟨g, cap, cur, e1, hb, ?_, rest⟩
   rw [← hg]; exact hF g ((h.2 g).2 (by simp [e1, Value.ownBlock]))
 | .ownh e sz j k c m, hF, h => by
  refine ⟨⟨h.1.1, ?_⟩, h.2⟩
  rcases h.1.2 with h2 | ⟨g, cap, cur, e1, hb, hg, rest⟩
  ·exact .inl h2
  ·refine .inr ⟨g, cap, cur, e1, hb, ?_, rest⟩
   rw [← hg]; exact hF g ((h.2 g).2 (by simp [e1, Value.ownBlock]))
 | .mp ks l, hF, h => by
  obtain ⟨g, es, cl, h1, h2, h3, h4⟩ := h
  exact ⟨g, es, cl, h1, (hF g ((h3 g).2 rfl)).trans h2, h3, h4⟩
 | .abs k d, hF, h => I.loc k d w w' _ _ hF h
 | .gone, _, _ => trivial
theorem foot_agree {p : Nat → Prop} {γ γ' : Vn} (h : Agree p γ γ') {i : Nat} (hi : p i) : ∀ r : Res, r.foot γ' i = r.foot γ i
 | .blk _ _ => by simp [Res.foot, h.blk i hi]
 | .rblk _ _ => by simp [Res.foot, h.blk i hi]
 | .arr _ _ _ => by simp [Res.foot, h.blk i hi]
 | .ro _ | .ros _ | .abs _ _ | .own _ _ | .ownc _ _ | .opt _ _ | .sels _ _ | .pool _ | .ownp _ _ | .deep _ _ | .mp _ _ | .dpool _ _ _ | .ownq _ _ _ | .ownh _ _ _ _ _ _ => by simp [Res.foot, h.foot i hi]
 | .tail _ _ _ _ => rfl
 | .gone => rfl
theorem resOK_agree {I : Interp} {p : Nat → Bool} {γ γ' : Vn} (h : Agree (p · = true) γ γ') {i : Nat} (hi : p i = true) {w : World} : ∀ r : Res, r.ids p = true → ResOK I γ i w r → ResOK I γ' i w r
 | .blk t cs, hr, hk => by
  simp only [ResOK] at hk ⊢
  rw [h.blk i hi, SV.dens_agree h cs hr]; exact hk
 | .rblk t cs, hr, hk => by
  simp only [ResOK] at hk ⊢
  rw [h.blk i hi, SV.dens_agree h cs hr]; exact hk
 | .arr _ _ _, _, hk => by simp only [ResOK] at hk ⊢; rw [h.blk i hi]; exact hk
 | .ro _, _, hk | .ros _, _, hk | .abs _ _, _, hk | .own _ _, _, hk | .opt _ _, _, hk | .sels _ _, _, hk | .pool _, _, hk | .deep _ _, _, hk | .mp _ _, _, hk | .dpool _ _ _, _, hk => by
  simp only [ResOK] at hk ⊢; rw [h.foot i hi, h.val i hi]; exact hk
 | .ownc e cs, hr, hk => by
  simp only [ResOK] at hk ⊢
  rw [h.foot i hi, h.val i hi, SV.dens_agree h cs hr]; exact hk
 | .ownp e j, hr, hk => by
  simp only [Res.ids, SV.idss, SV.ids, Bool.and_true] at hr
  simp only [ResOK] at hk ⊢
  rw [h.val i hi, h.val j hr, h.foot i hi]; exact hk
 | .ownq e sz j, hr, hk => by
  simp only [Res.ids, SV.idss, SV.ids, Bool.and_true] at hr
  simp only [ResOK] at hk ⊢
  rw [h.val i hi, h.val j hr, h.foot i hi]; exact hk
 | .ownh e sz j k c m, hr, hk => by
  simp only [Res.ids, SV.idss, SV.ids, Bool.and_true, zaT] at hr
  simp only [ResOK] at hk ⊢
  rw [h.val i hi, h.val j hr.1, h.val m hr.2, h.foot i hi]; exact hk
 | .tail j lo n sz, hr, hk => by
  simp only [Res.ids, SV.idss, SV.ids, Bool.and_true] at hr
  simp only [ResOK] at hk ⊢
  rw [h.val i hi, h.val j hr]; exact hk
 | .gone, _, _ => trivial

abbrev Mem := List (Nat × Res)
abbrev Env := List (Nat × SV)
def look {β : Type} : List (Nat × β) → Nat → Option β
 | [], _ => none
 | (k, x) :: l, i => match Nat.beq k i with | true => some x | false => look l i
theorem look_cons {β : Type} (k : Nat) (x : β) (l : List (Nat × β)) (i : Nat) : look ((k, x) :: l) i = if k = i then some x else look l i := by
 rw [look]
 by_cases h : k = i
 ·subst h; simp
 ·have : Nat.beq k i = false := by
   cases hb : Nat.beq k i with
   | false => rfl
   | true => exact absurd (zbE hb) h
  simp only [this, if_neg h]
theorem look_append {β : Type} (l m : List (Nat × β)) (i : Nat) : look (l ++ m) i = (look l i).or (look m i) := by
 induction l with
 | nil => simp [look]
 | cons p l ih =>
  obtain ⟨k, x⟩ := p
  rw [List.cons_append, look_cons, look_cons]
  split
  ·simp
  ·exact ih

structure MSat (I : Interp) (γ : Vn) (M : Nat → Option Res) (w : World) : Prop where
 ok : ∀ i r, M i = some r → ResOK I γ i w r
 low : ∀ i r b, M i = some r → r.foot γ i b → b < w.heap.size
 apart : ∀ i j ri rj b, i ≠ j → M i = some ri → M j = some rj → ri.mut = true → ri.foot γ i b → ¬ rj.foot γ j b

structure Fr (S : Nat → Prop) (w w' : World) : Prop where
 os : w'.os = w.os
 tape : w'.tape = w.tape
 output : w'.output = w.output
 size : w.heap.size ≤ w'.heap.size
 same : ∀ b, b < w.heap.size → ¬ S b → w'.heap[b]? = w.heap[b]?
theorem Fr.refl (S : Nat → Prop) (w : World) : Fr S w w := ⟨rfl, rfl, rfl, Nat.le_refl _, fun _ _ _ => rfl⟩
theorem Fr.mono {S T : Nat → Prop} {a b : World} (h : Fr S a b) (hT : ∀ x, x < a.heap.size → S x → T x) : Fr T a b :=
 ⟨h.os, h.tape, h.output, h.size, fun x hx hs => h.same x hx (fun h' => hs (hT x hx h'))⟩
theorem Fr.trans' {S T : Nat → Prop} {a b c : World} (h : Fr S a b) (k : Fr T b c) (hT : ∀ x, T x → S x ∨ a.heap.size ≤ x) : Fr S a c :=
 ⟨k.os.trans h.os, k.tape.trans h.tape, k.output.trans h.output, Nat.le_trans h.size k.size, fun x hx hs => (k.same x (Nat.lt_of_lt_of_le hx h.size) (fun ht => by rcases hT x ht with h1 | h1; exact hs h1; omega)).trans (h.same x hx hs)⟩
theorem Fr.trans {S : Nat → Prop} {a b c : World} (h : Fr S a b) (k : Fr S b c) : Fr S a c := h.trans' k fun _ hx => .inl hx

structure St where
 env : Env
 mem : Mem
structure Ft where
 w : Nat → Prop
 r : Nat → Prop
structure Sat (I : Interp) (N : Nat) (w0 : World) (S0 : Ft) (γ : Vn) (D : Nat → Bool) (E : Nat → Option SV) (M : Nat → Option Res) (a : Act) (w : World) : Prop where
 env : ∀ t x, E t = some x → a.tmps[t]? = some (x.den γ)
 eids : ∀ t x, E t = some x → x.ids D = true
 mem : MSat I γ M w
 mids : ∀ i r, M i = some r → D i = true ∧ r.ids D = true
 fr : Fr S0.w w0 w
 own : ∀ i r b, M i = some r → r.foot γ i b → w0.heap.size ≤ b ∨ S0.w b ∨ (r.mut = false ∧ S0.r b)
 size : a.tmps.size = N
 defers : a.defers = []
 amb : AmbW I w0 ∧ ∀ b, I.bb b → ¬ S0.w b
def Amb (I : Interp) (γ : Vn) (M : Nat → Option Res) (w : World) : Prop := AmbW I w ∧ ∀ b, I.bb b → ∀ i r, M i = some r → r.mut = true → ¬ r.foot γ i b
theorem Sat.ownm {I : Interp} {N : Nat} {w0 : World} {S0 : Ft} {γ : Vn} {D : Nat → Bool} {E : Nat → Option SV} {M : Nat → Option Res} {a : Act} {w : World} (hs : Sat I N w0 S0 γ D E M a w) (i : Nat) (r : Res) (b : Nat) (h : M i = some r) (hm : r.mut = true) (hb : r.foot γ i b) : w0.heap.size ≤ b ∨ S0.w b := by
 rcases hs.own i r b h hb with h1 | h1 | ⟨h1, _⟩
 ·exact .inl h1
 ·exact .inr h1
 ·rw [hm] at h1; cases h1
theorem Sat.amb' {I : Interp} {N : Nat} {w0 : World} {S0 : Ft} {γ : Vn} {D : Nat → Bool} {E : Nat → Option SV} {M : Nat → Option Res} {a : Act} {w : World} (hs : Sat I N w0 S0 γ D E M a w) : Amb I γ M w := by
 obtain ⟨⟨h1, h2⟩, h3⟩ := hs.amb
 refine ⟨⟨I.bloc w0 w (fun b hb => hs.fr.same b (h2 b hb) (h3 b hb)) h1, fun b hb => Nat.lt_of_lt_of_le (h2 b hb) hs.fr.size⟩, fun b hb i r hi hm hf => ?_⟩
 rcases hs.ownm i r b hi hm hf with h | h
 ·have := h2 b hb; omega
 ·exact h3 b hb h
theorem Sat.share {I : Interp} {N : Nat} {w0 : World} {S0 : Ft} {γ : Vn} {D : Nat → Bool} {E : Nat → Option SV} {M : Nat → Option Res} {a : Act} {w : World} (hs : Sat I N w0 S0 γ D E M a w) {i : Nat} {r r' : Res} {b : Nat} (h : M i = some r) (hb : r.foot γ i b) (hm : r'.mut = false) : w0.heap.size ≤ b ∨ S0.w b ∨ (r'.mut = false ∧ S0.r b) := by
 rcases hs.own i r b h hb with h1 | h1 | ⟨_, h1⟩
 ·exact .inl h1
 ·exact .inr (.inl h1)
 ·exact .inr (.inr ⟨hm, h1⟩)
theorem lift2 {p q s : Prop} (h : p ∨ q) : p ∨ q ∨ s := h.elim .inl fun h => .inr (.inl h)
def fresh (b i : Nat) : Bool := Nat.ble b i && Nat.blt i (b + 64)
end Sx

/- '==' of arrays and structs of integers. -/
namespace Sx
open Go
set_option linter.unusedVariables false
set_option linter.unusedSimpArgs false
def eqL : List Value → List Value → Bool
 | [], [] => true
 | .int _ m :: xs, .int _ n :: ys => (m == n) && eqL xs ys
 | _, _ => false
def eqv (x y : Array Value) : Bool := eqL x.toList y.toList
def fitsL : List IntKind → List Value → Bool
 | [], [] => true
 | k :: ks, .int q _ :: xs => decide (q = k) && fitsL ks xs
 | _, _ => false
def kindsOf (P : Program) : Nat → TypeId → Option (List IntKind)
 | 0, _ => none
 | d + 1, t => match P.underlying t with
  | some (.int k) => some [k]
  | some (.array n e) => match P.info? e, kindsOf P d e with
   | some i, some ks => match Nat.beq i.size ks.length with
    | true => some (List.replicate n ks).flatten
    | false => none
   | _, _ => none
  | some (.struct fs) => match P.stoodInHeld t with
   | true => none
   | false => go fs.toList 0 (kindsOf P d)
  | _ => none
where go (l : List Field) (off : Nat) (k : TypeId → Option (List IntKind)) : Option (List IntKind) := match l with
 | [] => some []
 | f :: l => match Nat.beq f.offset off && (f.name != "_"), P.info? f.type, k f.type with
  | true, some i, some ks => match Nat.beq i.size ks.length, go l (off + ks.length) k with
   | true, some rest => some (ks ++ rest)
   | _, _ => none
  | _, _, _ => none
theorem fitsL_append {ks qs : List IntKind} : ∀ {xs : List Value}, fitsL (ks ++ qs) xs = true → fitsL ks (xs.take ks.length) = true ∧ fitsL qs (xs.drop ks.length) = true := by
 induction ks with
 | nil => intro xs h; simpa [fitsL] using h
 | cons k ks ih =>
  intro xs h
  cases xs with
  | nil => simp [fitsL] at h
  | cons x xs =>
   cases x <;> simp only [List.cons_append, fitsL, zaT, Bool.false_eq_true] at h
   obtain ⟨h1, h2⟩ := ih h.2
   simp only [List.length_cons, List.take_succ_cons, List.drop_succ_cons, fitsL, zaT]
   exact ⟨⟨h.1, h1⟩, h2⟩
theorem fitsL_length {ks : List IntKind} : ∀ {xs : List Value}, fitsL ks xs = true → xs.length = ks.length := by
 induction ks with
 | nil => intro xs h; cases xs with
  | nil => rfl
  | cons x xs => simp [fitsL] at h
 | cons k ks ih =>
  intro xs h
  cases xs with
  | nil => simp [fitsL] at h
  | cons x xs =>
   cases x <;> simp only [fitsL, zaT, Bool.false_eq_true] at h
   simp [ih h.2]
theorem eqL_split {n : Nat} : ∀ {xs ys : List Value}, xs.length = ys.length → eqL xs ys = (eqL (xs.take n) (ys.take n) && eqL (xs.drop n) (ys.drop n)) := by
 induction n with
 | zero => intro xs ys h; simp [eqL]
 | succ n ih =>
  intro xs ys h
  cases xs with
  | nil => cases ys with
   | nil => simp [eqL]
   | cons y ys => simp at h
  | cons x xs =>
   cases ys with
   | nil => simp at h
   | cons y ys =>
    simp only [List.length_cons, Nat.add_right_cancel_iff] at h
    simp only [List.take_succ_cons, List.drop_succ_cons]
    cases x <;> cases y <;> simp only [eqL, Bool.false_and]
    rw [ih h, Bool.and_assoc]
section
variable {P : Program} {w : World}
def wrapT (P : Program) (t : TypeId) (xs : List Value) : Value := match P.underlying t with
 | some (.int _) => xs.headD undef
 | _ => .agg xs.toArray
theorem part_run {d : Nat} {e : TypeId} {ks : List IntKind} {i : TypeInfo} (hk : kindsOf P d e = some ks) (hi : P.info? e = some i) (hsz : i.size = ks.length) {xs : List Value} {off : Nat} (hf : fitsL ks ((xs.drop off).take ks.length) = true) :
  (part e xs.toArray off).run P w = .ok (wrapT P e ((xs.drop off).take ks.length)) w := by
 cases d with
 | zero => simp [kindsOf] at hk
 | succ d =>
  have hlen := fitsL_length hf
  have agg : ∀ ty, P.underlying e = some ty → (match ty with | .struct _ | .array _ _ => true | _ => false) = true → (part e xs.toArray off).run P w = .ok (.agg ((xs.drop off).take ks.length).toArray) w := by
   intro ty hu ht
   have ha : (isAgg e).run P w = .ok true w := by
    unfold isAgg; rw [Sem.run_bind, run_underlying hu w]; cases ty <;> simp_all
   have hs : (Go.sizeOf e).run P w = .ok ks.length w := by simp [Go.sizeOf, typeInfo, hi, hsz]
   simp only [part, Sem.run_bind, ha, Result.andThen_ok, if_true, hs, Sem.run_pure]
   congr 2
   apply Array.ext'
   simp [Array.toList_extract, List.extract_eq_take_drop]
  unfold kindsOf at hk
  unfold wrapT
  split at hk
  ·rename_i k hu
   simp only [zsI] at hk
   subst hk
   simp only [hu]
   have ha : (isAgg e).run P w = .ok false w := by
    unfold isAgg; rw [Sem.run_bind, run_underlying hu w]; simp
   have hlt : off < xs.length := by
    simp only [List.length_take, List.length_drop, List.length_singleton] at hlen; omega
   have hx : xs.toArray[off]? = some xs[off] := by simp [hlt]
   have h1 : List.take [k].length (List.drop off xs) = [xs[off]] := by rw [List.drop_eq_getElem_cons hlt]; rfl
   simp only [part, Sem.run_bind, ha, Result.andThen_ok, hx, h1]
   simp
  ·rename_i n e' hu
   simp only [hu]; exact agg _ hu rfl
  ·rename_i fs hu
   simp only [hu]; exact agg _ hu rfl
  ·cases hk
def EqT (P : Program) (dd : Nat) (e : TypeId) (ks : List IntKind) : Prop := ∀ (w : World) (xs ys : List Value), fitsL ks xs = true → fitsL ks ys = true → (Op.equalIn dd e (wrapT P e xs) (wrapT P e ys)).run P w = .ok (eqL xs ys) w
theorem items_run {d dd : Nat} {e : TypeId} {ks : List IntKind} {i : TypeInfo} (hk : kindsOf P d e = some ks) (hi : P.info? e = some i) (hsz : i.size = ks.length) (ih : EqT P dd e ks) {xs ys : List Value} : ∀ (n k : Nat),
  fitsL (List.replicate n ks).flatten (xs.drop (k * ks.length)) = true → fitsL (List.replicate n ks).flatten (ys.drop (k * ks.length)) = true →
  (Op.eqItems dd e ks.length xs.toArray ys.toArray (List.range' k n)).run P w = .ok (eqL (xs.drop (k * ks.length)) (ys.drop (k * ks.length))) w
 | 0, k, h1, h2 => by
  have e1 := fitsL_length h1
  have e2 := fitsL_length h2
  simp only [List.replicate_zero, List.flatten_nil, List.length_nil] at e1 e2
  rw [List.eq_nil_of_length_eq_zero e1, List.eq_nil_of_length_eq_zero e2]
  simp [Op.eqItems, eqL]
 | n + 1, k, h1, h2 => by
  rw [List.replicate_succ, List.flatten_cons] at h1 h2
  obtain ⟨a1, a2⟩ := fitsL_append h1
  obtain ⟨b1, b2⟩ := fitsL_append h2
  rw [List.drop_drop] at a2 b2
  have hk1 : k * ks.length + ks.length = (k + 1) * ks.length := by rw [Nat.succ_mul]
  rw [hk1] at a2 b2
  have hlen : (xs.drop (k * ks.length)).length = (ys.drop (k * ks.length)).length := by rw [fitsL_length h1, fitsL_length h2]
  rw [List.range'_succ]
  simp only [Op.eqItems, Sem.run_bind, part_run hk hi hsz a1, part_run hk hi hsz b1, Result.andThen_ok, ih w _ _ a1 b1]
  rw [eqL_split (n := ks.length) hlen, List.drop_drop, List.drop_drop, hk1]
  cases eqL (List.take ks.length (List.drop (k * ks.length) xs)) (List.take ks.length (List.drop (k * ks.length) ys)) with
  | false => simp
  | true => simpa using items_run hk hi hsz ih n (k + 1) a2 b2
theorem fields_run {d dd : Nat} (ih : ∀ (e : TypeId) ks, kindsOf P d e = some ks → EqT P dd e ks) {xs ys : List Value} : ∀ (fs : List Field) (off : Nat) (ks : List IntKind), kindsOf.go P fs off (kindsOf P d) = some ks →
  fitsL ks (xs.drop off) = true → fitsL ks (ys.drop off) = true → (Op.eqFields dd xs.toArray ys.toArray fs).run P w = .ok (eqL (xs.drop off) (ys.drop off)) w
 | [], off, ks, hg, h1, h2 => by
  simp only [kindsOf.go, zsI] at hg
  subst hg
  have e1 := fitsL_length h1
  have e2 := fitsL_length h2
  rw [List.eq_nil_of_length_eq_zero e1, List.eq_nil_of_length_eq_zero e2]
  simp [Op.eqFields, eqL]
 | f :: fs, off, ks, hg, h1, h2 => by
  unfold kindsOf.go at hg
  split at hg
  ·rename_i i qs hb hi hq
   split at hg
   ·rename_i rest hsz hrest
    simp only [zsI] at hg
    subst hg
    simp only [zaT, bne_iff_ne, ne_eq] at hb
    obtain rfl := zbE hb.1
    have hs := zbE hsz
    obtain ⟨a1, a2⟩ := fitsL_append h1
    obtain ⟨b1, b2⟩ := fitsL_append h2
    rw [List.drop_drop] at a2 b2
    have hlen : (xs.drop f.offset).length = (ys.drop f.offset).length := by rw [fitsL_length h1, fitsL_length h2]
    simp only [Op.eqFields, hb.2, ne_eq, not_false_eq_true, if_true, Sem.run_bind, part_run hq hi hs a1, part_run hq hi hs b1, Result.andThen_ok, ih _ _ hq w _ _ a1 b1]
    rw [eqL_split (n := qs.length) hlen, List.drop_drop, List.drop_drop]
    cases eqL (List.take qs.length (List.drop f.offset xs)) (List.take qs.length (List.drop f.offset ys)) with
    | false => simp
    | true => simpa using fields_run ih fs (f.offset + qs.length) rest hrest a2 b2
   ·cases hg
  ·cases hg
theorem equalIn_run : ∀ (d dd : Nat) (t : TypeId) (ks : List IntKind), kindsOf P d t = some ks → EqT P (dd + d) t ks
 | 0, dd, t, ks, h => by simp [kindsOf] at h
 | d + 1, dd, t, ks, h => by
  intro w xs ys hx hy
  unfold kindsOf at h
  unfold wrapT
  split at h
  ·rename_i k hu
   simp only [zsI] at h
   subst h
   have one : ∀ zs : List Value, fitsL [k] zs = true → ∃ m, zs = [.int k m] := by
    intro zs hz
    cases zs with
    | nil => simp [fitsL] at hz
    | cons z zs =>
     cases z <;> simp only [fitsL, zaT, Bool.false_eq_true, decide_eq_true_eq] at hz
     obtain ⟨rfl, hz⟩ := hz
     cases zs with
     | nil => exact ⟨_, rfl⟩
     | cons _ _ => simp [fitsL] at hz
   obtain ⟨m, rfl⟩ := one xs hx
   obtain ⟨n, rfl⟩ := one ys hy
   simp only [hu, List.headD_cons, ← Nat.add_assoc]
   simp [Op.equalIn, run_underlying hu, eqL]
  ·rename_i n e hu
   split at h
   ·rename_i i qs hi hq
    split at h
    ·rename_i hsz
     simp only [zsI] at h
     subst h
     have hs := zbE hsz
     have hc : P.cellsOf e = qs.length := by simp [Program.cellsOf, hi, hs]
     simp only [hu, ← Nat.add_assoc]
     rw [run_equalIn_array w (dd + d) _ _ hu hi, hc, List.range_eq_range']
     have := items_run (w := w) hq hi hs (equalIn_run d dd e qs hq) (xs := xs) (ys := ys) n 0 (by simpa using hx) (by simpa using hy)
     simpa using this
    ·cases h
   ·cases h
  ·rename_i fs hu
   split at h
   ·cases h
   ·rename_i hst
    simp only [hu, ← Nat.add_assoc]
    have hfs : P.fieldsOf t = fs := by simp [Program.fieldsOf, hu]
    rw [run_equalIn_struct w (dd + d) t _ _ (by rw [hfs]; exact hu) hst, hfs]
    have := fields_run (w := w) (fun e qs he => equalIn_run d dd e qs he) (xs := xs) (ys := ys) fs.toList 0 ks h (by simpa using hx) (by simpa using hy)
    simpa using this
  ·cases h
theorem equal_run {d : Nat} (hd : d ≤ 10000) {t : TypeId} {ks : List IntKind} (hk : kindsOf P d t = some ks) {a c : Array Value} (ha : fitsL ks a.toList = true) (hc : fitsL ks c.toList = true) (hagg : (match P.underlying t with | some (.struct _) | some (.array _ _) => true | _ => false) = true) (w : World) :
  (Op.equalIn 10000 t (.agg a) (.agg c)).run P w = .ok (eqv a c) w := by
 have := equalIn_run d (10000 - d) t ks hk w a.toList c.toList ha hc
 rw [Nat.sub_add_cancel hd] at this
 unfold wrapT at this
 split at this
 ·rename_i k hu; simp [hu] at hagg
 ·simpa [eqv] using this
end
end Sx

/- One operation on symbolic states. -/
namespace Sx
open Go
set_option linter.unusedVariables false

def val? (P : Program) {α : Type} : Sem α → Option α
 | .pure a => some a
 | .program k => val? P (k P)
 | .mark _ k => val? P k
 | _ => none
theorem val?_run {P : Program} {α : Type} : ∀ (x : Sem α) (a : α), val? P x = some a → ∀ w, x.run P w = .ok a w
 | .pure b, a, h, w => by simp only [val?, zsI] at h; subst h; rfl
 | .program k, a, h, w => by
  simp only [val?] at h
  show (k P).run P w = _
  exact val?_run (k P) a h w
 | .mark m k, a, h, w => by
  simp only [val?] at h
  show k.run P w = _
  exact val?_run k a h w
 | .load .., a, h, _ | .store .., a, h, _ | .new .., a, h, _ | .shape .., a, h, _ | .freeze .., a, h, _ | .frozen .., a, h, _ | .getObj .., a, h, _ | .setObj .., a, h, _ | .choose .., a, h, _ | .sys .., a, h, _ | .halt _, a, h, _ => by simp [val?] at h

structure Rec where
 v : SV
 effs : List (Nat × Res)
 rd : List Nat
structure Spec where
 rd : List SV → (Nat → Option Res) → List Nat
 fits : List SV → (Nat → Option Res) → Bool
 sel : List SV → (Nat → Option Res) → List Bool
 outs : List SV → (Nat → Option Res) → List Bool → Nat → SV × List (Nat × Res)
 loc : ∀ args M M', fits args M = true → (∀ i ∈ rd args M, M' i = M i) → rd args M' = rd args M ∧ fits args M' = fits args M ∧ sel args M' = sel args M ∧ ∀ bs b, outs args M' bs b = outs args M bs b
def Spec.out (s : Spec) (args : List SV) (M : Nat → Option Res) (b : Nat) : SV × List (Nat × Res) := s.outs args M (s.sel args M) b
def selK {α : Type} : List Bool → (List Bool → α) → α
 | [], K => K []
 | t :: l, K => match t with
  | true => selK l fun r => K (true :: r)
  | false => selK l fun r => K (false :: r)
theorem selK_eq {α : Type} : ∀ (l : List Bool) (K : List Bool → α), selK l K = K l
 | [], K => rfl
 | true :: l, K => by unfold selK; exact selK_eq l _
 | false :: l, K => by unfold selK; exact selK_eq l _

def ev (E : Nat → Option SV) : Operand → Option SV
 | .tmp t => E t
 | .const v => some (.v v)
 | .global g => some (.v (.pointer (some ⟨g, 0, none⟩)))
 | .func f => some (.fn (.func f) [])
def evs (E : Nat → Option SV) : List Operand → Option (List SV)
 | [] => some []
 | x :: xs => match ev E x with
  | some y => match evs E xs with
   | some ys => some (y :: ys)
   | none => none
  | none => none
def reals : List SV → Option (List Value)
 | [] => some []
 | .v x :: l => match reals l with
  | some r => some (x :: r)
  | none => none
 | _ :: _ => none
def mkAgg (l : List SV) : SV := match reals l with
 | some r => .v (.agg r.toArray)
 | none => .agg l
def cellsOf : SV → List SV
 | .agg xs => xs
 | .v (.agg a) => a.toList.map .v
 | x => [x]
def isRow : Option Res → Bool
 | some (.ro _) => true
 | some (.own _ _) => true
 | some (.ros _) => true
 | some (.ownc _ _) => true
 | some (.ownp _ _) => true
 | some (.deep _ _) => true
 | some (.ownq _ _ _) => true
 | _ => false
def isOpt : Option Res → Bool
 | some (.opt _ _) => true
 | _ => false
def isCell (r : Option Res) : Bool := isRow r || isOpt r
def rowsIn : List SV → List Nat
 | [] => []
 | x :: l => match x with
  | .row i => i :: rowsIn l
  | _ => rowsIn l
def oneS : SV → Bool
 | .v x => x.oneCell'
 | .agg _ | .tup _ | .row _ | .el .. => false
 | _ => true
def oneM (M : Nat → Option Res) (x : SV) : Bool := match x with
 | .row i => isCell (M i)
 | x => oneS x
def ρof (E : Nat → Option SV) (x : Operand) : Value := match ev E x with
 | some (.v y) => y
 | _ => undef
def isReal : Option SV → Bool
 | some (.v _) => true
 | _ => false
def isAggT (P : Program) (t : TypeId) : Bool := match P.underlying t with
 | some (.struct _) | some (.array _ _) => true
 | _ => false
def knownT (P : Program) (t : TypeId) : Bool := match P.info? t with
 | some _ => (P.underlying t).isSome
 | none => false
def ints? (k : IntKind) : List SV → Option (List Int)
 | [] => some []
 | .v (.int q m) :: l => match decide (q = k), ints? k l with
  | true, some r => some (m :: r)
  | _, _ => none
 | _ :: _ => none
def isU8 (P : Program) (e : TypeId) : Bool := match P.underlying e with
 | some (.int .u8) => true
 | _ => false
def bytesOf (P : Program) (t : TypeId) (a : Array Value) : Option (List Int) := match isU8 P t with
 | true => ints? .u8 (a.toList.map .v)
 | false => none
def setGo (l : List Int) (off : Nat) (v : Int) : Nat → Nat → List Int
 | 0, _ => []
 | m + 1, j => (bif Nat.beq j off then v else l.getD j 0) :: setGo l off v m (j + 1)
section
variable (P : Program) (sp : FuncId → Option Spec)
section
variable (o : Oper) (E : Nat → Option SV) (M : Nat → Option Res) (b : Nat) {α : Type} (ok : Rec → α) (no : α)
def pureStep : α := match o.op.operands.toList.all fun x => isReal (ev E x) with
 | true => match val? P (execOp (ρof E) o) with
  | some (.value u) => ok ⟨.v u, [], []⟩
  | _ => no
 | false => no
def loadStep (t : TypeId) (i off : Nat) : α :=
 match knownT P t, M i with
 | true, some (.arr _ n a) =>
  match isAggT P t with
  | true => match Nat.beq off 0 && Nat.beq (P.cellsOf t) n with
   | true => ok ⟨.v (.agg a), [], [i]⟩
   | false => match Nat.ble (off + P.cellsOf t) n with
    | true => ok ⟨.v (.agg (a.extract off (off + P.cellsOf t))), [], [i]⟩
    | false => no
  | false => match Nat.blt off n with
   | true => match bytesOf P t a with
    | some l => ok ⟨.v (.int .u8 (l.getD off 0)), [], [i]⟩
    | none => ok ⟨.v (a.getD off undef), [], [i]⟩
   | false => no
 | true, some (.blk _ cs) =>
  match isAggT P t with
  | true => match Nat.ble (off + P.cellsOf t) cs.length with
   | true => ok ⟨mkAgg ((cs.drop off).take (P.cellsOf t)), [], [i]⟩
   | false => no
  | false => match cs[off]? with
   | some x => ok ⟨x, [], [i]⟩
   | none => no
 | true, some (.rblk _ cs) =>
  match isAggT P t with
  | true => match Nat.ble (off + P.cellsOf t) cs.length with
   | true => ok ⟨mkAgg ((cs.drop off).take (P.cellsOf t)), [], [i]⟩
   | false => no
  | false => match cs[off]? with
   | some x => ok ⟨x, [], [i]⟩
   | none => no
 | _, _ => no
def splice (l : List SV) (off : Nat) (new : List SV) : List SV := l.take off ++ new ++ l.drop (off + new.length)
def storeStep (t : TypeId) (i off : Nat) (x : SV) : α :=
 match P.info? t, M i with
 | some ti, some (.arr e n a) =>
  match x with
  | .v (.agg y) => match Nat.beq y.size ti.size && y.all (·.oneCell') with
   | true => match Nat.beq off 0 && Nat.beq ti.size n with
    | true => ok ⟨.v undef, [(i, .arr e n y)], [i]⟩
    | false => match Nat.ble (off + ti.size) n with
     | true => ok ⟨.v undef, [(i, .arr e n (a.toList.take off ++ y.toList ++ a.toList.drop (off + y.size)).toArray)], [i]⟩
     | false => no
   | false => no
  | .v y => match Nat.beq 1 ti.size && y.oneCell' && Nat.blt off n with
   | true => match bytesOf P t a, y with
    | some l, .int .u8 v => ok ⟨.v undef, [(i, .arr e n ((setGo l off v n 0).map (Value.int .u8)).toArray)], [i]⟩
    | _, _ => ok ⟨.v undef, [(i, .arr e n (a.setIfInBounds off y))], [i]⟩
   | false => no
  | _ => match Nat.beq (cellsOf x).length ti.size && (cellsOf x).all (oneM M) && Nat.ble (off + (cellsOf x).length) n with
   | true => ok ⟨.v undef, [(i, .blk e (splice (a.toList.map .v) off (cellsOf x)))], i :: rowsIn (cellsOf x)⟩
   | false => no
 | some ti, some (.blk e cs) =>
  match Nat.beq (cellsOf x).length ti.size && (cellsOf x).all (oneM M) && Nat.ble (off + (cellsOf x).length) cs.length with
  | true => ok ⟨.v undef, [(i, .blk e (splice cs off (cellsOf x)))], i :: rowsIn (cellsOf x)⟩
  | false => no
 | _, _ => no
def boxStep (e : TypeId) (x : SV) : α := match x with
 | .v (.agg a) => match Nat.beq a.size (P.cellsOf e) with
  | true => ok ⟨.ptr b 0, [(b, .arr e (P.cellsOf e) a)], []⟩
  | false => no
 | .row i => match isCell (M i) with
  | true => ok ⟨.ptr b 0, [(b, .blk e [.row i])], [i]⟩
  | false => no
 | .el .. | .tup _ => no
 | x => ok ⟨.ptr b 0, [(b, .blk e (cellsOf x))], []⟩
def fieldStep (s : TypeId) (p : SV) (f : Nat) : α := match p with
 | .ptr i off => match P.underlying s with
  | some (.struct fs) => match fs[f]? with
   | some fd => match P.info? fd.type with
    | some ti => match Nat.beq ti.size 0 with
     | false => ok ⟨.ptr i (off + fd.offset), [], []⟩
     | true => no
    | none => no
   | none => no
  | _ => no
 | .el i sz k c => match P.underlying s with
  | some (.struct fs) => match fs[f]? with
   | some fd => match P.info? fd.type with
    | some ti => match Nat.beq ti.size 0, M i with
     | false, some (.ro ct) => match Nat.blt k ct.n with
      | true => ok ⟨.el i sz k (c + fd.offset), [], [i]⟩
      | false => no
     | false, some (.own _ ct) => match Nat.blt k ct.n with
      | true => ok ⟨.el i sz k (c + fd.offset), [], [i]⟩
      | false => no
     | false, some (.deep _ l) => match Nat.blt k l.length with
      | true => ok ⟨.el i sz k (c + fd.offset), [], [i]⟩
      | false => no
     | false, some (.ownq _ z j) => match M j with
      | some (.dpool gs l _) => match Nat.beq z gs.length && Nat.blt 0 z && Nat.blt k l.length with
       | true => ok ⟨.el i sz k (c + fd.offset), [], [i, j]⟩
       | false => no
      | _ => no
     | false, some (.ownh _ z j _ _ _) => match M j with
      | some (.dpool gs l _) => match Nat.beq z gs.length && Nat.blt 0 z && Nat.blt k l.length with
       | true => ok ⟨.el i sz k (c + fd.offset), [], [i, j]⟩
       | false => no
      | _ => no
     | _, _ => no
    | none => no
   | none => no
  | _ => no
 | .row i => match P.underlying s with
  | some (.struct fs) => match fs[f]? with
   | some fd => match P.info? fd.type with
    | some ti => match Nat.beq ti.size 0, M i with
     | false, some (.opt ks l) => match Nat.blt 0 l.length with
      | true => ok ⟨.el i ks.length 0 fd.offset, [], [i]⟩
      | false => no
     | _, _ => no
    | none => no
   | none => no
  | _ => no
 | _ => no
def eqStep (neg : Bool) (t : TypeId) (a c : Array Value) : α := match isAggT P t, kindsOf P 40 t, P.eqGuardType P.depth t with
 | true, some ks, false => match fitsL ks a.toList && fitsL ks c.toList with
  | true => ok ⟨.v (.bool (match neg with | true => !(eqv a c) | false => eqv a c)), [], []⟩
  | false => no
 | _, _, _ => no
def isPtrT (P : Program) (t : TypeId) : Bool := match P.underlying t with
 | some (.pointer _) => true
 | _ => false
def binStep (op : BinOp) (t : TypeId) (x y : SV) : α := match x, y with
 | .v (.agg a), .v (.agg c) => match op with
  | .eql => eqStep P ok no false t a c
  | .neq => eqStep P ok no true t a c
  | _ => no
 | .v (.int k m), .v (.int q n) => match op with
  | .shl => match decide (n < 0) with
   | false => ok ⟨.v (.int k (k.wrap (m * 2 ^ min n.toNat k.bits))), [], []⟩
   | true => no
  | .shr => match decide (n < 0) with
   | false => ok ⟨.v (.int k (m.fdiv (2 ^ min n.toNat k.bits))), [], []⟩
   | true => no
  | .quo => match decide (k = q) && !(decide (n = 0)) with
   | true => ok ⟨.v (.int k (k.wrap (m.tdiv n))), [], []⟩
   | false => no
  | .rem => match decide (k = q) && !(decide (n = 0)) with
   | true => ok ⟨.v (.int k (m.tmod n)), [], []⟩
   | false => no
  | _ => pureStep P o E ok no
 | .ptr _ _, .v (.pointer none) => match isPtrT P t, op with
  | true, .eql => ok ⟨.v (.bool false), [], []⟩
  | true, .neq => ok ⟨.v (.bool true), [], []⟩
  | _, _ => no
 | _, _ => pureStep P o E ok no
def isSlT (P : Program) (t : TypeId) : Bool := match P.underlying t with
 | some (.slice _) => true
 | _ => false
def isStrT (P : Program) (t : TypeId) : Bool := match P.underlying t with
 | some .string => true
 | _ => false
def nilStep (op : BinOp) (t : TypeId) (i : Nat) : α := match isSlT P t, isRow (M i), op with
 | true, true, .eql => ok ⟨.nilq i false, [], [i]⟩
 | true, true, .neq => ok ⟨.nilq i true, [], [i]⟩
 | _, _, _ => no
def optStep (op : BinOp) (t : TypeId) (i : Nat) : α := match isPtrT P t, M i with
 | true, some (.opt _ l) => match op with
  | .eql => ok ⟨.v (.bool (Nat.beq l.length 0)), [], [i]⟩
  | .neq => ok ⟨.v (.bool (!(Nat.beq l.length 0))), [], [i]⟩
  | _ => no
 | _, _ => no
def derefStep (i : Nat) : α := match M i with
 | some (.opt _ l) => match Nat.blt 0 l.length with
  | true => ok ⟨.row i, [], [i]⟩
  | false => no
 | _ => no
def elNil (i sz k c : Nat) : α := match M i with
 | some (.ownq _ z j) => match M j with
  | some (.dpool gs l _) => match Nat.beq z gs.length && Nat.blt 0 z && Nat.blt k l.length with
   | true => ok ⟨.el i sz k c, [], [i, j]⟩
   | false => no
  | _ => no
 | some (.ownh _ z j _ _ _) => match M j with
  | some (.dpool gs l _) => match Nat.beq z gs.length && Nat.blt 0 z && Nat.blt k l.length with
   | true => ok ⟨.el i sz k c, [], [i, j]⟩
   | false => no
  | _ => no
 | _ => no
def lenStep (t : TypeId) (x : SV) : α := match P.underlying t, x with
 | some (.slice _), .row i => match M i with
  | some (.ro c) => ok ⟨.v (.int .i64 c.n), [], [i]⟩
  | some (.own _ c) => ok ⟨.v (.int .i64 c.n), [], [i]⟩
  | some (.ros xss) => ok ⟨.v (.int .i64 xss.length), [], [i]⟩
  | some (.ownc _ cs) => ok ⟨.v (.int .i64 cs.length), [], [i]⟩
  | some (.deep _ l) => ok ⟨.v (.int .i64 l.length), [], [i]⟩
  | some (.ownp _ j) => match M j with
   | some (.pool xss) => ok ⟨.v (.int .i64 xss.length), [], [i, j]⟩
   | _ => no
  | some (.ownq _ sz j) => match M j with
   | some (.dpool fs l zz) => match Nat.beq sz fs.length && Nat.blt 0 sz with
    | true => ok ⟨.v (.int .i64 l.length), [], [i, j]⟩
    | false => no
   | _ => no
  | _ => no
 | some (.slice _), .sl _ _ l _ => ok ⟨.v (.int .i64 l), [], []⟩
 | _, _ => pureStep P o E ok no
def elAt (i sz n : Nat) (m : Int) : α := match decide (0 ≤ m) && Nat.blt m.toNat n with
 | true => ok ⟨.el i sz m.toNat 0, [], [i]⟩
 | false => no
def pickN (m : Int) (f : Nat → α) : Nat → Nat → α
 | 0, _ => no
 | n + 1, j => match decide (m = (j : Int)) with
  | true => f j
  | false => pickN m f n (j + 1)
def idxStep (t : TypeId) (x y : SV) : α := match y with
 | .v (.int _ m) => match P.underlying t, x with
  | some (.slice e), .row i => match P.info? e, M i with
   | some ti, some (.ro c) => match Nat.beq ti.size c.sz with
    | true => elAt ok no i c.sz c.n m
    | false => no
   | some ti, some (.own _ c) => match Nat.beq ti.size c.sz with
    | true => elAt ok no i c.sz c.n m
    | false => no
   | some ti, some (.ros xss) => match Nat.beq ti.size 1 with
    | true => elAt ok no i 1 xss.length m
    | false => no
   | some ti, some (.deep fs l) => match Nat.beq ti.size fs.length with
    | true => elAt ok no i fs.length l.length m
    | false => no
   | some ti, some (.ownp _ j) => match Nat.beq ti.size 1, M j with
    | true, some (.pool xss) => match decide (0 ≤ m) && Nat.blt m.toNat xss.length with
     | true => ok ⟨.el i 1 m.toNat 0, [], [i, j]⟩
     | false => no
    | _, _ => no
   | some ti, some (.ownq _ sz j) => match Nat.beq ti.size sz && Nat.blt 0 sz, M j with
    | true, some (.dpool fs l zz) => match Nat.beq sz fs.length && (decide (0 ≤ m) && Nat.blt m.toNat l.length) with
     | true => ok ⟨.el i sz m.toNat 0, [], [i, j]⟩
     | false => no
    | _, _ => no
   | _, _ => no
  | some (.slice e), .sl i off l _ => match P.info? e with
   | some ti => match decide (0 ≤ m) && Nat.blt m.toNat l with
    | true => match isPtrT P e && Nat.beq ti.size 1 with
     | true => ok ⟨.selp i off m.toNat, [], []⟩
     | false => ok ⟨.ptr i (off + m.toNat * ti.size), [], []⟩
    | false => no
   | none => no
  | some (.array n e), .ptr i off => match P.info? e with
   | some ti => match Nat.ble n 4 with
    | true => pickN no m (fun q => ok ⟨.ptr i (off + q * ti.size), [], []⟩) n 0
    | false => match decide (0 ≤ m) && Nat.blt m.toNat n with
     | true => match isPtrT P e && Nat.beq ti.size 1 with
      | true => ok ⟨.selp i off m.toNat, [], []⟩
      | false => ok ⟨.ptr i (off + m.toNat * ti.size), [], []⟩
     | false => no
   | none => no
  | _, _ => no
 | _ => no
def cellLoad (t : TypeId) (i sz k c : Nat) (ct : Cont) : α := match knownT P t && Nat.beq sz ct.sz && Nat.blt k ct.n with
 | true => match isAggT P t with
  | true => match Nat.beq c 0 && Nat.beq (P.cellsOf t) sz with
   | true => ok ⟨.v (.agg (ct.at k)), [], [i]⟩
   | false => match Nat.ble (c + P.cellsOf t) sz with
    | true => ok ⟨.v (.agg ((ct.at k).extract c (c + P.cellsOf t))), [], [i]⟩
    | false => no
  | false => match Nat.blt c sz with
   | true => ok ⟨.v ((ct.at k).getD c undef), [], [i]⟩
   | false => no
 | false => no
def deepRes (gs : List DS) (l : List (List DD)) : Res := match kindsD gs with
 | some ks => match ks with
  | [k] => .ro (.ints k (l.map fun x => (x.getD 0 (.n 0)).i))
  | _ => .ro (.structs ks (l.map ddI))
 | none => .deep gs l
def dcells (x : List DD) : List DS → Nat → Nat → List SV × List (Nat × Res)
 | [], _, _ => ([], [])
 | f :: fs, c, b => match f with
  | .n k => (.v (.int k (x.getD c (.n 0)).i) :: (dcells x fs (c + 1) (b + 1)).1, (dcells x fs (c + 1) (b + 1)).2)
  | .s gs => (.row b :: (dcells x fs (c + 1) (b + 1)).1, (b, deepRes gs (x.getD c (.n 0)).l) :: (dcells x fs (c + 1) (b + 1)).2)
def deepLoad (t : TypeId) (rd : List Nat) (sz k c : Nat) (fs : List DS) (l : List (List DD)) : α := match knownT P t && Nat.beq sz fs.length && Nat.blt k l.length with
 | true => match isAggT P t with
  | true => match Nat.ble (c + P.cellsOf t) fs.length && Nat.ble (P.cellsOf t) 64 with
   | true => ok ⟨mkAgg (dcells (l.getD k []) ((fs.drop c).take (P.cellsOf t)) c b).1, (dcells (l.getD k []) ((fs.drop c).take (P.cellsOf t)) c b).2, rd⟩
   | false => no
  | false => match fs[c]? with
   | some f => match f with
    | .n q => ok ⟨.v (.int q (ddAt l k c).i), [], rd⟩
    | .s gs => ok ⟨.row b, [(b, deepRes gs (ddAt l k c).l)], rd⟩
   | none => no
 | false => no
def elLoad (t : TypeId) (i sz k c : Nat) : α := match M i with
 | some (.ro ct) => cellLoad P ok no t i sz k c ct
 | some (.own _ ct) => cellLoad P ok no t i sz k c ct
 | some (.opt ks l) => cellLoad P ok no t i sz k c (.structs ks l)
 | some (.ros xss) => match knownT P t && !(isAggT P t) && Nat.beq sz 1 && Nat.beq c 0 && Nat.blt k xss.length with
  | true => ok ⟨.row b, [(b, .ro (.ints .u8 (xss.getD k [])))], [i]⟩
  | false => no
 | some (.ownp _ j) => match M j with
  | some (.pool xss) => match knownT P t && !(isAggT P t) && Nat.beq sz 1 && Nat.beq c 0 && Nat.blt k xss.length with
   | true => ok ⟨.row b, [(b, .ro (.ints .u8 (xss.getD k [])))], [i, j]⟩
   | false => no
  | _ => no
 | some (.deep fs l) => deepLoad P b ok no t [i] sz k c fs l
 | some (.ownq _ z j) => match M j with
  | some (.dpool fs l zz) => match Nat.beq z fs.length && Nat.blt 0 z with
   | true => deepLoad P b ok no t [i, j] sz k c fs l
   | false => no
  | _ => no
 | some (.ownh _ z j k0 c0 m) => match M j with
  | some (.dpool fs l zz) => match knownT P t && !(isAggT P t) && Nat.beq z fs.length && Nat.beq sz z && Nat.blt c0 z && Nat.beq c c0 && Nat.blt k0 l.length && Nat.beq k k0 with
   | true => ok ⟨.row m, [], [i, j]⟩
   | false => no
  | _ => no
 | _ => no
def leafT : Nat → TypeId → Option TypeId
 | 0, _ => none
 | d + 1, t => match P.underlying t with
  | some (.slice e) => some e
  | some (.struct fs) => fs.toList.findSome? fun f => leafT d f.type
  | _ => none
def leafD : List DS → Nat → Option (Nat × List DS)
 | [], _ => none
 | f :: fs, c => match f with
  | .s gs => some (c, gs)
  | .n _ => leafD fs (c + 1)
def emptyC (gs : List DS) : Option Cont := match kindsD gs with
 | some ks => match ks with
  | [k] => some (.ints k [])
  | _ => some (.structs ks [])
 | none => none
def contD (gs : List DS) (ct : Cont) : Option (List (List DD)) := match kindsD gs, ct with
 | some ks, .ints k l => match decide (ks = [k]) with
  | true => some (l.map fun x => [.n x])
  | false => none
 | some ks, .structs qs l => match decide (ks = qs) with
  | true => some (l.map fun x => x.map DD.n)
  | false => none
 | none, _ => none
def padSet : List DD → Nat → DD → List DD
 | [], 0, x => [x]
 | [], c + 1, x => .n 0 :: padSet [] c x
 | _ :: l, 0, x => x :: l
 | y :: l, c + 1, x => y :: padSet l c x
def ddPut (l : List (List DD)) (k c : Nat) (x : DD) : List (List DD) := l.set k (padSet (l.getD k []) c x)
def holed : Option Res → Bool
 | some (.ownq _ _ _) => true
 | some (.ownh _ _ _ _ _ _) => true
 | _ => false
def holeStore (t : TypeId) (i sz k c : Nat) (x : SV) : α := match P.info? t, M i with
 | some ti, some (.ownq e z j) => match x, M j with
  | .v (.int q m), some (.dpool fs l (some z0)) => match leafD fs 0, fs[c]? with
   | some (c2, gs), some (.n kd) => match emptyC gs, leafT P 20 e with
    | some ct, some e2 => match Nat.beq ti.size 1 && Nat.beq sz z && Nat.beq z fs.length && decide (q = kd) && Nat.blt k l.length && Nat.ble z0 k with
     | true => ok ⟨.v undef, [(b, .dpool fs (ddPut l k c (.n m)) (some z0)), (b + 1, .own e2 ct), (i, .ownh e z b k c2 (b + 1))], [i, j]⟩
     | false => no
    | _, _ => no
   | _, _ => no
  | _, _ => no
 | some ti, some (.ownh e z j k0 c0 m0) => match x with
  | .v (.int q m) => match M j, M m0 with
   | some (.dpool fs l (some z0)), some (.own _ ct) => match fs[c0]?, fs[c]? with
    | some (.s gs), some (.n kd) => match contD gs ct with
     | some dl => match Nat.beq ti.size 1 && Nat.beq sz z && Nat.beq z fs.length && decide (q = kd) && Nat.blt k l.length && Nat.blt k0 l.length && Nat.ble z0 k0 with
      | true => ok ⟨.v undef, [(b, .dpool fs (ddPut (ddPut l k0 c0 (.s dl)) k c (.n m)) (some (k0 + 1))), (i, .ownq e z b), (m0, .gone)], [i, j, m0]⟩
      | false => no
     | none => no
    | _, _ => no
   | _, _ => no
  | .row m2 => match M j with
   | some (.dpool fs l _) => match Nat.beq ti.size 1 && isRow (M m2) && Nat.beq sz z && Nat.beq z fs.length && Nat.blt c0 z && Nat.beq c c0 && Nat.blt k0 l.length && Nat.beq k k0 with
    | true => ok ⟨.v undef, [(i, .ownh e z j k0 c0 m2)], [i, j, m2]⟩
    | false => no
   | _ => no
  | _ => no
 | _, _ => no
def elS : List IntKind → List SV → Option (List Int)
 | [], _ => some []
 | k :: ks, .v (.int q m) :: l => match decide (q = k), elS ks l with
  | true, some r => some (m :: r)
  | _, _ => none
 | _ :: _, _ => none
def elStore (t : TypeId) (i sz k c : Nat) (x : SV) : α := match P.info? t, M i, x with
 | some ti, some (.own e (.ints kd l)), .v (.int q m) => match Nat.beq ti.size 1 && Nat.beq sz 1 && Nat.beq c 0 && decide (q = kd) && Nat.blt k l.length with
  | true => ok ⟨.v undef, [(i, .own e (.ints kd (l.set k m)))], [i]⟩
  | false => no
 | some ti, some (.own e (.structs ks l)), .v (.agg y) => match elS ks (y.toList.map SV.v) with
  | some xs => match Nat.beq ti.size ks.length && Nat.beq sz ks.length && Nat.beq c 0 && Nat.beq y.toList.length ks.length with
   | true => match Nat.blt k l.length with
    | true => ok ⟨.v undef, [(i, .own e (.structs ks (l.set k xs)))], [i]⟩
    | false => no
   | false => no
  | none => no
 | _, _, _ => no
def kindOf0 : Value → Option IntKind
 | .int k 0 => some k
 | _ => none
def makeStep (t : TypeId) (x y : SV) : α := match P.underlying t, x, y with
 | some (.slice e), .v (.int _ l), .v (.int _ c) => match P.info? e with
  | some ti => match ti.zero with
   | some z => match kindOf0 z with
    | some k => match Nat.beq ti.size 1 && (decide (0 ≤ l) && decide (l ≤ c) && decide ((ti.bytes : Int) * c ≤ 281474976710656) && decide (c ≤ 9223372036854775807)) with
     | true => ok ⟨.row b, [(b, .own e (.ints k (List.replicate l.toNat 0)))], []⟩
     | false => no
    | none => no
   | none => no
  | none => no
 | _, _, _ => no
def inOrder : Nat → List (Nat × Operand) → Bool
 | _, [] => true
 | k, (i, _) :: l => Nat.beq i k && inOrder (k + 1) l
def litStep (t : TypeId) (len : Nat) (parts : Array (Nat × Operand)) : α := match P.underlying t with
 | some (.slice e) => match P.info? e with
  | some ti => match ti.zero with
   | some z => match Nat.beq z.cells.size ti.size && Nat.beq parts.size len && inOrder 0 parts.toList && Nat.ble (len * ti.size) 16777216 && Nat.blt 0 ti.size, evs E (parts.toList.map (·.2)) with
    | true, some vs => match vs.all (fun v => Nat.beq (cellsOf v).length ti.size && (cellsOf v).all (oneM M)), kindOf0 z with
     | true, some k => match Nat.beq ti.size 1, ints? k vs with
      | true, some l => ok ⟨.row b, [(b, .own e (.ints k l))], []⟩
      | _, _ => ok ⟨.sl b 0 len len, [(b, .blk e (vs.flatMap cellsOf))], rowsIn (vs.flatMap cellsOf)⟩
     | true, none => match Nat.beq vs.length 0 && Nat.beq ti.size 1 with
      | true => ok ⟨.row b, [(b, .ownc e [])], []⟩
      | false => ok ⟨.sl b 0 len len, [(b, .blk e (vs.flatMap cellsOf))], rowsIn (vs.flatMap cellsOf)⟩
     | _, _ => no
    | _, _ => no
   | none => no
  | none => no
 | _ => no
def fillS (M : Nat → Option Res) (place : Nat → Option (Nat × Nat)) : List SV → List Nat → List SV → Option (List SV)
 | cells, [], [] => some cells
 | cells, i :: is, x :: xs => match place i with
  | some (off, size) => match Nat.beq (cellsOf x).length size && (cellsOf x).all (oneM M) && Nat.ble (off + size) cells.length with
   | true => fillS M place (splice cells off (cellsOf x)) is xs
   | false => none
  | none => none
 | _, _, _ => none
def buildStep (t : TypeId) (parts : Array (Nat × Operand)) : α := match P.info? t, P.underlying t with
 | some it, some (.struct fs) => match it.zero, fs.toList.mapM (fun f => (P.info? f.type).map fun i => (f.offset, i.size)), evs E (parts.toList.map (·.2)) with
  | some z, some places, some vs => match fillS M (places.toArray[·]?) (z.cells.toList.map .v) (parts.toList.map (·.1)) vs with
   | some cs => ok ⟨mkAgg cs, [], rowsIn (vs.flatMap cellsOf)⟩
   | none => no
  | _, _, _ => no
 | some it, some (.array _ e) => match it.zero, P.info? e, evs E (parts.toList.map (·.2)) with
  | some z, some ie, some vs => match fillS M (fun i => some (i * ie.size, ie.size)) (z.cells.toList.map .v) (parts.toList.map (·.1)) vs with
   | some cs => ok ⟨mkAgg cs, [], rowsIn (vs.flatMap cellsOf)⟩
   | none => no
  | _, _, _ => no
 | _, _ => no
def boundOf (E : Nat → Option SV) (d : Int) : Option Operand → Option Int
 | none => some d
 | some x => match ev E x with
  | some (.v (.int _ m)) => some m
  | _ => none
def Cont.sub (c : Cont) (l h : Nat) : Cont := match c with
 | .ints k xs => .ints k ((xs.drop l).take (h - l))
 | .structs ks xs => .structs ks ((xs.drop l).take (h - l))
def selsAt (j : Nat) : List SV → Nat → Bool
 | [], _ => true
 | x :: l, k => match x with
  | .sel j' k' => Nat.beq j' j && Nat.beq k' k && selsAt j l (k + 1)
  | _ => false
def bund (cs : List SV) : Option Nat := match cs with
 | .sel j k :: l => match Nat.beq k 0 && selsAt j l 1 with
  | true => some j
  | false => none
 | _ => none
def selList (j : Nat) : Nat → Nat → List SV
 | 0, _ => []
 | n + 1, k => .sel j k :: selList j n (k + 1)
def structOf (ks : List IntKind) : Option Res → Option (TypeId × List SV × List Int)
 | some (.blk t cs) => match Nat.beq cs.length ks.length, elS ks cs with
  | true, some xs => some (t, cs, xs)
  | _, _ => none
 | some (.arr t _ a) => match Nat.beq a.toList.length ks.length, elS ks (a.toList.map SV.v) with
  | true, some xs => some (t, a.toList.map SV.v, xs)
  | _, _ => none
 | _ => none
def bundLoad (cs : List SV) (j k : Nat) (rd : List Nat) : α := match M j with
 | some (.sels ks L) => match Nat.beq L.length cs.length && Nat.blt k cs.length with
  | true => ok ⟨.row b, [(b, .opt ks (L.getD k []))], j :: rd⟩
  | false => no
 | _ => no
def selLoad (t : TypeId) (i pre k : Nat) : α := match knownT P t && isPtrT P t, M i with
 | true, some (.blk _ cs) => match bund (cs.drop pre) with
  | some j => bundLoad M b ok no (cs.drop pre) j k [i]
  | none => match cs[pre + k]? with
   | some x => ok ⟨x, [], [i]⟩
   | none => no
 | true, some (.rblk _ cs) => match bund (cs.drop pre) with
  | some j => bundLoad M b ok no (cs.drop pre) j k [i]
  | none => match cs[pre + k]? with
   | some x => ok ⟨x, [], [i]⟩
   | none => no
 | _, _ => no
def aggIdx (t : TypeId) (xs : List SV) (m : Int) : α := match P.underlying t with
 | some (.array n e) => match P.info? e with
  | some ti => match Nat.beq ti.size 1 && isPtrT P e && Nat.beq n xs.length && decide (0 ≤ m), bund xs with
   | true, some j => bundLoad M b ok no xs j m.toNat []
   | _, _ => no
  | none => no
 | _ => no
def selStore (t : TypeId) (i pre k : Nat) (x : SV) : α := match P.info? t, M i with
 | some ti, some (.blk e cs) => match bund (cs.drop pre), x with
  | some j, .ptr q off => match M j with
   | some (.sels ks L) => match structOf ks (M q), Nat.beq off 0 && !(Nat.beq i q) && Nat.beq ti.size 1 && Nat.blt pre cs.length with
    | some (ty, qs, xs), true => match Nat.beq L.length (cs.length - pre) && Nat.blt k (cs.length - pre) with
     | true => ok ⟨.v undef, [(i, .blk e (cs.take pre ++ selList b (cs.length - pre) 0)), (b, .sels ks (L.set k [xs])), (q, .rblk ty qs)], [i, j, q]⟩
     | false => no
    | _, _ => no
   | _ => no
  | _, _ => no
 | _, _ => no
def sliceStep (t : TypeId) (x : SV) (lo hi : Option Operand) : α := match P.underlying t, x with
 | some (.slice e), .row i => match P.info? e, M i with
  | some ti, some (.ro c) => match Nat.beq ti.size c.sz, boundOf E 0 lo, boundOf E (c.n : Int) hi with
   | true, some l, some h => match decide (0 ≤ l) && decide (l ≤ h) && decide (h ≤ (c.n : Int)) with
    | true => ok ⟨.row b, [(b, .ro (c.sub l.toNat h.toNat))], [i]⟩
    | false => no
   | _, _, _ => no
  | some ti, some (.own _ c) => match Nat.beq ti.size c.sz, boundOf E 0 lo, boundOf E (c.n : Int) hi with
   | true, some l, some h => match decide (0 ≤ l) && decide (l ≤ h) && decide (h ≤ (c.n : Int)) with
    | true => ok ⟨.row b, [(b, .ro (c.sub l.toNat h.toNat)), (i, .ro c)], [i]⟩
    | false => no
   | _, _, _ => no
  | some ti, some (.ros xss) => match Nat.beq ti.size 1, boundOf E 0 lo, boundOf E (xss.length : Int) hi with
   | true, some l, some h => match decide (l = 0) && decide (0 ≤ h) && decide (h ≤ (xss.length : Int)) with
    | true => ok ⟨.row b, [(b, .ros (xss.take h.toNat))], [i]⟩
    | false => no
   | _, _, _ => no
  | _, _ => no
 | some (.array n e), .ptr i off => match P.info? e, boundOf E 0 lo, boundOf E (n : Int) hi with
  | some ti, some l, some h => match decide (0 ≤ l) && decide (l ≤ h) && decide (h ≤ (n : Int)) with
   | true => ok ⟨.sl i (match Nat.beq n l.toNat with | true => off | false => off + l.toNat * ti.size) (h.toNat - l.toNat) (n - l.toNat), [], []⟩
   | false => no
  | _, _, _ => no
 | some (.slice _), .v _ => pureStep P o E ok no
 | some .string, .v _ => pureStep P o E ok no
 | _, _ => no
def tailStep (t : TypeId) (x : SV) (lo : Option Operand) : α := match P.underlying t, x with
 | some (.slice e), .row i => match P.info? e, M i with
  | some ti, some (.own _ c) => match Nat.beq ti.size c.sz, boundOf E 0 lo with
   | true, some l => match decide (0 ≤ l) && decide (l ≤ (c.n : Int)) with
    | true => ok ⟨.row b, [(b, .tail i l.toNat (c.n - l.toNat) c.sz)], [i]⟩
    | false => no
   | _, _ => no
  | _, _ => no
 | _, _ => no
def clearStep (t : TypeId) (x : SV) : α := match P.underlying t, x with
 | some (.slice e), .row q => match P.info? e, M q with
  | some ti, some (.tail i lo n sz) => match ti.zero, M i with
   | some z, some (.own e' (.structs ks l)) => match elS ks (z.cells.toList.map SV.v) with
    | some xs => match Nat.beq sz ks.length && Nat.beq z.cells.toList.length ks.length with
     | true => match Nat.beq (lo + n) l.length with
      | true => ok ⟨.v (.tuple #[]), [(i, .own e' (.structs ks (l.take lo ++ List.replicate n xs)))], [q, i]⟩
      | false => no
     | false => no
    | none => no
   | _, _ => no
  | _, _ => no
 | _, _ => no
def cutStep (t : TypeId) (x : SV) (lo hi : Option Operand) : α := match lo with
 | none => match P.underlying t, x with
  | some (.slice e), .row i => match P.info? e, M i with
   | some ti, some (.own e' c) => match Nat.beq ti.size c.sz, boundOf E (c.n : Int) hi with
    | true, some h => match decide (0 ≤ h) && decide (h ≤ (c.n : Int)) with
     | true => ok ⟨.row b, [(b, .own e' (c.sub 0 h.toNat)), (i, .gone)], [i]⟩
     | false => no
    | _, _ => no
   | _, _ => sliceStep P o E M b ok no t x lo hi
  | _, _ => sliceStep P o E M b ok no t x lo hi
 | some _ => sliceStep P o E M b ok no t x lo hi
def zerosStep (t : TypeId) (s x : SV) : α := match P.underlying t, s, x with
 | some (.slice e), .v (.slice none 0 0), .v (.int _ m) => match P.info? e with
  | some ti => match ti.zero with
   | some z => match kindOf0 z, Nat.beq ti.size 1 with
    | some k, true => match decide (0 < m) && decide (m ≤ 9223372036854775807) && Nat.ble (m.toNat * ti.bytes) 140737488355328 with
     | true => ok ⟨.row b, [(b, .own e (.ints k (List.replicate m.toNat 0)))], []⟩
     | false => no
    | _, _ => no
   | none => no
  | none => no
 | _, _, _ => no
def isIntT (P : Program) (t : TypeId) : Bool := match P.underlying t with
 | some (.int _) => true
 | _ => false
def tmpIs (x : Operand) (d : Tmp) : Bool := match x with
 | .tmp t => Nat.beq t d
 | _ => false
def storedIn (d : Tmp) : List Oper → Bool
 | [] => false
 | o :: l => match o.op with
  | .store _ _ y => tmpIs y d || storedIn d l
  | _ => storedIn d l
def madeIn (x : Operand) : List Oper → Bool
 | [] => false
 | o :: l => match o.op, o.dst with
  | .call c, some d => match c.callee with
   | .builtin .append => tmpIs x d || madeIn x l
   | _ => madeIn x l
  | _, _ => madeIn x l
def hasCut (all : List Oper) : List Oper → Bool
 | [] => false
 | o :: l => match o.op, o.dst with
  | .slice _ x none (some _) none, some d => storedIn d all || madeIn x all || hasCut all l
  | _, _ => hasCut all l
def hasClear : List Oper → Bool
 | [] => false
 | o :: l => match o.op with
  | .call c => match c.callee with
   | .builtin .clear => true
   | _ => hasClear l
  | _ => hasClear l
def flagged (l : List Oper) : Bool := hasClear l || hasCut l l
def contOf (M : Nat → Option Res) (k : IntKind) (x : SV) : Option (List Int × List Nat) := match x with
 | .v (.slice none 0 0) => some ([], [])
 | .row i => match M i with
  | some (.ro (.ints q l)) => match decide (q = k) with
   | true => some (l, [i])
   | false => none
  | some (.own _ (.ints q l)) => match decide (q = k) with
   | true => some (l, [i])
   | false => none
  | _ => none
 | .sl i off n cap => match M i with
  | some (.blk _ cs) => match Nat.ble n cap && Nat.ble cap 9223372036854775807 && Nat.ble (off + n) cs.length, ints? k ((cs.drop off).take n) with
   | true, some l => some (l, [i])
   | _, _ => none
  | some (.arr _ m a) => match Nat.ble n cap && Nat.ble cap 9223372036854775807 && Nat.ble (off + n) m, ints? k (((a.toList.drop off).take n).map .v) with
   | true, some l => some (l, [i])
   | _, _ => none
  | _ => none
 | _ => none
def strI (s : ByteArray) : List Int := s.data.toList.map fun b => (b.toNat : Int)
def contApp (M : Nat → Option Res) (k : IntKind) (x : SV) : Option (List Int × List Nat) := match x with
 | .v (.string s) => match decide (k = .u8) with
  | true => some (strI s, [])
  | false => none
 | x => contOf M k x
def cellsApp (M : Nat → Option Res) (x : SV) : Option (List SV × List Nat) := match x with
 | .sl i off n cap => match M i with
  | some (.blk _ cs) => match Nat.ble n cap && Nat.ble cap 9223372036854775807 && Nat.ble (off + n) cs.length && ((cs.drop off).take n).all (oneM M) with
   | true => some ((cs.drop off).take n, i :: rowsIn ((cs.drop off).take n))
   | false => none
  | _ => none
 | _ => none
def appCells (e : TypeId) (bytes : Nat) (s x : SV) : α := match cellsApp M x with
 | some (l2, rd) => match s with
  | .v (.slice none 0 0) => match Nat.ble (l2.length * bytes) 140737488355328 && Nat.ble l2.length 9223372036854775807 with
   | true => ok ⟨.row b, [(b, .ownc e l2)], rd⟩
   | false => no
  | .row i => match M i with
   | some (.ownc e' l1) => match Nat.beq e' e && !(rd.any (Nat.beq i)) with
    | true => match Nat.ble ((l1.length + l2.length) * bytes) 140737488355328 && Nat.ble (l1.length + l2.length) 9223372036854775807 with
     | true => ok ⟨.row b, [(b, .ownc e (l1 ++ l2)), (i, .gone)], i :: rd⟩
     | false => no
    | false => no
   | _ => no
  | _ => no
 | none => no
def poolOf (M : Nat → Option Res) (x : SV) : Option (List (List Int) × List Nat × List (Nat × Res)) := match x with
 | .row q => match M q with
  | some (.ros xss) => some (xss, [q], [])
  | some (.ownp _ j) => match M j with
   | some (.pool xss) => some (xss, [q, j], [])
   | _ => none
  | _ => none
 | .sl q off n cap => match M q with
  | some (.blk _ [.row r]) => match Nat.beq off 0 && Nat.beq n 1 && Nat.beq cap 1 with
   | true => match M r with
    | some (.ro (.ints .u8 l)) => some ([l], [q, r], [])
    | some (.own _ (.ints .u8 l)) => some ([l], [q, r], [(r, .ro (.ints .u8 l))])
    | _ => none
   | false => none
  | _ => none
 | _ => none
def appTo (e : TypeId) (bytes : Nat) (i : Nat) (e' : TypeId) (l1 : List (List Int)) (rd1 : List Nat) (p : List (List Int) × List Nat × List (Nat × Res)) : α := match Nat.beq e' e && !(p.2.1.any (Nat.beq i)) with
 | true => match Nat.ble ((l1.length + p.1.length) * bytes) 140737488355328 && Nat.ble (l1.length + p.1.length) 9223372036854775807 with
  | true => ok ⟨.row b, (b, .ownp e (b + 1)) :: (b + 1, .pool (l1 ++ p.1)) :: (i, .gone) :: p.2.2, rd1 ++ p.2.1⟩
  | false => no
 | false => no
def appRows (e : TypeId) (bytes : Nat) (s x : SV) : α := match s with
 | .row i => match M i with
  | some (.ownp e' j) => match M j, poolOf M x with
   | some (.pool l1), some p => appTo b ok no e bytes i e' l1 [i, j] p
   | _, _ => no
  | some (.ownc e' []) => match x with
   | .row q => match poolOf M (.row q) with
    | some p => appTo b ok no e bytes i e' [] [i] p
    | none => appCells M b ok no e bytes s x
   | _ => appCells M b ok no e bytes s x
  | _ => appCells M b ok no e bytes s x
 | _ => appCells M b ok no e bytes s x
def grpS (ks : List IntKind) : Nat → List SV → Option (List (List Int))
 | 0, _ => some []
 | n + 1, cs => match elS ks cs, grpS ks n (cs.drop ks.length) with
  | some x, some r => some (x :: r)
  | _, _ => none
def contS (M : Nat → Option Res) (ks : List IntKind) (x : SV) : Option (List (List Int) × List Nat) := match x with
 | .v (.slice none 0 0) => some ([], [])
 | .row i => match M i with
  | some (.ro (.structs qs l)) => match decide (qs = ks) with
   | true => some (l, [i])
   | false => none
  | some (.own _ (.structs qs l)) => match decide (qs = ks) with
   | true => some (l, [i])
   | false => none
  | _ => none
 | .sl i off n cap => match M i with
  | some (.blk _ cs) => match Nat.ble n cap && Nat.ble cap 9223372036854775807 && Nat.ble (off + n * ks.length) cs.length, grpS ks n (cs.drop off) with
   | true, some l => some (l, [i])
   | _, _ => none
  | _ => none
 | _ => none
def appS (e : TypeId) (bytes : Nat) (ks : List IntKind) (s x : SV) : α := match contS M ks x with
 | some (l2, rd) => match s with
  | .v (.slice none 0 0) => match Nat.ble (l2.length * bytes) 140737488355328 && Nat.ble l2.length 9223372036854775807 with
   | true => ok ⟨.row b, [(b, .own e (.structs ks l2))], rd⟩
   | false => no
  | .row i => match M i with
   | some (.own e' (.structs qs l1)) => match decide (qs = ks) && Nat.beq e' e && !(rd.any (Nat.beq i)) with
    | true => match Nat.ble ((l1.length + l2.length) * bytes) 140737488355328 && Nat.ble (l1.length + l2.length) 9223372036854775807 with
     | true => ok ⟨.row b, [(b, .own e (.structs ks (l1 ++ l2))), (i, .gone)], i :: rd⟩
     | false => no
    | false => no
   | _ => no
  | .sl i 0 0 0 => match M i with
   | some (.blk e' []) => match Nat.beq e' e && !(rd.any (Nat.beq i)) with
    | true => match Nat.ble (l2.length * bytes) 140737488355328 && Nat.ble l2.length 9223372036854775807 with
     | true => ok ⟨.row b, [(b, .own e (.structs ks l2)), (i, .gone)], i :: rd⟩
     | false => no
    | false => no
   | _ => no
  | _ => no
 | none => no
def dsCells (M : Nat → Option Res) : List DS → List SV → Option (List DD × List Nat × Bool)
 | [], [] => some ([], [], true)
 | f :: fs, x :: cs => match dsCells M fs cs with
  | some (d, rs, a) => match f with
   | .n p => match x with
    | .v (.int q m) => match decide (q = p) with
     | true => some (.n m :: d, rs, a)
     | false => none
    | _ => none
   | .s gs => match x with
    | .v (.slice none 0 0) => some (.s [] :: d, rs, a)
    | .row r => match M r with
     | some (.deep hs l) => match DS.beqs hs gs with
      | true => some (.s l :: d, r :: rs, false)
      | false => none
     | _ => none
    | _ => none
  | none => none
 | _, _ => none
def nilZ (a : Bool) (z : Option Nat) : Option Nat := match a with
 | true => z
 | false => none
def frzC (M : Nat → Option Res) : List DS → List SV → Nat → List SV × Mem × List Nat
 | f :: fs, x :: cs, b => match frzC M fs cs (b + 1) with
  | (cs', fz, rd) => match f, x with
   | .s gs, .row r => match M r with
    | some (.own _ ct) => match contD gs ct, (look fz r).isNone with
     | some dl, true => (.row b :: cs', (b, .deep gs dl) :: (r, .gone) :: fz, r :: rd)
     | _, _ => (x :: cs', fz, r :: rd)
    | some (.ownq _ z j) => match M j with
     | some (.dpool hs l _) => match DS.beqs hs gs && Nat.beq z hs.length && Nat.blt 0 z && (look fz r).isNone && (look fz j).isNone with
      | true => (.row b :: cs', (b, .deep gs l) :: (r, .gone) :: fz, r :: j :: rd)
      | false => (x :: cs', fz, r :: j :: rd)
     | _ => (x :: cs', fz, r :: j :: rd)
    | _ => (x :: cs', fz, r :: rd)
   | _, .row r => (x :: cs', fz, r :: rd)
   | _, _ => (x :: cs', fz, rd)
 | _, cs, _ => (cs, [], rowsIn cs)
def memM (fz : Mem) (M : Nat → Option Res) (i : Nat) : Option Res := match look fz i with
 | some r => some r
 | none => M i
def appQ (e : TypeId) (bytes sz : Nat) (s x : SV) : α := match x, s with
 | .sl q 0 1 1, .row i => match M q, M i with
  | some (.blk _ cs), some (.ownq e' z j) => match M j with
   | some (.dpool fs l zz) => match frzC M fs cs (b + 2) with
    | (cs', fz, rf) => match dsCells (memM fz M) fs cs' with
     | some (d, rs, a) => match Nat.beq e' e && Nat.beq z sz && Nat.beq fs.length sz && Nat.blt 0 sz && Nat.ble fs.length 60 && (look fz i).isNone && (look fz j).isNone && (look fz q).isNone with
      | true => match Nat.ble ((l.length + 1) * bytes) 140737488355328 && Nat.ble (l.length + 1) 9223372036854775807 with
       | true => ok ⟨.row b, [(b, .ownq e' z (b + 1)), (b + 1, .dpool fs (l ++ [d]) (nilZ a zz)), (i, .gone)] ++ fz, i :: j :: q :: rf⟩
       | false => no
      | false => no
     | none => no
   | _ => no
  | _, _ => no
 | _, _ => no
def appTy (P : Program) (t u : TypeId) (x : SV) : Bool := match x with
 | .v (.string _) => isStrT P u
 | _ => Nat.beq t u
def appStep (t u : TypeId) (s x : SV) : α := match P.underlying t, appTy P t u x with
 | some (.slice e), true => match P.info? e with
  | some ti => match ti.zero with
   | some z => match kindOf0 z, Nat.beq ti.size 1 with
    | some k, true => match contApp M k x with
     | some (l2, rd) => match s with
      | .v (.slice none 0 0) => match Nat.ble (l2.length * ti.bytes) 140737488355328 && Nat.ble l2.length 9223372036854775807 with
       | true => ok ⟨.row b, [(b, .own e (.ints k l2))], rd⟩
       | false => no
      | .row i => match M i with
       | some (.own e' (.ints q l1)) => match decide (q = k) && Nat.beq e' e && !(rd.any (Nat.beq i)) with
        | true => match Nat.ble ((l1.length + l2.length) * ti.bytes) 140737488355328 && Nat.ble (l1.length + l2.length) 9223372036854775807 with
         | true => ok ⟨.row b, [(b, .own e (.ints k (l1 ++ l2))), (i, .gone)], i :: rd⟩
         | false => no
        | false => no
       | _ => no
      | _ => no
     | none => no
    | none, true => match Nat.beq t u && Nat.beq z.cells.size 1 with
     | true => appRows M b ok no e ti.bytes s x
     | false => no
    | _, false => match Nat.beq t u, kindsOf P 40 e with
     | true, some ks => match Nat.beq ti.size ks.length && Nat.beq z.cells.size ks.length && Nat.blt 0 ks.length with
      | true => appS M b ok no e ti.bytes ks s x
      | false => no
     | true, none => match Nat.beq z.cells.size ti.size with
      | true => appQ M b ok no e ti.bytes ti.size s x
      | false => no
     | _, _ => no
   | none => no
  | none => no
 | _, _ => no
def toStr (e : TypeId) (x : SV) : α := match isU8 P e, contOf M .u8 x with
 | true, some (l, rd) => ok ⟨.v (.string (strOfNums l)), [], rd⟩
 | _, _ => no
def convStep (src dst : TypeId) (x : SV) : α := match P.underlying src, P.underlying dst, x with
 | some .string, some (.slice e), .v (.string s) => match isU8 P e && Nat.ble s.size 9223372036854775807 with
  | true => ok ⟨.row b, [(b, .ro (.ints .u8 (strI s)))], []⟩
  | false => no
 | some (.slice e), some .string, .row i => toStr P M ok no e (.row i)
 | some (.slice e), some .string, .sl i o l c => toStr P M ok no e (.sl i o l c)
 | some (.slice _), some (.slice e), .row i => match M i with
  | some (.own _ (.ints q l)) => match Nat.beq src dst && isU8 P e && decide (q = .u8) && Nat.blt 0 l.length with
   | true => ok ⟨.row i, [(i, .ro (.ints .u8 l))], [i]⟩
   | false => no
  | _ => no
 | _, _, _ => pureStep P o E ok no
def cpGo (l0 : List Int) (off n : Nat) (l : List Int) : Nat → Nat → List Int
 | 0, _ => []
 | m + 1, j => (bif Nat.ble off j && Nat.blt j (off + n) && Nat.blt (j - off) l.length then l.getD (j - off) 0 else l0.getD j 0) :: cpGo l0 off n l m (j + 1)
def copyStep (t : TypeId) (d x : SV) : α := match P.underlying t, d with
 | some (.slice e), .sl i off n cap => match P.info? e, M i with
  | some ti, some (.arr et m a) => match Nat.beq ti.size 1 && Nat.ble (off + n) m, ints? .u8 (a.toList.map .v), contOf M .u8 x with
   | true, some l0, some (l, rd) => match rd.any (Nat.beq i) with
    | false => ok ⟨.v (.int .i64 (Nat.min l.length n)), [(i, .arr et m ((cpGo l0 off n l m 0).map (Value.int .u8)).toArray)], i :: rd⟩
    | true => no
   | _, _, _ => no
  | _, _ => no
 | _, _ => no
def zeroF (t : TypeId) : Bool := match P.info? t with
 | some ti => match ti.zero with
  | some (.bool c) => !c
  | _ => false
 | none => false
def mapKT (t : TypeId) : Option (List IntKind) := match P.underlying t with
 | some (.map k e) => match isAggT P k && zeroF P e with
  | true => kindsOf P 40 k
  | false => none
 | _ => none
def memK (ks : List IntKind) (l : List (List Int)) (x : List Int) : Bool := l.any fun z => eqv (ecells ks x) (ecells ks z)
def mapStep (t : TypeId) : α := match mapKT P t with
 | some ks => ok ⟨.row b, [(b, .mp ks [])], []⟩
 | none => no
def lookStep (t : TypeId) (c : Bool) (x y : SV) : α := match c, mapKT P t, x, y with
 | false, some ks, .row i, .v (.agg v) => match M i with
  | some (.mp qs l) => match elS ks (v.toList.map SV.v) with
   | some xs => match decide (qs = ks) && Nat.beq v.toList.length ks.length with
    | true => ok ⟨.v (.bool (memK ks l xs)), [], [i]⟩
    | false => no
   | none => no
  | _ => no
 | _, _, _, _ => no
def updStep (t : TypeId) (x y z : SV) : α := match mapKT P t, x, y, z with
 | some ks, .row i, .v (.agg v), .v (.bool c) => match M i with
  | some (.mp qs l) => match elS ks (v.toList.map SV.v) with
   | some xs => match decide (qs = ks) && Nat.beq v.toList.length ks.length && c with
    | true => match memK ks l xs with
     | true => no
     | false => ok ⟨.v undef, [(i, .mp ks (l ++ [xs]))], [i]⟩
    | false => no
   | none => no
  | _ => no
 | _, _, _, _ => no
def callStep (f : FuncId) (args : List SV) : α := match sp f with
 | some s => match s.fits args M with
  | true => selK (s.sel args M) fun bs => ok ⟨(s.outs args M bs b).1, (s.outs args M bs b).2, s.rd args M⟩
  | false => no
 | none => no
def fnOf : SV → Option (FuncId × List SV)
 | .v (.func (.func f) ⟨[]⟩ ⟨[]⟩) => some (f, [])
 | .fn (.func f) caps => some (f, caps)
 | _ => none
def step (tl : Bool) : α := match o.op with
 | .move x | .assign x => match ev E x with
  | some y => ok ⟨y, [], []⟩
  | none => no
 | .pick c x y => match ev E c, ev E x, ev E y with
  | some (.v (.bool t)), some (.v (.bool p)), some (.v (.bool q)) => ok ⟨.v (.bool (bif t then p else q)), [], []⟩
  | some (.v (.bool t)), some p, some q => match t with
   | true => ok ⟨p, [], []⟩
   | false => ok ⟨q, [], []⟩
  | _, _, _ => no
 | .alloc e => match P.info? e with
  | some ti => match ti.zero with
   | some z => boxStep P M b ok no e (.v z)
   | none => no
  | none => no
 | .box e x => match ev E x with
  | some y => boxStep P M b ok no e y
  | none => no
 | .load t x => match ev E x with
  | some (.ptr i off) => loadStep P M ok no t i off
  | some (.el i sz k c) => elLoad P M b ok no t i sz k c
  | some (.selp i pre k) => selLoad P M b ok no t i pre k
  | _ => no
 | .store t x y => match ev E x, ev E y with
  | some (.ptr i off), some z => storeStep P M ok no t i off z
  | some (.el i sz k c), some z => match holed (M i) with
   | true => holeStore P M b ok no t i sz k c z
   | false => elStore P M ok no t i sz k c z
  | some (.selp i pre k), some z => selStore P M b ok no t i pre k z
  | _, _ => no
 | .nilCheck x => match ev E x with
  | some (.ptr i off) => ok ⟨.ptr i off, [], []⟩
  | some (.fn f caps) => match f with
   | .func g => ok ⟨.fn (.func g) caps, [], []⟩
   | _ => no
  | some (.row i) => derefStep M ok no i
  | some (.el i sz k c) => elNil M ok no i sz k c
  | _ => pureStep P o E ok no
 | .fieldAddr s x f => match ev E x with
  | some p => fieldStep P M ok no s p f
  | none => no
 | .extract x k => match ev E x with
  | some (.tup l) => match l[k]? with
   | some y => ok ⟨y, [], []⟩
   | none => no
  | _ => pureStep P o E ok no
 | .call c => match c.callee with
  | .value f => match ev E f with
   | some fv => match fnOf fv, evs E c.args.toList with
    | some (g, caps), some args => callStep sp M b ok no g (args ++ caps)
    | _, _ => no
   | none => no
  | .builtin .len => match c.argTypes.toList, evs E c.args.toList with
   | [t], some [x] => lenStep P o E M ok no t x
   | _, _ => no
  | .builtin .append => match c.argTypes.toList, evs E c.args.toList with
   | [t, u], some [s, x] => match isIntT P u with
    | true => zerosStep P b ok no t s x
    | false => appStep P M b ok no t u s x
   | _, _ => no
  | .builtin .copy => match c.argTypes.toList, evs E c.args.toList with
   | [t, _], some [d, x] => copyStep P M ok no t d x
   | _, _ => no
  | .builtin .cap => pureStep P o E ok no
  | .builtin .clear => match c.argTypes.toList, evs E c.args.toList with
   | [t], some [x] => clearStep P M ok no t x
   | _, _ => no
  | .builtin .min => pureStep P o E ok no
  | .builtin .max => pureStep P o E ok no
  | _ => no
 | .binOp op t x y _ => match ev E x, ev E y with
  | some (.row i), some (.v (.slice none 0 0)) => nilStep P M ok no op t i
  | some (.row i), some (.v (.pointer none)) => optStep P M ok no op t i
  | some u, some v => binStep P o E ok no op t u v
  | _, _ => no
 | .indexAddr t x y => match ev E x, ev E y with
  | some u, some v => idxStep P M ok no t u v
  | _, _ => no
 | .makeSlice t x y => match ev E x, ev E y with
  | some u, some v => makeStep P b ok no t u v
  | _, _ => no
 | .buildSlice t len parts => litStep P E M b ok no t len parts
 | .slice t x lo hi none => match ev E x with
  | some u => match tl, hi with
   | true, none => tailStep P E M b ok no t u lo
   | true, some h => cutStep P o E M b ok no t u lo (some h)
   | false, _ => sliceStep P o E M b ok no t u lo hi
  | none => no
 | .makeFunc fn first captured => match first.toList, evs E captured.toList with
  | [], some caps => ok ⟨.fn fn caps, [], []⟩
  | _, _ => no
 | .convert s d x => match ev E x with
  | some u => convStep P o E M b ok no s d u
  | none => no
 | .build t parts => match o.op.operands.toList.all fun x => isReal (ev E x) with
  | true => pureStep P o E ok no
  | false => buildStep P E M ok no t parts
 | .index t x y => match ev E x, ev E y with
  | some (.agg xs), some (.v (.int _ m)) => aggIdx P M b ok no t xs m
  | _, _ => pureStep P o E ok no
 | .makeMap t none => mapStep P b ok no t
 | .lookup t x y c => match ev E x, ev E y with
  | some u, some v => lookStep P M ok no t c u v
  | _, _ => no
 | .mapUpdate t x y z => match ev E x, ev E y, ev E z with
  | some u, some v, some s => updStep P M ok no t u v s
  | _, _, _ => no
 | .unOp .. | .field .. => pureStep P o E ok no
 | _ => no
end
end

/-! The two uses: as a value, and as a way on. -/
section
variable {P : Program} {sp : FuncId → Option Spec} {o : Oper} {E : Nat → Option SV} {M : Nat → Option Res} {b : Nat} {α β : Type} (φ : α → β) (ok : Rec → α) (no : α)
theorem pure_elim : φ (pureStep P o E ok no) = pureStep P o E (fun r => φ (ok r)) (φ no) := by
 unfold pureStep; repeat' (first | rfl | split)
theorem boxStep_elim (e : TypeId) (x : SV) : φ (boxStep P M b ok no e x) = boxStep P M b (fun r => φ (ok r)) (φ no) e x := by
 unfold boxStep; repeat' (first | rfl | split)
theorem loadStep_elim (t : TypeId) (i off : Nat) : φ (loadStep P M ok no t i off) = loadStep P M (fun r => φ (ok r)) (φ no) t i off := by
 unfold loadStep; repeat' (first | rfl | split)
theorem storeStep_elim (t : TypeId) (i off : Nat) (x : SV) : φ (storeStep P M ok no t i off x) = storeStep P M (fun r => φ (ok r)) (φ no) t i off x := by
 unfold storeStep; repeat' (first | rfl | split)
theorem fieldStep_elim (s : TypeId) (p : SV) (f : Nat) : φ (fieldStep P M ok no s p f) = fieldStep P M (fun r => φ (ok r)) (φ no) s p f := by
 unfold fieldStep; repeat' (first | rfl | split)
theorem eqStep_elim (neg : Bool) (t : TypeId) (a c : Array Value) : φ (eqStep P ok no neg t a c) = eqStep P (fun r => φ (ok r)) (φ no) neg t a c := by
 unfold eqStep; repeat' (first | rfl | split)
theorem binStep_elim (op : BinOp) (t : TypeId) (x y : SV) : φ (binStep P o E ok no op t x y) = binStep P o E (fun r => φ (ok r)) (φ no) op t x y := by
 unfold binStep; repeat' (first | rfl | exact eqStep_elim φ ok no _ _ _ _ | exact pure_elim φ ok no | split)
theorem optStep_elim (op : BinOp) (t : TypeId) (i : Nat) : φ (optStep P M ok no op t i) = optStep P M (fun r => φ (ok r)) (φ no) op t i := by
 unfold optStep; repeat' (first | rfl | split)
theorem elNil_elim (i sz k c : Nat) : φ (elNil M ok no i sz k c) = elNil M (fun r => φ (ok r)) (φ no) i sz k c := by
 unfold elNil; repeat' (first | rfl | split)
theorem derefStep_elim (i : Nat) : φ (derefStep M ok no i) = derefStep M (fun r => φ (ok r)) (φ no) i := by
 unfold derefStep; repeat' (first | rfl | split)
theorem nilStep_elim (op : BinOp) (t : TypeId) (i : Nat) : φ (nilStep P M ok no op t i) = nilStep P M (fun r => φ (ok r)) (φ no) op t i := by
 unfold nilStep; repeat' (first | rfl | split)
theorem lenStep_elim (t : TypeId) (x : SV) : φ (lenStep P o E M ok no t x) = lenStep P o E M (fun r => φ (ok r)) (φ no) t x := by
 unfold lenStep; repeat' (first | rfl | exact pure_elim φ ok no | split)
theorem elAt_elim (i sz n : Nat) (m : Int) : φ (elAt  ok no i sz n m) = elAt  (fun r => φ (ok r)) (φ no) i sz n m := by
 unfold elAt; repeat' (first | rfl | split)
theorem pickN_elim (m : Int) (f : Nat → α) : ∀ (n j : Nat), φ (pickN no m f n j) = pickN (φ no) m (fun q => φ (f q)) n j
 | 0, _ => rfl
 | n + 1, j => by unfold pickN; split; rfl; exact pickN_elim m f n (j + 1)
theorem idxStep_elim (t : TypeId) (x y : SV) : φ (idxStep P M ok no t x y) = idxStep P M (fun r => φ (ok r)) (φ no) t x y := by
 unfold idxStep; repeat' (first | rfl | exact elAt_elim φ ok no _ _ _ _ | exact pickN_elim φ no _ _ _ _ | split)
theorem cellLoad_elim (t : TypeId) (i sz k c : Nat) (ct : Cont) : φ (cellLoad P ok no t i sz k c ct) = cellLoad P (fun r => φ (ok r)) (φ no) t i sz k c ct := by
 unfold cellLoad; repeat' (first | rfl | split)
theorem deepLoad_elim (t : TypeId) (rd : List Nat) (sz k c : Nat) (fs : List DS) (l : List (List DD)) : φ (deepLoad P b ok no t rd sz k c fs l) = deepLoad P b (fun r => φ (ok r)) (φ no) t rd sz k c fs l := by
 unfold deepLoad; repeat' (first | rfl | split)
theorem elLoad_elim (t : TypeId) (i sz k c : Nat) : φ (elLoad P M b ok no t i sz k c) = elLoad P M b (fun r => φ (ok r)) (φ no) t i sz k c := by
 unfold elLoad; repeat' (first | rfl | exact cellLoad_elim φ ok no _ _ _ _ _ _ | exact deepLoad_elim φ ok no _ _ _ _ _ _ _ | split)
theorem elStore_elim (t : TypeId) (i sz k c : Nat) (x : SV) : φ (elStore P M ok no t i sz k c x) = elStore P M (fun r => φ (ok r)) (φ no) t i sz k c x := by
 unfold elStore; repeat' (first | rfl | split)
theorem holeStore_elim (t : TypeId) (i sz k c : Nat) (x : SV) : φ (holeStore P M b ok no t i sz k c x) = holeStore P M b (fun r => φ (ok r)) (φ no) t i sz k c x := by
 unfold holeStore; repeat' (first | rfl | split)
theorem bundLoad_elim (cs : List SV) (j k : Nat) (rd : List Nat) : φ (bundLoad M b ok no cs j k rd) = bundLoad M b (fun r => φ (ok r)) (φ no) cs j k rd := by
 unfold bundLoad; repeat' (first | rfl | split)
theorem selLoad_elim (t : TypeId) (i pre k : Nat) : φ (selLoad P M b ok no t i pre k) = selLoad P M b (fun r => φ (ok r)) (φ no) t i pre k := by
 unfold selLoad; repeat' (first | rfl | exact bundLoad_elim φ ok no _ _ _ _ | split)
theorem aggIdx_elim (t : TypeId) (xs : List SV) (m : Int) : φ (aggIdx P M b ok no t xs m) = aggIdx P M b (fun r => φ (ok r)) (φ no) t xs m := by
 unfold aggIdx; repeat' (first | rfl | exact bundLoad_elim φ ok no _ _ _ _ | split)
theorem selStore_elim (t : TypeId) (i pre k : Nat) (x : SV) : φ (selStore P M b ok no t i pre k x) = selStore P M b (fun r => φ (ok r)) (φ no) t i pre k x := by
 unfold selStore; repeat' (first | rfl | split)
theorem sliceStep_elim (t : TypeId) (x : SV) (lo hi : Option Operand) : φ (sliceStep P o E M b ok no t x lo hi) = sliceStep P o E M b (fun r => φ (ok r)) (φ no) t x lo hi := by
 unfold sliceStep; repeat' (first | rfl | exact pure_elim φ ok no | split)
theorem cutStep_elim (t : TypeId) (x : SV) (lo hi : Option Operand) : φ (cutStep P o E M b ok no t x lo hi) = cutStep P o E M b (fun r => φ (ok r)) (φ no) t x lo hi := by
 unfold cutStep; repeat' (first | rfl | exact sliceStep_elim φ ok no _ _ _ _ | split)
theorem zerosStep_elim (t : TypeId) (s x : SV) : φ (zerosStep P b ok no t s x) = zerosStep P b (fun r => φ (ok r)) (φ no) t s x := by
 unfold zerosStep; repeat' (first | rfl | split)
theorem copyStep_elim (t : TypeId) (d x : SV) : φ (copyStep P M ok no t d x) = copyStep P M (fun r => φ (ok r)) (φ no) t d x := by
 unfold copyStep; repeat' (first | rfl | split)
theorem makeStep_elim (t : TypeId) (x y : SV) : φ (makeStep P b ok no t x y) = makeStep P b (fun r => φ (ok r)) (φ no) t x y := by
 unfold makeStep; repeat' (first | rfl | split)
theorem litStep_elim (t : TypeId) (len : Nat) (parts : Array (Nat × Operand)) : φ (litStep P E M b ok no t len parts) = litStep P E M b (fun r => φ (ok r)) (φ no) t len parts := by
 unfold litStep; repeat' (first | rfl | split)
theorem buildStep_elim (t : TypeId) (parts : Array (Nat × Operand)) : φ (buildStep P E M ok no t parts) = buildStep P E M (fun r => φ (ok r)) (φ no) t parts := by
 unfold buildStep; repeat' (first | rfl | split)
theorem tailStep_elim (t : TypeId) (x : SV) (lo : Option Operand) : φ (tailStep P E M b ok no t x lo) = tailStep P E M b (fun r => φ (ok r)) (φ no) t x lo := by
 unfold tailStep; repeat' (first | rfl | split)
theorem clearStep_elim (t : TypeId) (x : SV) : φ (clearStep P M ok no t x) = clearStep P M (fun r => φ (ok r)) (φ no) t x := by
 unfold clearStep; repeat' (first | rfl | split)
theorem appCells_elim (e : TypeId) (n : Nat) (s x : SV) : φ (appCells M b ok no e n s x) = appCells M b (fun r => φ (ok r)) (φ no) e n s x := by
 unfold appCells; repeat' (first | rfl | split)
theorem appTo_elim (e : TypeId) (bytes i : Nat) (e' : TypeId) (l1 : List (List Int)) (rd1 : List Nat) (p : List (List Int) × List Nat × List (Nat × Res)) : φ (appTo b ok no e bytes i e' l1 rd1 p) = appTo b (fun r => φ (ok r)) (φ no) e bytes i e' l1 rd1 p := by
 unfold appTo; repeat' (first | rfl | split)
theorem appRows_elim (e : TypeId) (n : Nat) (s x : SV) : φ (appRows M b ok no e n s x) = appRows M b (fun r => φ (ok r)) (φ no) e n s x := by
 unfold appRows; repeat' (first | rfl | exact appCells_elim φ ok no _ _ _ _ | exact appTo_elim φ ok no _ _ _ _ _ _ _ | split)
theorem appS_elim (e : TypeId) (bytes : Nat) (ks : List IntKind) (s x : SV) : φ (appS M b ok no e bytes ks s x) = appS M b (fun r => φ (ok r)) (φ no) e bytes ks s x := by
 unfold appS; repeat' (first | rfl | split)
theorem appQ_elim (e : TypeId) (bytes sz : Nat) (s x : SV) : φ (appQ M b ok no e bytes sz s x) = appQ M b (fun r => φ (ok r)) (φ no) e bytes sz s x := by
 unfold appQ; repeat' (first | rfl | split)
theorem appStep_elim (t u : TypeId) (s x : SV) : φ (appStep P M b ok no t u s x) = appStep P M b (fun r => φ (ok r)) (φ no) t u s x := by
 unfold appStep; repeat' (first | rfl | exact appQ_elim φ ok no _ _ _ _ _ | exact appRows_elim φ ok no _ _ _ _ | exact appS_elim φ ok no _ _ _ _ _ | split)
theorem toStr_elim (e : TypeId) (x : SV) : φ (toStr P M ok no e x) = toStr P M (fun r => φ (ok r)) (φ no) e x := by
 unfold toStr; repeat' (first | rfl | split)
theorem convStep_elim (s d : TypeId) (x : SV) : φ (convStep P o E M b ok no s d x) = convStep P o E M b (fun r => φ (ok r)) (φ no) s d x := by
 unfold convStep; repeat' (first | rfl | exact pure_elim φ ok no | exact toStr_elim φ ok no _ _ | split)
theorem callStep_elim (f : FuncId) (args : List SV) : φ (callStep sp M b ok no f args) = callStep sp M b (fun r => φ (ok r)) (φ no) f args := by
 unfold callStep; simp only [selK_eq]; repeat' (first | rfl | split)
theorem mapStep_elim (t : TypeId) : φ (mapStep P b ok no t) = mapStep P b (fun r => φ (ok r)) (φ no) t := by
 unfold mapStep; repeat' (first | rfl | split)
theorem lookStep_elim (t : TypeId) (c : Bool) (x y : SV) : φ (lookStep P M ok no t c x y) = lookStep P M (fun r => φ (ok r)) (φ no) t c x y := by
 unfold lookStep; repeat' (first | rfl | split)
theorem updStep_elim (t : TypeId) (x y z : SV) : φ (updStep P M ok no t x y z) = updStep P M (fun r => φ (ok r)) (φ no) t x y z := by
 unfold updStep; repeat' (first | rfl | split)
theorem step_elim (tl : Bool) : φ (step P sp o E M b ok no tl) = step P sp o E M b (fun r => φ (ok r)) (φ no) tl := by
 unfold step
 repeat' (first | rfl | exact mapStep_elim φ ok no _ | exact lookStep_elim φ ok no _ _ _ _ | exact updStep_elim φ ok no _ _ _ _ | exact pure_elim φ ok no | exact boxStep_elim φ ok no _ _ | exact loadStep_elim φ ok no _ _ _ | exact storeStep_elim φ ok no _ _ _ _ | exact fieldStep_elim φ ok no _ _ _ | exact eqStep_elim φ ok no _ _ _ _ | exact binStep_elim φ ok no _ _ _ _ | exact lenStep_elim φ ok no _ _ | exact nilStep_elim φ ok no _ _ _ | exact optStep_elim φ ok no _ _ _ | exact derefStep_elim φ ok no _ | exact elNil_elim φ ok no _ _ _ _ | exact convStep_elim φ ok no _ _ _ | exact elAt_elim φ ok no _ _ _ _ | exact idxStep_elim φ ok no _ _ _ | exact cellLoad_elim φ ok no _ _ _ _ _ _ | exact elLoad_elim φ ok no _ _ _ _ _ | exact elStore_elim φ ok no _ _ _ _ _ _ | exact holeStore_elim φ ok no _ _ _ _ _ _ | exact selLoad_elim φ ok no _ _ _ _ | exact aggIdx_elim φ ok no _ _ _ | exact selStore_elim φ ok no _ _ _ _ _ | exact makeStep_elim φ ok no _ _ _ | exact litStep_elim φ ok no _ _ _ | exact buildStep_elim φ ok no _ _ | exact tailStep_elim φ ok no _ _ _ | exact cutStep_elim φ ok no _ _ _ _ | exact zerosStep_elim φ ok no _ _ _ | exact copyStep_elim φ ok no _ _ _ | exact clearStep_elim φ ok no _ _ | exact sliceStep_elim φ ok no _ _ _ _ | exact appStep_elim φ ok no _ _ _ _ | exact callStep_elim φ ok no _ _ | split)
end
theorem step_some {P : Program} {sp : FuncId → Option Spec} {o : Oper} {E : Nat → Option SV} {M : Nat → Option Res} {b : Nat} {K : Rec → Prop} {tl : Bool} (h : step P sp o E M b K False tl) :
  ∃ r, step P sp o E M b some none tl = some r ∧ K r := by
 have e := step_elim (P := P) (sp := sp) (o := o) (E := E) (M := M) (b := b) (fun x : Option Rec => match x with | some r => K r | none => False) some none tl
 simp only at e
 rw [← e] at h
 cases hs : step P sp o E M b some none tl with
 | none => rw [hs] at h; exact h.elim
 | some r => rw [hs] at h; exact ⟨r, rfl, h⟩
end Sx

/- One operation: what the symbolic step tells is so. -/
namespace Sx
open Go
set_option linter.unusedVariables false

structure SpecOK (I : Interp) (P : Program) (f : FuncId) (s : Spec) : Prop where
 enters : ∀ (args : Array Value) (w : World), (callFunc f args).run P w = .ok (.enter f args) w
 calls : ∀ (γ : Vn) (D : Nat → Bool) (M : Nat → Option Res) (args : List SV) (w : World) (b : Nat), MSat I γ M w → (∀ i r, M i = some r → D i = true ∧ r.ids D = true) → SV.idss D args = true → (∀ i, fresh b i = true → D i = false) →
  Amb I γ M w → s.fits args M = true →
  Calls P f (SV.dens γ args).toArray w fun e w' => ∃ γ', e = .returned ((s.out args M b).1.den γ') ∧ Agree (D · = true) γ γ' ∧
   MSat I γ' (fun i => (look (s.out args M b).2 i).or (M i)) w' ∧
   (∀ i r x, look (s.out args M b).2 i = some r → r.foot γ' i x → w.heap.size ≤ x ∨ ∃ j q, M j = some q ∧ (r.mut = true → q.mut = true) ∧ q.foot γ j x) ∧
   Fr (fun x => ∃ i q, (look (s.out args M b).2 i).isSome = true ∧ M i = some q ∧ q.mut = true ∧ q.foot γ i x) w w'

def putE (E : Nat → Option SV) (d : Option Tmp) (v : SV) : Nat → Option SV := match d with
 | none => E
 | some d => fun t => if d = t then some v else E t
def updM (effs : List (Nat × Res)) (M : Nat → Option Res) : Nat → Option Res := fun i => (look effs i).or (M i)
def both (D : Nat → Bool) (b : Nat) (i : Nat) : Bool := D i || fresh b i

section
variable {I : Interp} {P : Program} {N : Nat} {w0 : World} {S0 : Ft} {γ : Vn} {D : Nat → Bool} {E : Nat → Option SV} {M : Nat → Option Res} {a : Act} {w : World}
theorem eval_of (hs : Sat I N w0 S0 γ D E M a w) {x : Operand} {y : SV} (h : ev E x = some y) : a.eval x = y.den γ := by
 cases x with
 | tmp t => simp only [ev] at h; have := hs.env t y h; simp [Act.eval, this]
 | const v => simp only [ev, zsI] at h; subst h; simp [Act.eval, SV.den]
 | global g => simp only [ev, zsI] at h; subst h; simp [Act.eval, SV.den]
 | func f => simp only [ev, zsI] at h; subst h; simp [Act.eval, SV.den, SV.dens]
theorem ids_of (hs : Sat I N w0 S0 γ D E M a w) {x : Operand} {y : SV} (h : ev E x = some y) : y.ids D = true := by
 cases x with
 | tmp t => exact hs.eids t y h
 | const v => simp only [ev, zsI] at h; subst h; simp [SV.ids]
 | global g => simp only [ev, zsI] at h; subst h; simp [SV.ids]
 | func f => simp only [ev, zsI] at h; subst h; simp [SV.ids, SV.idss]
theorem evals_of (hs : Sat I N w0 S0 γ D E M a w) : ∀ {xs : List Operand} {ys : List SV}, evs E xs = some ys → xs.map a.eval = SV.dens γ ys ∧ SV.idss D ys = true
 | [], ys, h => by simp only [evs, zsI] at h; subst h; simp [SV.dens, SV.idss]
 | x :: xs, ys, h => by
  simp only [evs] at h
  split at h
  ·rename_i y hy
   split at h
   ·rename_i zs hz
    simp only [zsI] at h
    subst h
    obtain ⟨h1, h2⟩ := evals_of hs hz
    simp [SV.dens, SV.idss, eval_of hs hy, h1, ids_of hs hy, h2]
   ·cases h
  ·cases h
theorem both_mono (D : Nat → Bool) (b : Nat) : ∀ i, D i = true → both D b i = true := fun i h => by simp [both, h]
theorem put_get {a : Act} {d : Option Tmp} {v : Value} {t : Tmp} (hd : ∀ x, d = some x → x < a.tmps.size) :
  (a.put d v).tmps[t]? = if d = some t then some v else a.tmps[t]? := by
 cases d with
 | none => simp [Act.put]
 | some x =>
  have := hd x rfl
  simp only [Act.put, Array.getElem?_setIfInBounds, zsI]
  split
  ·rename_i h; subst h; first | rfl | rw [if_pos this]
  ·rfl
theorem sat_put (hs : Sat I N w0 S0 γ D E M a w) {γ' : Vn} (hγ : Agree (D · = true) γ γ') {b : Nat} {effs : List (Nat × Res)} {d : Option Tmp} (hd : ∀ x, d = some x → x < N) {v : SV} {w' : World}
  (hv : v.ids (both D b) = true) (he : ∀ i r, look effs i = some r → both D b i = true ∧ r.ids (both D b) = true) (hm : MSat I γ' (updM effs M) w') (hf : Fr S0.w w0 w')
  (ho : ∀ i r x, look effs i = some r → r.foot γ' i x → w0.heap.size ≤ x ∨ S0.w x ∨ (r.mut = false ∧ S0.r x)) :
  Sat I N w0 S0 γ' (both D b) (putE E d v) (updM effs M) (a.put d (v.den γ')) w' where
 env t x h := by
  rw [put_get (fun x hx => by rw [hs.size]; exact hd x hx)]
  cases d with
  | none =>
   simp only [putE] at h
   simp only [reduceCtorEq, if_false]
   rw [SV.den_agree hγ x (hs.eids t x h)]
   exact hs.env t x h
  | some d =>
   simp only [putE] at h
   by_cases hdt : d = t
   ·subst hdt; rw [if_pos rfl] at h ⊢; simp only [zsI] at h; rw [h]
   ·rw [if_neg hdt] at h
    rw [if_neg (by simpa using hdt)]
    rw [SV.den_agree hγ x (hs.eids t x h)]
    exact hs.env t x h
 eids t x h := by
  cases d with
  | none => exact SV.ids_mono (both_mono D b) x (hs.eids t x h)
  | some d =>
   simp only [putE] at h
   by_cases hdt : d = t
   ·rw [if_pos hdt] at h; simp only [zsI] at h; subst h; exact hv
   ·rw [if_neg hdt] at h; exact SV.ids_mono (both_mono D b) x (hs.eids t x h)
 mem := hm
 mids i r h := by
  simp only [updM] at h
  cases hl : look effs i with
  | some q => rw [hl] at h; simp only [Option.some_or, zsI] at h; subst h; exact he i q hl
  | none =>
   rw [hl] at h
   simp only [Option.none_or] at h
   obtain ⟨h1, h2⟩ := hs.mids i r h
   refine ⟨both_mono D b i h1, ?_⟩
   cases r <;> first | exact SV.idss_mono (both_mono D b) _ h2 | rfl
 fr := hf
 own i r x h hx := by
  simp only [updM] at h
  cases hl : look effs i with
  | some q => rw [hl] at h; simp only [Option.some_or, zsI] at h; subst h; exact ho i q x hl hx
  | none =>
   rw [hl] at h
   simp only [Option.none_or] at h
   rw [foot_agree hγ (hs.mids i r h).1 r] at hx
   exact hs.own i r x h hx
 size := by cases d <;> simp [Act.put, hs.size]
 defers := by cases d <;> simp [Act.put, hs.defers]
 amb := hs.amb

def Done (I : Interp) (N : Nat) (w0 : World) (S0 : Ft) (γ : Vn) (D : Nat → Bool) (E : Nat → Option SV) (M : Nat → Option Res) (b : Nat) (d : Option Tmp) (r : Rec) (a' : Act) (w' : World) : Prop :=
 ∃ γ', Agree (D · = true) γ γ' ∧ Sat I N w0 S0 γ' (both D b) (putE E d r.v) (updM r.effs M) a' w'
structure RecIn (D : Nat → Bool) (b : Nat) (r : Rec) : Prop where
 v : r.v.ids (both D b) = true
 effs : ∀ i x, look r.effs i = some x → both D b i = true ∧ x.ids (both D b) = true

theorem done_val (hs : Sat I N w0 S0 γ D E M a w) {b : Nat} {o : Oper} (hd : ∀ x, o.dst = some x → x < N) {v : SV} {rd : List Nat} (hr : RecIn D b ⟨v, [], rd⟩)
  (hrun : (execOp a.eval o).run P w = .ok (.value (v.den γ)) w) {Q : Exit → Act → World → Prop} : o.wp P a w (Done I N w0 S0 γ D E M b o.dst ⟨v, [], rd⟩) Q := by
 unfold Oper.wp
 rw [hrun, Oper.upon_value]
 refine ⟨γ, Agree.refl _ _, sat_put hs (Agree.refl _ _) hd hr.v hr.effs ?_ hs.fr (fun i r x h => by simp [look] at h)⟩
 have : updM [] M = M := by funext i; simp [updM, look]
 rw [this]; exact hs.mem

def Vn.blk' (γ : Vn) (b g : Nat) : Vn := { γ with blk := fun i => if i = b then g else γ.blk i }
theorem blk'_agree {γ : Vn} {D : Nat → Bool} {b g : Nat} (h : D b = false) : Agree (D · = true) γ (γ.blk' b g) :=
 ⟨fun i hi => by (have : i ≠ b := fun e => (by subst e; rw [h] at hi; cases hi)); simp [Vn.blk', this], fun _ _ => rfl, fun _ _ => rfl⟩
theorem fresh_self (b : Nat) : fresh b b = true := by simp [fresh]
theorem alloc_old (w : World) (o : Obj) {k : Nat} (h : k < w.heap.size) : (w.alloc o).heap[k]? = w.heap[k]? := Go.RowKit.Below.heap_alloc w o k h
theorem fr_alloc (S : Nat → Prop) (w : World) (o : Obj) : Fr S w (w.alloc o) :=
 ⟨rfl, rfl, rfl, by show _ ≤ (w.heap.push o).size; simp, fun b hb _ => alloc_old w o hb⟩
theorem alloc_new (w : World) (o : Obj) : (w.alloc o).heap[w.heap.size]? = some o := by show (w.heap.push o)[w.heap.size]? = _; simp
theorem msat_new (hs : MSat I γ M w) (hm : ∀ i r, M i = some r → D i = true ∧ r.ids D = true) {γ' : Vn} (hγ : Agree (D · = true) γ γ') {b : Nat} (hb : D b = false) {res : Res} {w' : World} {S : Nat → Prop} (hf : Fr S w w') (hS : ∀ x, ¬ S x ∨ w.heap.size ≤ x)
  (hok : ResOK I γ' b w' res) (hfoot : ∀ x, res.foot γ' b x → w.heap.size ≤ x ∧ x < w'.heap.size) : MSat I γ' (updM [(b, res)] M) w' := by
 have old : ∀ i r, i ≠ b → updM [(b, res)] M i = some r → M i = some r := fun i r hi h => by
  unfold updM at h; rw [look_cons, if_neg (Ne.symm hi)] at h; exact h
 have new : ∀ r, updM [(b, res)] M b = some r → r = res := fun r h => by
  unfold updM at h; rw [look_cons, if_pos rfl] at h; exact (Option.some.inj h).symm
 have lowM : ∀ i r x, M i = some r → r.foot γ' i x → x < w.heap.size := fun i r x h hx => by
  rw [foot_agree hγ (hm i r h).1 r] at hx; exact hs.low i r x h hx
 refine ⟨fun i r h => ?_, fun i r x h hx => ?_, fun i j ri rj x hij hi hj hmut hx hy => ?_⟩
 ·by_cases hi : i = b
  ·subst hi; rw [new r h]; exact hok
  ·have h' := old i r hi h
   refine ResOK.loc (w := w) (fun x hx => hf.same x (lowM i r x h' hx) (fun hx' => ?_)) (resOK_agree hγ (hm i r h').1 r (hm i r h').2 (hs.ok i r h'))
   rcases hS x with h1 | h1
   ·exact h1 hx'
   ·have := lowM i r x h' hx; omega
 ·by_cases hi : i = b
  ·subst hi; rw [new r h] at hx; exact (hfoot x hx).2
  ·exact Nat.lt_of_lt_of_le (lowM i r x (old i r hi h) hx) hf.size
 ·by_cases hib : i = b
  ·subst hib
   rw [new ri hi] at hx
   have := lowM j rj x (old j rj (Ne.symm hij) hj) hy
   have := (hfoot x hx).1; omega
  ·have hi' := old i ri hib hi
   by_cases hj' : j = b
   ·subst hj'
    rw [new rj hj] at hy
    have := lowM i ri x hi' hx
    have := (hfoot x hy).1; omega
   ·have hj'' := old j rj hj' hj
    rw [foot_agree hγ (hm i ri hi').1 ri] at hx
    rw [foot_agree hγ (hm j rj hj'').1 rj] at hy
    exact hs.apart i j ri rj x hij hi' hj'' hmut hx hy
theorem done_new (hs : Sat I N w0 S0 γ D E M a w) {b : Nat} (hb : ∀ i, fresh b i = true → D i = false) {o : Oper} (hd : ∀ x, o.dst = some x → x < N) {res : Res} {rd : List Nat} (hr : RecIn D b ⟨.ptr b 0, [(b, res)], rd⟩) {t : TypeId} {cs : Array Value}
  (hres : (∃ l, res = .blk t l ∧ cs = (SV.dens γ l).toArray ∧ SV.idss D l = true) ∨ (∃ n, res = .arr t n cs ∧ cs.size = n))
  (hrun : (execOp a.eval o).run P w = .ok (.value (.pointer (some ⟨w.heap.size, 0, none⟩))) (w.alloc (.cells cs t))) {Q : Exit → Act → World → Prop} : o.wp P a w (Done I N w0 S0 γ D E M b o.dst ⟨.ptr b 0, [(b, res)], rd⟩) Q := by
 unfold Oper.wp
 rw [hrun, Oper.upon_value]
 have hbD : D b = false := hb b (fresh_self b)
 have hγ : Agree (D · = true) γ (γ.blk' b w.heap.size) := blk'_agree hbD
 have hblk : (γ.blk' b w.heap.size).blk b = w.heap.size := by simp [Vn.blk']
 have hval : (Value.pointer (some ⟨w.heap.size, 0, none⟩)) = (SV.ptr b 0).den (γ.blk' b w.heap.size) := by simp [SV.den, hblk]
 have hfoot : ∀ x, res.foot (γ.blk' b w.heap.size) b x → x = w.heap.size := by
  intro x hx
  rcases hres with ⟨l, rfl, _, _⟩ | ⟨n, rfl, _⟩ <;> simp only [Res.foot, hblk] at hx <;> exact hx
 have hf := fr_alloc S0.w w (.cells cs t)
 have hsz : (w.alloc (.cells cs t)).heap.size = w.heap.size + 1 := by show (w.heap.push _).size = _; simp
 rw [hval]
 refine ⟨γ.blk' b w.heap.size, hγ, sat_put hs hγ hd hr.v hr.effs ?_ (hs.fr.trans hf) ?_⟩
 ·refine msat_new hs.mem hs.mids hγ hbD (fr_alloc (fun _ => False) w (.cells cs t)) (fun x => .inl (fun h => h)) ?_ (fun x hx => by rw [hfoot x hx, hsz]; omega)
  rcases hres with ⟨l, rfl, rfl, hl⟩ | ⟨n, rfl, hn⟩
  ·simp only [ResOK, hblk]
   rw [SV.dens_agree hγ l hl]
   exact alloc_new _ _
  ·simp only [ResOK, hblk]
   exact ⟨hn, alloc_new _ _⟩
 ·intro i r x h hx
  rw [look_cons] at h
  split at h
  ·rename_i hib
   subst hib
   simp only [zsI] at h
   subst h
   have := hfoot x hx
   exact .inl (by have := hs.fr.size; omega)
  ·cases h

theorem setRow_fr (S : Nat → Prop) (w : World) (g : Nat) (cs : Array Value) (h : S g) : Fr S w (w.setRow g cs) :=
 ⟨rfl, rfl, rfl, by simp, fun b _ hb => setRow_other w g b cs (fun e => hb (e ▸ h))⟩
theorem done_store (hs : Sat I N w0 S0 γ D E M a w) {b : Nat} {o : Oper} (hd : ∀ x, o.dst = some x → x < N) {i : Nat} {old res : Res} {rd : List Nat} (hr : RecIn D b ⟨.v undef, [(i, res)], rd⟩) (hi : M i = some old)
  {t : TypeId} {cs : Array Value} {cur : Array Value} (hold : (∃ l, old = .blk t l) ∨ (∃ n c, old = .arr t n c)) (hcur : w.heap[γ.blk i]? = some (.cells cur t (0, 0)))
  (hres : (∃ l, res = .blk t l ∧ cs = (SV.dens γ l).toArray) ∨ (∃ n, res = .arr t n cs ∧ cs.size = n))
  (hrun : (execOp a.eval o).run P w = .ok .skip (w.setRow (γ.blk i) cs)) {Q : Exit → Act → World → Prop} : o.wp P a w (Done I N w0 S0 γ D E M b o.dst ⟨.v undef, [(i, res)], rd⟩) Q := by
 unfold Oper.wp
 rw [hrun, Oper.upon_skip]
 have hval : undef = (SV.v undef).den γ := by simp [SV.den]
 have hmut : old.mut = true := by rcases hold with ⟨l, rfl⟩ | ⟨n, c, rfl⟩ <;> rfl
 have hof : ∀ x, old.foot γ i x ↔ x = γ.blk i := by rcases hold with ⟨l, rfl⟩ | ⟨n, c, rfl⟩ <;> intro x <;> rfl
 have hrf : ∀ x, res.foot γ i x ↔ x = γ.blk i := by rcases hres with ⟨l, rfl, _⟩ | ⟨n, rfl, _⟩ <;> intro x <;> rfl
 have hother : ∀ j r, j ≠ i → updM [(i, res)] M j = some r → M j = some r := fun j r hj h => by
  unfold updM at h; rw [look_cons, if_neg (Ne.symm hj)] at h; exact h
 have hnew : ∀ r, updM [(i, res)] M i = some r → r = res := fun r h => by
  unfold updM at h; rw [look_cons, if_pos rfl] at h; exact (Option.some.inj h).symm
 have hlow : γ.blk i < w.heap.size := hs.mem.low i old _ hi ((hof _).2 rfl)
 have hown : w0.heap.size ≤ γ.blk i ∨ S0.w (γ.blk i) := hs.ownm i old _ hi hmut ((hof _).2 rfl)
 rw [hval]
 refine ⟨γ, Agree.refl _ _, sat_put hs (Agree.refl _ _) hd hr.v hr.effs ⟨?_, ?_, ?_⟩ ?_ ?_⟩
 ·intro j r h
  by_cases hj : j = i
  ·subst hj
   rw [hnew r h]
   rcases hres with ⟨l, rfl, rfl⟩ | ⟨n, rfl, hn⟩
   ·exact setRow_heap w _ _ _ t _ hcur
   ·exact ⟨hn, setRow_heap w _ _ _ t _ hcur⟩
  ·have h' := hother j r hj h
   refine ResOK.loc (w := w) (fun x hx => ?_) (hs.mem.ok j r h')
   refine setRow_other w _ x cs (fun e => ?_)
   exact hs.mem.apart i j old r x (Ne.symm hj) hi h' hmut ((hof x).2 e) hx
 ·intro j r x h hx
  rw [setRow_size]
  by_cases hj : j = i
  ·subst hj; rw [hnew r h] at hx; rw [(hrf x).1 hx]; exact hlow
  ·exact hs.mem.low j r x (hother j r hj h) hx
 ·intro j k rj rk x hjk hj hk hm hx hy
  by_cases hji : j = i
  ·subst hji
   rw [hnew rj hj] at hx
   have h' := hother k rk (Ne.symm hjk) hk
   exact hs.mem.apart j k old rk x hjk hi h' hmut ((hof x).2 ((hrf x).1 hx)) hy
  ·have hj' := hother j rj hji hj
   by_cases hki : k = i
   ·subst hki
    rw [hnew rk hk] at hy
    exact hs.mem.apart j k rj old x hjk hj' hi hm hx ((hof x).2 ((hrf x).1 hy))
   ·exact hs.mem.apart j k rj rk x hjk hj' (hother k rk hki hk) hm hx hy
 ·refine hs.fr.trans' (setRow_fr (fun x => x = γ.blk i) w _ cs rfl) (fun x hx => ?_)
  subst hx
  exact hown.symm
 ·intro j r x h hx
  rw [look_cons] at h
  split at h
  ·rename_i hji
   subst hji
   simp only [zsI] at h
   subst h
   rw [(hrf x).1 hx]
   exact lift2 hown
  ·cases h

theorem done_call (hs : Sat I N w0 S0 γ D E M a w) {b : Nat} (hb : ∀ i, fresh b i = true → D i = false) {o : Oper} (hd : ∀ x, o.dst = some x → x < N) {f : FuncId} {s : Spec} (hsp : SpecOK I P f s) {args : List SV} (hids : SV.idss D args = true)
  (hfit : s.fits args M = true) {r : Rec} (hrec : r = ⟨(s.out args M b).1, (s.out args M b).2, s.rd args M⟩) (hr : RecIn D b r)
  (hrun : (execOp a.eval o).run P w = .ok (.enter f (SV.dens γ args).toArray) w) {Q : Exit → Act → World → Prop} : o.wp P a w (Done I N w0 S0 γ D E M b o.dst r) Q := by
 unfold Oper.wp
 rw [hrun, Oper.upon_enter]
 refine Calls.mono (hsp.calls γ D M args w b hs.mem hs.mids hids hb hs.amb' hfit) ?_
 rintro e w' ⟨γ', rfl, hγ, hm, ho, hf⟩
 subst hrec
 refine ⟨γ', hγ, sat_put hs hγ hd hr.v hr.effs hm (hs.fr.trans' hf ?_) ?_⟩
 ·rintro x ⟨i, q, _, hq, hmut, hx⟩
  exact (hs.ownm i q x hq hmut hx).symm
 ·intro i r x h hx
  rcases ho i r x h hx with h1 | ⟨j, q, hq, hqm, hqx⟩
  ·exact .inl (Nat.le_trans hs.fr.size h1)
  ·rcases hs.own j q x hq hqx with h2 | h2 | ⟨h2, h3⟩
   ·exact .inl h2
   ·exact .inr (.inl h2)
   ·refine .inr (.inr ⟨?_, h3⟩)
    cases hm : r.mut with
    | false => rfl
    | true => rw [hqm hm] at h2; cases h2
end
end Sx

/- The symbolic step is sound. -/
namespace Sx
open Go
set_option linter.unusedVariables false
set_option linter.unusedSimpArgs false

section
variable {I : Interp} {P : Program} {sp : FuncId → Option Spec} {N : Nat} {w0 : World} {S0 : Ft} {γ : Vn} {D : Nat → Bool} {E : Nat → Option SV} {M : Nat → Option Res} {a : Act} {w : World} {b : Nat} {o : Oper} {Q : Exit → Act → World → Prop} {r : Rec}

theorem isReal_of {x : Option SV} (h : isReal x = true) : ∃ y, x = some (.v y) := by
 unfold isReal at h
 split at h
 ·exact ⟨_, rfl⟩
 ·cases h
theorem pure_sound (hsel : ∀ cs b, o.op ≠ .select cs b) (h : pureStep P o E some none = some r) (hs : Sat I N w0 S0 γ D E M a w) (hd : ∀ x, o.dst = some x → x < N) (hr : RecIn D b r) :
  o.wp P a w (Done I N w0 S0 γ D E M b o.dst r) Q := by
 unfold pureStep at h
 split at h
 ·rename_i hall
  split at h
  ·rename_i u hu
   simp only [zsI] at h
   subst h
   refine done_val hs hd hr ?_
   have he : execOp a.eval o = execOp (ρof E) o := by
    refine execOp_congr o hsel fun x hx => ?_
    have := List.all_eq_true.1 hall x (by simpa using hx)
    obtain ⟨y, hy⟩ := isReal_of this
    rw [eval_of hs hy]
    simp [ρof, hy, SV.den]
   rw [he, val?_run _ _ hu w]
   simp [SV.den]
  ·cases h
 ·cases h

theorem run_info {t : TypeId} {ti : TypeInfo} (h : P.info? t = some ti) (w : World) : (typeInfo t).run P w = .ok ti w := by
 simp [typeInfo, h]
theorem dens_map_v (γ : Vn) (l : List Value) : SV.dens γ (l.map .v) = l := by
 induction l with
 | nil => simp [SV.dens]
 | cons x l ih => simp [SV.dens, SV.den, ih]
theorem idss_map_v (p : Nat → Bool) (l : List Value) : SV.idss p (l.map .v) = true := by
 induction l with
 | nil => simp [SV.idss]
 | cons x l ih => simp [SV.idss, SV.ids, ih]

theorem ints?_den {k : IntKind} : ∀ {vs : List SV} {l : List Int}, ints? k vs = some l → ∀ γ, SV.dens γ vs = l.map (.int k)
 | [], l, h, γ => by simp only [ints?, zsI] at h; subst h; simp [SV.dens]
 | .v (.int q m) :: vs, l, h, γ => by
  simp only [ints?] at h
  split at h
  ·rename_i r hq hr
   simp only [zsI] at h
   subst h
   have := of_decide_eq_true hq
   subst this
   simp [SV.dens, SV.den, ints?_den hr γ]
  ·cases h
 | .v (.bool _) :: _, _, h, _ | .v (.float ..) :: _, _, h, _ | .v (.complex ..) :: _, _, h, _ | .v (.string _) :: _, _, h, _ | .v (.pointer _) :: _, _, h, _ | .v (.slice ..) :: _, _, h, _ | .v (.map _) :: _, _, h, _ | .v (.chan _) :: _, _, h, _ | .v (.func ..) :: _, _, h, _ | .v .nilFunc :: _, _, h, _ | .v (.iface ..) :: _, _, h, _ | .v .nilIface :: _, _, h, _ | .v (.agg _) :: _, _, h, _ | .v (.tuple _) :: _, _, h, _ | .ptr .. :: _, _, h, _ | .sl .. :: _, _, h, _ | .row _ :: _, _, h, _ | .el .. :: _, _, h, _ | .agg _ :: _, _, h, _ | .tup _ :: _, _, h, _ | .fn .. :: _, _, h, _ => by simp [ints?] at h
theorem bytesOf_den {P : Program} {t : TypeId} {a : Array Value} {l : List Int} (h : bytesOf P t a = some l) : a.toList = l.map (.int .u8) := by
 unfold bytesOf at h
 split at h
 ·have := ints?_den h ⟨fun _ => 0, fun _ => undef, fun _ _ => False⟩
  rwa [dens_map_v] at this
 ·cases h
theorem setGo_get (l : List Int) (off : Nat) (v : Int) : ∀ (m j i : Nat), (setGo l off v m j)[i]? = if i < m then some (bif Nat.beq (j + i) off then v else l.getD (j + i) 0) else none
 | 0, j, i => by simp [setGo]
 | m + 1, j, 0 => by simp [setGo]
 | m + 1, j, i + 1 => by
  rw [setGo, List.getElem?_cons_succ, setGo_get l off v m (j + 1) i, show j + 1 + i = j + (i + 1) by omega]
  simp only [Nat.add_lt_add_iff_right]
theorem setGo_eq {l : List Int} {off : Nat} {v : Int} {m : Nat} (h0 : l.length = m) : setGo l off v m 0 = l.set off v := by
 apply List.ext_getElem?
 intro i
 rw [setGo_get, Nat.zero_add, List.getElem?_set]
 by_cases h1 : i < m
 ·rw [if_pos h1]
  by_cases h2 : off = i
  ·subst h2; simp [h0, h1]
  ·have : Nat.beq i off = false := by cases h : Nat.beq i off with | false => rfl | true => exact absurd (zbE h).symm h2
   rw [this, if_neg h2]
   simp [List.getD, show i < l.length by omega]
 ·rw [if_neg h1]
  by_cases h2 : off = i
  ·subst h2; simp [h0, h1]
  ·rw [if_neg h2, List.getElem?_eq_none (by omega)]
theorem reads_shape {F : Nat → Prop} {v : Value} {sz n : Nat} {xs : List Value} (h : ReadsIn F w v sz n xs) : (v = .slice none 0 0 ∧ n = 0) ∨ ∃ (ad : Addr) (cap : Nat), v = .slice (some ad) n cap ∧ n ≤ cap ∧ (0 < n → ad.spot = none) ∧ (0 < n → F ad.block) ∧ cap ≤ 9223372036854775807 ∧ (∀ i x, xs[i]? = some x → w.cell? (ad.add i) = some x) := by
 rcases h.2 with h1 | ⟨ad, cap, e, hf, hs, hc, hm, hx⟩ | ⟨ad, e, h0⟩
 ·exact .inl h1
 ·exact .inr ⟨ad, cap, e, hc, fun _ => hs, fun _ => hf, hm, hx⟩
 ·refine .inr ⟨ad, 0, by rw [e, h0], by omega, fun h => by omega, fun h => by omega, by omega, fun i x hx => ?_⟩
  have h1 := h.1
  rw [h0, Nat.zero_mul] at h1
  rw [List.length_eq_zero_iff.1 h1] at hx
  cases hx
theorem own_reads {F : Nat → Prop} {v : Value} {e : TypeId} {sz n : Nat} {xs : List Value} (h : w.ownsRow 0 e sz v n xs) (hF : ∀ g, v.ownBlock = some g → F g) : ReadsIn F w v sz n xs := by
 refine ⟨h.1, ?_⟩
 rcases h.2 with h1 | ⟨g, cap, cur, rfl, _, hg, hc, hm, hcs, ht⟩
 ·exact .inl h1
 ·refine .inr (.inl ⟨⟨g, 0, none⟩, cap, rfl, hF g rfl, rfl, hc, hm, fun i x hx => ?_⟩)
  exact World.ownsRow.cells h rfl i x hx
theorem row_reads {i : Nat} {c : Cont} (hs : MSat I γ M w) (h : M i = some (.ro c) ∨ ∃ e, M i = some (.own e c)) : ReadsC (γ.foot i) w (γ.val i) c := by
 rcases h with h | ⟨e, h⟩
 ·exact hs.ok i _ h
 ·obtain ⟨h1, h2⟩ := hs.ok i _ h
  exact own_reads h1 fun g hg => (h2 g).2 hg
theorem deep_reads {F : Nat → Prop} {v : Value} {fs : List DS} {l : List (List DD)} (h : DeepIn F w v fs l) : ∃ vs, ReadsIn F w v fs.length l.length vs := by
 obtain ⟨d, h⟩ := h
 cases d with
 | zero => exact h.elim
 | succ d => obtain ⟨vs, h1, _⟩ := h; exact ⟨vs, h1⟩
theorem row_slice {i : Nat} (hs : MSat I γ M w) (h : isRow (M i) = true) : ∃ (x : Option Addr) (n cap : Nat), γ.val i = .slice x n cap := by
 have go : ∀ {F : Nat → Prop} {sz n : Nat} {xs : List Value}, ReadsIn F w (γ.val i) sz n xs → ∃ (x : Option Addr) (n cap : Nat), γ.val i = .slice x n cap := fun h => by
  rcases reads_shape h with ⟨h1, _⟩ | ⟨ad, cap, h1, _⟩
  ·exact ⟨_, _, _, h1⟩
  ·exact ⟨_, _, _, h1⟩
 unfold isRow at h
 split at h
 ·rename_i c hM; exact go (row_reads hs (.inl hM))
 ·rename_i e c hM; exact go (row_reads hs (.inr ⟨_, hM⟩))
 ·rename_i l hM; obtain ⟨vs, _, h2, _⟩ := hs.ok i _ hM; exact go h2
 ·rename_i e cs hM; obtain ⟨h1, h2⟩ := hs.ok i _ hM; exact go (own_reads h1 fun g hg => (h2 g).2 hg)
 ·rename_i e j hM; obtain ⟨h1, h2⟩ := hs.ok i _ hM; exact go (own_reads h1 fun g hg => (h2 g).2 hg)
 ·rename_i gs l hM; obtain ⟨vs, hR⟩ := deep_reads (hs.ok i _ hM); exact go hR
 ·rename_i e sz j hM; obtain ⟨h1, h2⟩ := hs.ok i _ hM; exact go (own_reads h1 fun g hg => (h2 g).2 hg)
 ·cases h
theorem pool_reads {i j : Nat} {e : TypeId} {xss : List (List Int)} (hs : MSat I γ M w) (hi : M i = some (.ownp e j)) (hj : M j = some (.pool xss)) :
  w.ownsRow 0 e 1 (γ.val i) xss.length (poolVs (γ.val j)) ∧ (poolVs (γ.val j)).length = xss.length ∧ (∀ b, γ.foot i b ↔ (γ.val i).ownBlock = some b) ∧ ReadsIn (γ.foot i) w (γ.val i) 1 xss.length (poolVs (γ.val j)) ∧
   ∀ (k : Nat) (y : Value) (xs : List Int), (poolVs (γ.val j))[k]? = some y → xss[k]? = some xs → ReadsC (γ.foot j) w y (.ints .u8 xs) := by
 obtain ⟨h1, h2⟩ := hs.ok i _ hi
 obtain ⟨h3, h4⟩ := hs.ok j _ hj
 rw [h3] at h1
 exact ⟨h1, h3, h2, own_reads h1 (fun g hg => (h2 g).2 hg), h4⟩
theorem dpool_reads {i j sz : Nat} {e : TypeId} {fs : List DS} {l : List (List DD)} {zz : Option Nat} (hs : MSat I γ M w) (hi : M i = some (.ownq e sz j)) (hj : M j = some (.dpool fs l zz)) (hz : sz = fs.length) (h0 : 0 < sz) :
  w.ownsRow 0 e fs.length (γ.val i) l.length (poolVs (γ.val j)) ∧ (∀ b, γ.foot i b ↔ (γ.val i).ownBlock = some b) ∧ ReadsIn (γ.foot i) w (γ.val i) fs.length l.length (poolVs (γ.val j)) ∧ DPoolIn (γ.foot j) w (γ.val j) fs l zz := by
 subst hz
 obtain ⟨h1, h2⟩ := hs.ok i _ hi
 have h3 := hs.ok j _ hj
 have hn : (poolVs (γ.val j)).length / fs.length = l.length := by rw [h3.1]; exact Nat.mul_div_cancel _ h0
 rw [hn] at h1
 exact ⟨h1, h2, own_reads h1 (fun g hg => (h2 g).2 hg), h3⟩
theorem dhole_reads {i j sz k c m : Nat} {e : TypeId} {fs : List DS} {l : List (List DD)} {zz : Option Nat} (hs : MSat I γ M w) (hi : M i = some (.ownh e sz j k c m)) (hj : M j = some (.dpool fs l zz)) (hz : sz = fs.length) (h0 : 0 < sz) :
  w.ownsRow 0 e fs.length (γ.val i) l.length ((poolVs (γ.val j)).set (k * fs.length + c) (γ.val m)) ∧ (∀ b, γ.foot i b ↔ (γ.val i).ownBlock = some b) ∧ ReadsIn (γ.foot i) w (γ.val i) fs.length l.length ((poolVs (γ.val j)).set (k * fs.length + c) (γ.val m)) ∧ DPoolIn (γ.foot j) w (γ.val j) fs l zz := by
 subst hz
 obtain ⟨h1, h2⟩ := hs.ok i _ hi
 have h3 := hs.ok j _ hj
 have hn : (poolVs (γ.val j)).length / fs.length = l.length := by rw [h3.1]; exact Nat.mul_div_cancel _ h0
 rw [hn] at h1
 exact ⟨h1, h2, own_reads h1 (fun g hg => (h2 g).2 hg), h3⟩
theorem cells_one {y : Value} (h : y.oneCell' = true) : y.cells = #[y] := by cases y <;> first | rfl | (simp [Value.oneCell'] at h)
theorem opt_one {F : Nat → Prop} {v : Value} {ks : List IntKind} {l : List (List Int)} (h : OptIn F w v ks l) : v.oneCell' = true := by
 rcases h with ⟨rfl, _⟩ | ⟨a, xs, rfl, _⟩ <;> rfl
theorem row_one {i : Nat} (hs : MSat I γ M w) (h : isCell (M i) = true) : (γ.val i).oneCell' = true := by
 unfold isCell at h
 rw [Bool.or_eq_true] at h
 rcases h with h | h
 case inr =>
  unfold isOpt at h
  split at h
  ·rename_i ks l hM; exact opt_one (hs.ok i _ hM)
  ·cases h
 obtain ⟨x, n, cap, e⟩ := row_slice hs h
 rw [e]; rfl
theorem cellsOf_den (γ : Vn) : ∀ x : SV, (∀ i, x = .row i → (γ.val i).oneCell' = true) → (∀ i o k c, x ≠ .el i o k c) → (x.den γ).cells = (SV.dens γ (cellsOf x)).toArray
 | .v x, _, _ => by
  cases x <;> simp [SV.den, cellsOf, Value.cells, SV.dens]
  rename_i a
  rw [dens_map_v]
 | .ptr i o, _, _ => by simp [SV.den, cellsOf, Value.cells, SV.dens]
 | .sl i o l c, _, _ => by simp [SV.den, cellsOf, Value.cells, SV.dens]
 | .row i, h, _ => by simp [SV.den, cellsOf, SV.dens, cells_one (h i rfl)]
 | .el i o k c, _, h => absurd rfl (h i o k c)
 | .nilq i neg, _, _ => by simp [SV.den, cellsOf, Value.cells, SV.dens]
 | .sel i k, _, _ => by simp [SV.den, cellsOf, Value.cells, SV.dens]
 | .selp i pre k, _, _ => by simp [SV.den, cellsOf, Value.cells, SV.dens]
 | .agg xs, _, _ => by simp [SV.den, cellsOf, Value.cells]
 | .tup xs, _, _ => by simp [SV.den, cellsOf, Value.cells, SV.dens]
 | .fn f c, _, _ => by simp [SV.den, cellsOf, Value.cells, SV.dens]
theorem cellsOf_ids (p : Nat → Bool) : ∀ x : SV, x.ids p = true → SV.idss p (cellsOf x) = true
 | .v x, _ => by
  cases x <;> simp [cellsOf, SV.idss, SV.ids]
  exact idss_map_v p _
 | .ptr i o, h => by simp [cellsOf, SV.idss, h]
 | .sl i o l c, h => by simp [cellsOf, SV.idss, h]
 | .row i, h => by simp [cellsOf, SV.idss, h]
 | .el i o k c, h => by simp [cellsOf, SV.idss, h]
 | .nilq i neg, h => by simp [cellsOf, SV.idss, h]
 | .sel i k, h => by simp [cellsOf, SV.idss, h]
 | .selp i pre k, h => by simp [cellsOf, SV.idss, h]
 | .agg xs, h => by simpa [cellsOf, SV.ids] using h
 | .tup xs, h => by simp [cellsOf, SV.idss, h]
 | .fn f c, h => by simp [cellsOf, SV.idss, h]

theorem box_sound {e : TypeId} {x : SV} (h : boxStep P M b some none e x = some r) (hs : Sat I N w0 S0 γ D E M a w) (hb : ∀ i, fresh b i = true → D i = false) (hx : x.ids D = true) (hd : ∀ x, o.dst = some x → x < N) (hr : RecIn D b r)
  (hrun : (execOp a.eval o).run P w = .ok (.value (.pointer (some ⟨w.heap.size, 0, none⟩))) (w.alloc (.cells (x.den γ).cells e))) : o.wp P a w (Done I N w0 S0 γ D E M b o.dst r) Q := by
 have gen : ∀ rd, (∀ i, x = .row i → (γ.val i).oneCell' = true) → (∀ i o k c, x ≠ .el i o k c) → r = ⟨.ptr b 0, [(b, .blk e (cellsOf x))], rd⟩ → o.wp P a w (Done I N w0 S0 γ D E M b o.dst r) Q := by
  intro rd h1 h2 hrr
  subst hrr
  refine done_new hs hb hd hr (.inl ⟨cellsOf x, rfl, rfl, cellsOf_ids D x hx⟩) ?_
  rw [hrun, cellsOf_den γ x h1 h2]
 unfold boxStep at h
 split at h
 ·rename_i arr
  split at h
  ·rename_i hn
   simp only [zsI] at h
   subst h
   refine done_new hs hb hd hr (.inr ⟨_, rfl, zbE hn⟩) ?_
   rw [hrun]; simp [SV.den, Value.cells]
  ·cases h
 ·rename_i i
  split at h
  ·rename_i hi
   simp only [zsI] at h
   exact gen _ (fun j hj => by cases hj; exact row_one hs.mem hi) (fun _ _ _ _ e => by cases e) h.symm
  ·cases h
 ·cases h
 ·cases h
 ·rename_i n1 n2 n3
  simp only [zsI] at h
  exact gen _ (fun j hj => absurd hj (n1 j)) (fun i o k c hj => n2 i o k c hj) h.symm

theorem run_isAgg {t : TypeId} (h : (P.underlying t).isSome = true) (w : World) : (isAgg t).run P w = .ok (isAggT P t) w := by
 obtain ⟨d, hd⟩ := Option.isSome_iff_exists.1 h
 unfold isAgg isAggT
 rw [Sem.run_bind, run_underlying hd w, hd]
 cases d <;> simp
theorem add_off (g o i : Nat) : (⟨g, o, none⟩ : Addr).add i = ⟨g, o + i, none⟩ := by unfold Addr.add; split <;> simp_all
theorem run_loadPart {g off n : Nat} {cs : Array Value} {t : TypeId} {fr : Nat × Nat} (hg : w.heap[g]? = some (.cells cs t fr)) (hn : off + n ≤ cs.size) : (loadCells ⟨g, off, none⟩ n).run P w = .ok ((cs.toList.drop off).take n).toArray w := by
 have h := run_loadCells_list (P := P) w ⟨g, off, none⟩ ((cs.toList.drop off).take n) (fun j v hv => by
  rw [add_off, cell_of_row w g _ cs t fr hg]
  rw [List.getElem?_take] at hv
  split at hv
  ·rw [List.getElem?_drop] at hv; simpa using hv
  ·cases hv)
 have hl : ((cs.toList.drop off).take n).length = n := by simp; omega
 rw [hl] at h
 exact h
theorem reals_den {γ : Vn} : ∀ {l : List SV} {r : List Value}, reals l = some r → SV.dens γ l = r
 | [], r, h => by simp [reals] at h; subst h; simp [SV.dens]
 | .v x :: l, r, h => by
  simp only [reals] at h
  split at h
  ·rename_i q hq
   simp only [zsI] at h
   subst h
   simp [SV.dens, SV.den, reals_den hq]
  ·cases h
 | .ptr .. :: _, r, h | .sl .. :: _, r, h | .row _ :: _, r, h | .el .. :: _, r, h | .agg _ :: _, r, h | .tup _ :: _, r, h | .fn .. :: _, r, h => by simp [reals] at h
theorem mkAgg_den (γ : Vn) (l : List SV) : (mkAgg l).den γ = .agg (SV.dens γ l).toArray := by
 unfold mkAgg
 split
 ·rename_i q hq; simp [SV.den, reals_den hq]
 ·simp [SV.den]
theorem dens_drop (γ : Vn) (l : List SV) (k : Nat) : SV.dens γ (l.drop k) = (SV.dens γ l).drop k := by simp [dens_eq, List.map_drop]
theorem dens_take (γ : Vn) (l : List SV) (k : Nat) : SV.dens γ (l.take k) = (SV.dens γ l).take k := by simp [dens_eq, List.map_take]
theorem dens_append (γ : Vn) (l m : List SV) : SV.dens γ (l ++ m) = SV.dens γ l ++ SV.dens γ m := by simp [dens_eq]
theorem dens_length (γ : Vn) (l : List SV) : (SV.dens γ l).length = l.length := by simp [dens_eq]
theorem known_info {t : TypeId} (h : knownT P t = true) : ∃ ti, P.info? t = some ti ∧ (P.underlying t).isSome = true ∧ P.cellsOf t = ti.size := by
 unfold knownT at h
 split at h
 ·rename_i ti hti
  exact ⟨ti, hti, h, by simp [Program.cellsOf, hti]⟩
 ·cases h
theorem run_loadVar {t : TypeId} {ti : TypeInfo} (hti : P.info? t = some ti) (hu : (P.underlying t).isSome = true) {g off : Nat} {cs : Array Value} {e : TypeId} {fr : Nat × Nat} (hg : w.heap[g]? = some (.cells cs e fr)) :
  (isAggT P t = true → off + ti.size ≤ cs.size → (loadVar t ⟨g, off, none⟩).run P w = .ok (.agg ((cs.toList.drop off).take ti.size).toArray) w) ∧
  (isAggT P t = false → ∀ v, cs[off]? = some v → (loadVar t ⟨g, off, none⟩).run P w = .ok v w) := by
 refine ⟨fun ha hn => ?_, fun ha v hv => ?_⟩
 ·simp [loadVar, Sem.run_bind, run_isAgg hu w, ha, Go.sizeOf, run_info hti w, run_loadPart hg hn]
 ·have hc : w.cell? ⟨g, off, none⟩ = some v := by rw [cell_of_row w g _ cs e fr hg]; exact hv
  simp [loadVar, Sem.run_bind, run_isAgg hu w, ha, hc]
theorem load_sound {t : TypeId} {x : Operand} {i off : Nat} (ho : o.op = .load t x) (hx : ev E x = some (.ptr i off)) (h : loadStep P M some none t i off = some r) (hs : Sat I N w0 S0 γ D E M a w) (hd : ∀ x, o.dst = some x → x < N) (hr : RecIn D b r) :
  o.wp P a w (Done I N w0 S0 γ D E M b o.dst r) Q := by
 have hev := eval_of hs hx
 simp only [SV.den] at hev
 have hex : ∀ u, (loadVar t ⟨γ.blk i, off, none⟩).run P w = .ok u w → (execOp a.eval o).run P w = .ok (.value u) w := by
  intro u hu
  unfold execOp
  simp [ho, hev, Instr.loadAt, Instr.sureAddr, hu]
 unfold loadStep at h
 split at h
 ·rename_i e n arr hk hM
  obtain ⟨ti, hti, hu, hc⟩ := known_info hk
  have hok := hs.mem.ok i _ hM
  simp only [ResOK] at hok
  obtain ⟨hn, hg⟩ := hok
  have hl := run_loadVar (w := w) (off := off) hti hu hg
  rw [hc] at h
  split at h
  ·rename_i hagg
   split at h
   ·rename_i hw
    simp only [zaT] at hw
    have h1 := zbE hw.1
    have h2 := zbE hw.2
    simp only [zsI] at h
    subst h
    refine done_val hs hd hr (hex _ ?_)
    rw [hl.1 hagg (by omega)]
    subst h1
    simp only [SV.den, List.drop_zero]
    congr 2
    rw [List.take_of_length_le (by simp; omega)]
   ·split at h
    ·rename_i hw
     have h1 := zbL hw
     simp only [zsI] at h
     subst h
     refine done_val hs hd hr (hex _ ?_)
     rw [hl.1 hagg (by omega)]
     simp only [SV.den]
     congr 2
     apply Array.ext'
     simp [Array.toList_extract, List.extract_eq_take_drop]
    ·cases h
  ·rename_i hagg
   split at h
   ·rename_i hw
    have h1 : off < n := zbL hw
    split at h
    ·rename_i l hb
     have hby := bytesOf_den hb
     simp only [zsI] at h
     subst h
     refine done_val hs hd hr (hex _ ?_)
     simp only [SV.den]
     refine hl.2 hagg _ ?_
     have h2 : off < l.length := by
      have := congrArg List.length hby
      simp only [Array.length_toList, List.length_map] at this
      omega
     rw [← Array.getElem?_toList, hby]
     simp [List.getD, h2]
    ·simp only [zsI] at h
     subst h
     refine done_val hs hd hr (hex _ ?_)
     simp only [SV.den]
     refine hl.2 hagg _ ?_
     have : off < arr.size := by omega
     simp [Array.getD, this]
   ·cases h
 ·rename_i e cs hk hM
  obtain ⟨ti, hti, hu, hc⟩ := known_info hk
  have hg := hs.mem.ok i _ hM
  simp only [ResOK] at hg
  have hl := run_loadVar (w := w) (off := off) hti hu hg
  rw [hc] at h
  split at h
  ·rename_i hagg
   split at h
   ·rename_i hw
    have h1 := zbL hw
    simp only [zsI] at h
    subst h
    refine done_val hs hd hr (hex _ ?_)
    rw [hl.1 hagg (by simpa [dens_length] using h1), mkAgg_den, dens_take, dens_drop]
   ·cases h
  ·rename_i hagg
   split at h
   ·rename_i y hy
    simp only [zsI] at h
    subst h
    refine done_val hs hd hr (hex _ ?_)
    refine hl.2 hagg _ ?_
    simp [dens_eq, hy]
   ·cases h
 ·rename_i e cs hk hM
  obtain ⟨ti, hti, hu, hc⟩ := known_info hk
  have hg := hs.mem.ok i _ hM
  simp only [ResOK] at hg
  have hl := run_loadVar (w := w) (off := off) hti hu hg
  rw [hc] at h
  split at h
  ·rename_i hagg
   split at h
   ·rename_i hw
    have h1 := zbL hw
    simp only [zsI] at h
    subst h
    refine done_val hs hd hr (hex _ ?_)
    rw [hl.1 hagg (by simpa [dens_length] using h1), mkAgg_den, dens_take, dens_drop]
   ·cases h
  ·rename_i hagg
   split at h
   ·rename_i y hy
    simp only [zsI] at h
    subst h
    refine done_val hs hd hr (hex _ ?_)
    refine hl.2 hagg _ ?_
    simp [dens_eq, hy]
   ·cases h
 ·cases h
theorem oneS_den (γ : Vn) : ∀ x : SV, oneS x = true → (x.den γ).oneCell' = true
 | .v x, h => by simpa [oneS, SV.den] using h
 | .ptr .., _ => by simp [SV.den, Value.oneCell']
 | .sl .., _ => by simp [SV.den, Value.oneCell']
 | .row _, h => by simp [oneS] at h
 | .el .., h => by simp [oneS] at h
 | .nilq .., _ => by simp [SV.den, Value.oneCell']
 | .sel .., _ => by simp [SV.den, Value.oneCell']
 | .selp .., _ => by simp [SV.den, Value.oneCell']
 | .agg _, h => by simp [oneS] at h
 | .tup _, h => by simp [oneS] at h
 | .fn .., _ => by simp [SV.den, Value.oneCell']
theorem oneM_den (hs : MSat I γ M w) {x : SV} (h : oneM M x = true) : (x.den γ).oneCell' = true := by
 unfold oneM at h
 split at h
 ·simp only [SV.den]; exact row_one hs h
 ·exact oneS_den γ _ h
theorem onesM_den (hs : MSat I γ M w) : ∀ l : List SV, l.all (oneM M) = true → ∀ v ∈ SV.dens γ l, v.oneCell' = true
 | [], _, v, h => by simp [SV.dens] at h
 | x :: l, h, v, hv => by
  simp only [List.all_cons, zaT] at h
  simp only [SV.dens, List.mem_cons] at hv
  rcases hv with rfl | hv
  ·exact oneM_den hs h.1
  ·exact onesM_den hs l h.2 v hv
theorem run_storeVar {t : TypeId} {ti : TypeInfo} (hti : P.info? t = some ti) {g off : Nat} {cur : Array Value} {e : TypeId} (hg : w.heap[g]? = some (.cells cur e (0, 0))) {v : Value} (hn : v.cells.size = ti.size) (hl : off + v.cells.size ≤ cur.size) (h1 : ∀ u ∈ v.cells.toList, u.oneCell' = true) :
  (storeVar t ⟨g, off, none⟩ v).run P w = .ok () (w.setRow g (cur.toList.take off ++ v.cells.toList ++ cur.toList.drop (off + v.cells.size)).toArray) := by
 have h := run_storeCells_at (P := P) g off e v.cells.toList 0 cur w hg (by simpa using hl) h1
 simp only [Nat.add_zero, Array.length_toList] at h
 simp [storeVar, Sem.run_bind, Go.sizeOf, run_info hti w, hn, h]
theorem store_sound {t : TypeId} {x y : Operand} {i off : Nat} {z : SV} (ho : o.op = .store t x y) (hx : ev E x = some (.ptr i off)) (hy : ev E y = some z) (h : storeStep P M some none t i off z = some r) (hs : Sat I N w0 S0 γ D E M a w) (hd : ∀ x, o.dst = some x → x < N) (hr : RecIn D b r) :
  o.wp P a w (Done I N w0 S0 γ D E M b o.dst r) Q := by
 have hev := eval_of hs hx
 have hey := eval_of hs hy
 simp only [SV.den] at hev
 have hex : ∀ w', (storeVar t ⟨γ.blk i, off, none⟩ (z.den γ)).run P w = .ok () w' → (execOp a.eval o).run P w = .ok .skip w' := by
  intro u hu
  unfold execOp
  simp [ho, hev, hey, Instr.storeAt, Instr.sureAddr, hu]
 have gen : ∀ (old : Res) (e : TypeId) (l : List SV), M i = some old → (∃ l, old = .blk e l) ∨ (∃ n c, old = .arr e n c) → w.heap[γ.blk i]? = some (.cells (SV.dens γ l).toArray e (0, 0)) → (∀ ti, P.info? t = some ti → (cellsOf z).length = ti.size) → (P.info? t).isSome = true →
   (cellsOf z).all (oneM M) = true → off + (cellsOf z).length ≤ l.length → r = ⟨.v undef, [(i, .blk e (splice l off (cellsOf z)))], i :: rowsIn (cellsOf z)⟩ → o.wp P a w (Done I N w0 S0 γ D E M b o.dst r) Q := by
  intro old e l hM hold hg hsz hinf h1 hl hrr
  subst hrr
  have n1 : ∀ i, z = .row i → (γ.val i).oneCell' = true := fun i e => by subst e; exact row_one hs.mem (by simpa [cellsOf, oneM] using h1)
  have n2 : ∀ i o k c, z ≠ .el i o k c := fun i o k c e => by subst e; simp [cellsOf, oneM, oneS] at h1
  obtain ⟨ti, hti⟩ := Option.isSome_iff_exists.1 hinf
  have hc := cellsOf_den γ z n1 n2
  refine done_store hs hd hr hM hold hg (.inl ⟨_, rfl, rfl⟩) (hex _ ?_)
  have hsize : (z.den γ).cells.size = (cellsOf z).length := by rw [hc]; simp [dens_length]
  rw [run_storeVar hti hg (by rw [hsize, hsz ti hti]) (by rw [hsize]; simpa [dens_length] using hl) (by rw [hc]; exact onesM_den hs.mem _ h1)]
  congr 2
  rw [hsize, hc]
  simp [splice, dens_append, dens_take, dens_drop]
 unfold storeStep at h
 split at h
 ·rename_i ti e n arr hti hM
  have hok := hs.mem.ok i _ hM
  simp only [ResOK] at hok
  obtain ⟨hn, hg⟩ := hok
  split at h
  ·rename_i ys
   split at h
   ·rename_i h1
    simp only [zaT] at h1
    have hsz := zbE h1.1
    have hall : ∀ u ∈ ys.toList, u.oneCell' = true := fun u hu => by
     have := Array.all_eq_true'.1 h1.2 u (by simpa using hu); simpa using this
    split at h
    ·rename_i h2
     simp only [zaT] at h2
     have e1 := zbE h2.1
     have e2 := zbE h2.2
     simp only [zsI] at h
     subst h
     refine done_store hs hd hr hM (.inr ⟨_, _, rfl⟩) hg (.inr ⟨_, rfl, by omega⟩) (hex _ ?_)
     have := run_storeVar (v := .agg ys) (off := off) hti hg (by simpa [Value.cells] using hsz) (by simp [Value.cells]; omega) (by simpa [Value.cells] using hall)
     simp only [SV.den]
     rw [this]
     subst e1
     congr 2
     simp only [Value.cells, List.take_zero, List.nil_append, Nat.zero_add]
     rw [List.drop_of_length_le (by simp; omega)]
     simp
    ·split at h
     ·rename_i h2
      have e1 := zbL h2
      simp only [zsI] at h
      subst h
      refine done_store hs hd hr hM (.inr ⟨_, _, rfl⟩) hg (.inr ⟨_, rfl, by simp; omega⟩) (hex _ ?_)
      simp only [SV.den]
      rw [run_storeVar (v := .agg ys) (off := off) hti hg (by simpa [Value.cells] using hsz) (by simp [Value.cells]; omega) (by simpa [Value.cells] using hall)]
      simp [Value.cells]
     ·cases h
   ·cases h
  ·rename_i y hne
   split at h
   ·rename_i h1
    simp only [zaT] at h1
    have e1 := zbE h1.1.1
    have e2 := h1.1.2
    have e3 : off < n := zbL h1.2
    have hrun : (storeVar t ⟨γ.blk i, off, none⟩ ((SV.v y).den γ)).run P w = .ok () (w.setRow (γ.blk i) (arr.setIfInBounds off y)) := by
     have hcy := cells_one e2
     simp only [SV.den]
     rw [run_storeVar (v := y) (off := off) hti hg (by rw [hcy]; exact e1) (by rw [hcy]; simp; omega) (by rw [hcy]; simpa using e2)]
     congr 2
     rw [hcy]
     apply Array.ext'
     have hlt : off < arr.toList.length := by simp; omega
     simp [Array.toList_setIfInBounds, List.set_eq_take_append_cons_drop, hlt]
     omega
    split at h
    ·rename_i l v hb
     have hby := bytesOf_den hb
     have hll : l.length = n := by
      have := congrArg List.length hby
      simp only [Array.length_toList, List.length_map] at this
      omega
     have he : ((setGo l off v n 0).map (Value.int .u8)).toArray = arr.setIfInBounds off (.int .u8 v) := by
      rw [setGo_eq hll]
      apply Array.ext'
      rw [Array.toList_setIfInBounds, hby, List.map_set]
     simp only [zsI] at h
     subst h
     refine done_store hs hd hr hM (.inr ⟨_, _, rfl⟩) hg (.inr ⟨_, rfl, by rw [he]; simpa using hn⟩) (hex _ ?_)
     rw [he]; exact hrun
    ·simp only [zsI] at h
     subst h
     exact done_store hs hd hr hM (.inr ⟨_, _, rfl⟩) hg (.inr ⟨_, rfl, by simpa using hn⟩) (hex _ hrun)
   ·cases h
  ·rename_i n1 n2
   split at h
   ·rename_i h1
    simp only [zaT] at h1
    have e1 := zbE h1.1.1
    have e3 := zbL h1.2
    simp only [zsI] at h
    refine gen _ e (arr.toList.map .v) hM (.inr ⟨_, _, rfl⟩) ?_ (fun ti' hti' => ?_) (by simp [hti]) h1.1.2 (by simpa [hn] using e3) h.symm
    ·rw [dens_map_v]; simpa using hg
    ·rw [hti] at hti'; cases hti'; exact e1
   ·cases h
 ·rename_i ti e cs hti hM
  have hg := hs.mem.ok i _ hM
  simp only [ResOK] at hg
  split at h
  ·rename_i h1
   simp only [zaT] at h1
   have e1 := zbE h1.1.1
   have e3 := zbL h1.2
   simp only [zsI] at h
   refine gen _ e cs hM (.inl ⟨_, rfl⟩) hg (fun ti' hti' => ?_) (by simp [hti]) h1.1.2 e3 h.symm
   ·rw [hti] at hti'; cases hti'; exact e1
  ·cases h
 ·cases h
theorem add_add0 (ad : Addr) (m n : Nat) : (ad.add m).add n = ad.add (m + n) := by
 unfold Addr.add
 by_cases h1 : m = 0 <;> by_cases h2 : n = 0 <;> simp [h1, h2] <;> omega
theorem field_elR {s : TypeId} {x : Operand} {f : Nat} {i sz k c : Nat} {F : Nat → Prop} {m n : Nat} {xs : List Value} (ho : o.op = .fieldAddr s x f) (hx : ev E x = some (.el i sz k c)) {fs : Array Field} (hu : P.underlying s = some (.struct fs)) {fd : Field} (hfd : fs[f]? = some fd) {ti : TypeInfo} (hti : P.info? fd.type = some ti) (hz : Nat.beq ti.size 0 = false)
  (hM : ReadsIn F w (γ.val i) m n xs) (hk : Nat.blt k n = true) (hs : Sat I N w0 S0 γ D E M a w) (hd : ∀ x, o.dst = some x → x < N) {rd : List Nat} (hr : RecIn D b ⟨.el i sz k (c + fd.offset), [], rd⟩) :
  o.wp P a w (Done I N w0 S0 γ D E M b o.dst ⟨.el i sz k (c + fd.offset), [], rd⟩) Q := by
 have hev := eval_of hs hx
 have hne : ti.size ≠ 0 := fun e => by rw [e] at hz; cases hz
 have hlt : k < n := zbL hk
 rcases reads_shape hM with ⟨_, h0⟩ | ⟨ad, cap, e1, _⟩
 ·omega
 ·refine done_val hs hd hr ?_
  simp only [SV.den, e1] at hev ⊢
  have hs' : (Go.sizeOf fd.type).run P w = .ok ti.size w := by simp [Go.sizeOf, run_info hti w]
  unfold execOp
  simp only [ho, hev, Instr.fieldAt, Sem.run_bind, run_underlying hu w, Result.andThen_ok, hfd, Instr.sureAddr, Sem.run_pure, fieldPlace, hs', hne, if_false, Sem.run_ite, add_add0]
  simp [Nat.add_assoc]
theorem field_el {s : TypeId} {x : Operand} {f : Nat} {i sz k c : Nat} {ct : Cont} (ho : o.op = .fieldAddr s x f) (hx : ev E x = some (.el i sz k c)) {fs : Array Field} (hu : P.underlying s = some (.struct fs)) {fd : Field} (hfd : fs[f]? = some fd) {ti : TypeInfo} (hti : P.info? fd.type = some ti) (hz : Nat.beq ti.size 0 = false)
  (hM : M i = some (.ro ct) ∨ ∃ e, M i = some (.own e ct)) (hk : Nat.blt k ct.n = true) (hs : Sat I N w0 S0 γ D E M a w) (hd : ∀ x, o.dst = some x → x < N) (hr : RecIn D b ⟨.el i sz k (c + fd.offset), [], [i]⟩) :
  o.wp P a w (Done I N w0 S0 γ D E M b o.dst ⟨.el i sz k (c + fd.offset), [], [i]⟩) Q := field_elR ho hx hu hfd hti hz (row_reads hs.mem hM) hk hs hd hr
theorem opt_ptr {F : Nat → Prop} {v : Value} {ks : List IntKind} {l : List (List Int)} (h : OptIn F w v ks l) (hl : Nat.blt 0 l.length = true) : ∃ ad xs, v = .pointer (some ad) ∧ l = [xs] ∧ F ad.block ∧ ad.spot = none ∧ ∀ i x, (ecellsFrom xs ks 0)[i]? = some x → w.cell? (ad.add i) = some x := by
 rcases h with ⟨_, rfl⟩ | ⟨ad, xs, e, el, h⟩
 ·cases hl
 ·exact ⟨ad, xs, e, el, h⟩
theorem field_opt {s : TypeId} {x : Operand} {f : Nat} {i : Nat} {ks : List IntKind} {l : List (List Int)} (ho : o.op = .fieldAddr s x f) (hx : ev E x = some (.row i)) {fs : Array Field} (hu : P.underlying s = some (.struct fs)) {fd : Field} (hfd : fs[f]? = some fd) {ti : TypeInfo} (hti : P.info? fd.type = some ti) (hz : Nat.beq ti.size 0 = false)
  (hM : M i = some (.opt ks l)) (hk : Nat.blt 0 l.length = true) (hs : Sat I N w0 S0 γ D E M a w) (hd : ∀ x, o.dst = some x → x < N) (hr : RecIn D b ⟨.el i ks.length 0 fd.offset, [], [i]⟩) :
  o.wp P a w (Done I N w0 S0 γ D E M b o.dst ⟨.el i ks.length 0 fd.offset, [], [i]⟩) Q := by
 have hev := eval_of hs hx
 have hne : ti.size ≠ 0 := fun e => by rw [e] at hz; cases hz
 obtain ⟨ad, xs, e1, _⟩ := opt_ptr (hs.mem.ok i _ hM) hk
 refine done_val hs hd hr ?_
 simp only [SV.den, e1] at hev ⊢
 have hs' : (Go.sizeOf fd.type).run P w = .ok ti.size w := by simp [Go.sizeOf, run_info hti w]
 unfold execOp
 simp only [ho, hev, Instr.fieldAt, Sem.run_bind, run_underlying hu w, Result.andThen_ok, hfd, Instr.sureAddr, Sem.run_pure, fieldPlace, hs', hne, if_false, Sem.run_ite, add_add0]
 simp
theorem field_sound {s : TypeId} {x : Operand} {f : Nat} {p : SV} (ho : o.op = .fieldAddr s x f) (hx : ev E x = some p) (h : fieldStep P M some none s p f = some r) (hs : Sat I N w0 S0 γ D E M a w) (hd : ∀ x, o.dst = some x → x < N) (hr : RecIn D b r) :
  o.wp P a w (Done I N w0 S0 γ D E M b o.dst r) Q := by
 have hev := eval_of hs hx
 unfold fieldStep at h
 split at h
 ·rename_i i off
  split at h
  ·rename_i fs hu
   split at h
   ·rename_i fd hfd
    split at h
    ·rename_i ti hti
     split at h
     ·rename_i hz
      have hne : ti.size ≠ 0 := fun e => by rw [e] at hz; cases hz
      simp only [zsI] at h
      subst h
      refine done_val hs hd hr ?_
      simp only [SV.den] at hev ⊢
      have hs' : (Go.sizeOf fd.type).run P w = .ok ti.size w := by simp [Go.sizeOf, run_info hti w]
      unfold execOp
      simp only [ho, hev, Instr.fieldAt, Sem.run_bind, run_underlying hu w, Result.andThen_ok, hfd, Instr.sureAddr, Sem.run_pure, fieldPlace, hs', hne, if_false, Sem.run_ite, add_off]
     ·cases h
    ·cases h
   ·cases h
  ·cases h
 ·rename_i i sz k c
  split at h
  ·rename_i fs hu
   split at h
   ·rename_i fd hfd
    split at h
    ·rename_i ti hti
     split at h
     ·rename_i ct hz hM
      split at h
      ·rename_i hk
       simp only [zsI] at h
       subst h
       exact field_el ho hx hu hfd hti hz (.inl hM) hk hs hd hr
      ·cases h
     ·rename_i e ct hz hM
      split at h
      ·rename_i hk
       simp only [zsI] at h
       subst h
       exact field_el ho hx hu hfd hti hz (.inr ⟨e, hM⟩) hk hs hd hr
      ·cases h
     ·rename_i gs l hz hM
      split at h
      ·rename_i hk
       simp only [zsI] at h
       subst h
       obtain ⟨vs, hR⟩ := deep_reads (hs.mem.ok i _ hM)
       exact field_elR ho hx hu hfd hti hz hR hk hs hd hr
      ·cases h
     ·rename_i e z j hz hM
      split at h
      ·rename_i gs l zz hj
       split at h
       ·rename_i hb
        simp only [zaT] at hb
        obtain ⟨⟨b1, b2⟩, hk⟩ := hb
        simp only [zsI] at h
        subst h
        exact field_elR ho hx hu hfd hti hz (dpool_reads hs.mem hM hj (zbE b1) (zbL b2)).2.2.1 hk hs hd hr
       ·cases h
      ·cases h
     ·rename_i e z j k0 c0 m hz hM
      split at h
      ·rename_i gs l zz hj
       split at h
       ·rename_i hb
        simp only [zaT] at hb
        obtain ⟨⟨b1, b2⟩, hk⟩ := hb
        simp only [zsI] at h
        subst h
        exact field_elR ho hx hu hfd hti hz (dhole_reads hs.mem hM hj (zbE b1) (zbL b2)).2.2.1 hk hs hd hr
       ·cases h
      ·cases h
     ·cases h
    ·cases h
   ·cases h
  ·cases h
 ·rename_i i
  split at h
  ·rename_i fs hu
   split at h
   ·rename_i fd hfd
    split at h
    ·rename_i ti hti
     split at h
     ·rename_i ks l hz hM
      split at h
      ·rename_i hk
       simp only [zsI] at h
       subst h
       exact field_opt ho hx hu hfd hti hz hM hk hs hd hr
      ·cases h
     ·cases h
    ·cases h
   ·cases h
  ·cases h
 ·cases h
end
end Sx

/- The further operations: comparisons, slices. -/
namespace Sx
open Go
set_option linter.unusedVariables false
set_option linter.unusedSimpArgs false
section
variable {I : Interp} {P : Program} {sp : FuncId → Option Spec} {N : Nat} {w0 : World} {S0 : Ft} {γ : Vn} {D : Nat → Bool} {E : Nat → Option SV} {M : Nat → Option Res} {a : Act} {w : World} {b : Nat} {o : Oper} {Q : Exit → Act → World → Prop} {r : Rec}
theorem done_gen (hs : Sat I N w0 S0 γ D E M a w) (hd : ∀ x, o.dst = some x → x < N) (hr : RecIn D b r) {γ' : Vn} (hγ : Agree (D · = true) γ γ') {w' : World} (hm : MSat I γ' (updM r.effs M) w') (hf : Fr S0.w w0 w')
  (ho : ∀ i x y, look r.effs i = some x → x.foot γ' i y → w0.heap.size ≤ y ∨ S0.w y ∨ (x.mut = false ∧ S0.r y)) (hrun : (execOp a.eval o).run P w = .ok (.value (r.v.den γ')) w') : o.wp P a w (Done I N w0 S0 γ D E M b o.dst r) Q := by
 unfold Oper.wp
 rw [hrun, Oper.upon_value]
 exact ⟨γ', hγ, sat_put hs hγ hd hr.v hr.effs hm hf ho⟩
theorem binop_run {op : BinOp} {t t' : TypeId} {x y : Operand} (ho : o.op = .binOp op t x y t') {u : Value} (hg : (eqGuard op t x y (a.eval x) (a.eval y)).run P w = .ok () w) (h : (binOp op t (a.eval x) (a.eval y)).run P w = .ok u w) : (execOp a.eval o).run P w = .ok (.value u) w := by
 unfold execOp; simp [ho, hg, h]
theorem eq_sound {neg : Bool} {op : BinOp} {t t' : TypeId} {x y : Operand} {xs ys : Array Value} (ho : o.op = .binOp op t x y t') (hop : op = if neg then .neq else .eql) (hx : ev E x = some (.v (.agg xs))) (hy : ev E y = some (.v (.agg ys)))
  (h : eqStep P some none neg t xs ys = some r) (hs : Sat I N w0 S0 γ D E M a w) (hd : ∀ x, o.dst = some x → x < N) (hr : RecIn D b r) : o.wp P a w (Done I N w0 S0 γ D E M b o.dst r) Q := by
 have ex := eval_of hs hx
 have ey := eval_of hs hy
 simp only [SV.den] at ex ey
 unfold eqStep at h
 split at h
 ·rename_i ks hagg hk hgt
  split at h
  ·rename_i hf
   simp only [zaT] at hf
   simp only [zsI] at h
   subst h
   refine done_val hs hd hr (binop_run ho ?_ ?_)
   ·rw [ex, ey]; exact run_eqGuard_agg w op t x y xs ys hgt
   ·rw [ex, ey]
    have he := equal_run (P := P) (d := 40) (by omega) hk hf.1 hf.2 (by unfold isAggT at hagg; exact hagg) w
    cases neg <;> subst hop
    ·rw [if_neg (by simp), run_eql_struct, he]; simp [SV.den]
    ·rw [if_pos rfl, run_neq_struct, he]; simp [SV.den]
  ·cases h
 ·cases h
theorem guard_int {op : BinOp} {t : TypeId} {x y : Operand} {k q : IntKind} {m n : Int} : (eqGuard op t x y (.int k m) (.int q n)).run P w = .ok () w := by
 cases op <;> simp [eqGuard]
theorem bin_sound {op : BinOp} {t t' : TypeId} {x y : Operand} {u v : SV} (ho : o.op = .binOp op t x y t') (hx : ev E x = some u) (hy : ev E y = some v)
  (h : binStep P o E some none op t u v = some r) (hs : Sat I N w0 S0 γ D E M a w) (hd : ∀ x, o.dst = some x → x < N) (hr : RecIn D b r) : o.wp P a w (Done I N w0 S0 γ D E M b o.dst r) Q := by
 have hpure : pureStep P o E some none = some r → o.wp P a w (Done I N w0 S0 γ D E M b o.dst r) Q := fun hp => pure_sound (by simp [ho]) hp hs hd hr
 have ex := eval_of hs hx
 have ey := eval_of hs hy
 unfold binStep at h
 split at h
 ·split at h
  ·exact eq_sound (neg := false) ho rfl hx hy h hs hd hr
  ·exact eq_sound (neg := true) ho rfl hx hy h hs hd hr
  ·cases h
 ·rename_i k m q n
  simp only [SV.den] at ex ey
  have go : ∀ z, (binOp op t (.int k m) (.int q n)).run P w = .ok z w → r = ⟨.v z, [], []⟩ → o.wp P a w (Done I N w0 S0 γ D E M b o.dst r) Q := by
   intro z hz hrr
   subst hrr
   refine done_val hs hd hr (binop_run ho ?_ ?_)
   ·rw [ex, ey]; exact guard_int
   ·rw [ex, ey, hz]; simp [SV.den]
  split at h
  ·split at h
   ·rename_i hn
    simp only [zsI] at h
    have hn' : ¬ n < 0 := by simpa using hn
    exact go _ (by simp [binOp, Op.shift, hn']) h.symm
   ·cases h
  ·split at h
   ·rename_i hn
    simp only [zsI] at h
    have hn' : ¬ n < 0 := by simpa using hn
    exact go _ (by simp [binOp, Op.shift, hn']) h.symm
   ·cases h
  ·split at h
   ·rename_i hkn
    simp only [zaT, Bool.not_eq_true', decide_eq_true_eq, decide_eq_false_iff_not] at hkn
    simp only [zsI] at h
    have hk' : k = q := hkn.1
    have hn' : ¬ n = 0 := hkn.2
    subst hk'
    exact go _ (by simp [binOp, Op.intDiv, hn']) h.symm
   ·cases h
  ·split at h
   ·rename_i hkn
    simp only [zaT, Bool.not_eq_true', decide_eq_true_eq, decide_eq_false_iff_not] at hkn
    simp only [zsI] at h
    have hk' : k = q := hkn.1
    have hn' : ¬ n = 0 := hkn.2
    subst hk'
    exact go _ (by simp [binOp, Op.intDiv, hn']) h.symm
   ·cases h
  ·exact hpure h
 ·rename_i i off
  simp only [SV.den] at ex ey
  have go : ∀ (op' : BinOp) (z : Bool), op = op' → isPtrT P t = true → (op' = .eql ∧ z = false ∨ op' = .neq ∧ z = true) → r = ⟨.v (.bool z), [], []⟩ → o.wp P a w (Done I N w0 S0 γ D E M b o.dst r) Q := by
   intro op' z e hp hz hrr
   subst hrr
   subst e
   have hu : ∃ e', P.underlying t = some (.pointer e') := by
    unfold isPtrT at hp
    split at hp
    ·rename_i e' he'; exact ⟨e', he'⟩
    ·cases hp
   obtain ⟨e', hu⟩ := hu
   have heq : (Op.equal t (.pointer (some ⟨γ.blk i, off, none⟩)) (.pointer none)).run P w = .ok false w := by
    have h9 : ∀ d : Nat, (Op.equalIn (d + 1) t (.pointer (some ⟨γ.blk i, off, none⟩)) (.pointer none)).run P w = .ok false w := fun d => by
     simp [Op.equalIn, run_underlying hu]
    simp [Op.equal, Op.maxDepth, h9 9999]
   refine done_val hs hd hr (binop_run ho ?_ ?_)
   ·rw [ex, ey]; rcases hz with ⟨rfl, _⟩ | ⟨rfl, _⟩ <;> simp [eqGuard]
   ·rw [ex, ey]; rcases hz with ⟨rfl, rfl⟩ | ⟨rfl, rfl⟩
    ·simp only [binOp]; simp [heq, SV.den]
    ·simp only [binOp]; simp [heq, SV.den]
  split at h
  ·rename_i hp; simp only [zsI] at h; exact go _ _ rfl hp (.inl ⟨rfl, rfl⟩) h.symm
  ·rename_i hp; simp only [zsI] at h; exact go _ _ rfl hp (.inr ⟨rfl, rfl⟩) h.symm
  ·cases h
 ·exact hpure h
theorem nil_sound {op : BinOp} {t t' : TypeId} {x y : Operand} {i : Nat} (ho : o.op = .binOp op t x y t') (hx : ev E x = some (.row i)) (hy : ev E y = some (.v (.slice none 0 0)))
  (h : nilStep P M some none op t i = some r) (hs : Sat I N w0 S0 γ D E M a w) (hd : ∀ x, o.dst = some x → x < N) (hr : RecIn D b r) : o.wp P a w (Done I N w0 S0 γ D E M b o.dst r) Q := by
 have ex := eval_of hs hx
 have ey := eval_of hs hy
 simp only [SV.den] at ex ey
 have go : isSlT P t = true → isRow (M i) = true → (op = .eql ∧ r = ⟨.nilq i false, [], [i]⟩ ∨ op = .neq ∧ r = ⟨.nilq i true, [], [i]⟩) → o.wp P a w (Done I N w0 S0 γ D E M b o.dst r) Q := by
  intro h1 h2 h3
  have hu : ∃ e', P.underlying t = some (.slice e') := by
   unfold isSlT at h1
   split at h1
   ·rename_i e' he'; exact ⟨e', he'⟩
   ·cases h1
  obtain ⟨e', hu⟩ := hu
  obtain ⟨u, n, cap, hv⟩ := row_slice hs.mem h2
  have heq : (Op.equal t (.slice u n cap) (.slice none 0 0)).run P w = .ok (nilV (.slice u n cap)) w := by
   have h9 : ∀ d : Nat, (Op.equalIn (d + 1) t (.slice u n cap) (.slice none 0 0)).run P w = .ok (nilV (.slice u n cap)) w := fun d => by
    cases u <;> simp [Op.equalIn, run_underlying hu, nilV]
   simp [Op.equal, Op.maxDepth, h9 9999]
  rcases h3 with ⟨rfl, rfl⟩ | ⟨rfl, rfl⟩
  ·refine done_val hs hd hr (binop_run ho ?_ ?_)
   ·rw [ex, ey, hv]; simp [eqGuard]
   ·rw [ex, ey, hv]; simp only [binOp]; simp [heq, SV.den, hv, negB]
  ·refine done_val hs hd hr (binop_run ho ?_ ?_)
   ·rw [ex, ey, hv]; simp [eqGuard]
   ·rw [ex, ey, hv]; simp only [binOp]; simp [heq, SV.den, hv, negB]
 unfold nilStep at h
 split at h
 ·rename_i h1 h2; simp only [zsI] at h; exact go h1 h2 (.inl ⟨rfl, h.symm⟩)
 ·rename_i h1 h2; simp only [zsI] at h; exact go h1 h2 (.inr ⟨rfl, h.symm⟩)
 ·cases h
theorem opt_sound {op : BinOp} {t t' : TypeId} {x y : Operand} {i : Nat} (ho : o.op = .binOp op t x y t') (hx : ev E x = some (.row i)) (hy : ev E y = some (.v (.pointer none)))
  (h : optStep P M some none op t i = some r) (hs : Sat I N w0 S0 γ D E M a w) (hd : ∀ x, o.dst = some x → x < N) (hr : RecIn D b r) : o.wp P a w (Done I N w0 S0 γ D E M b o.dst r) Q := by
 have ex := eval_of hs hx
 have ey := eval_of hs hy
 simp only [SV.den] at ex ey
 unfold optStep at h
 split at h
 ·rename_i ks l hp hM
  have hu : ∃ e', P.underlying t = some (.pointer e') := by
   unfold isPtrT at hp
   split at hp
   ·rename_i e' he'; exact ⟨e', he'⟩
   ·cases hp
  obtain ⟨e', hu⟩ := hu
  have hO : OptIn (γ.foot i) w (γ.val i) ks l := hs.mem.ok i _ hM
  have heq : (Op.equal t (γ.val i) (.pointer none)).run P w = .ok (Nat.beq l.length 0) w ∧ ∃ q, γ.val i = .pointer q := by
   rcases hO with ⟨e1, rfl⟩ | ⟨ad, xs, e1, rfl, _⟩
   ·rw [e1]
    have h9 : ∀ d : Nat, (Op.equalIn (d + 1) t (.pointer none) (.pointer none)).run P w = .ok true w := fun d => by
     simp [Op.equalIn, run_underlying hu]
    exact ⟨by simp [Op.equal, Op.maxDepth, h9 9999], _, rfl⟩
   ·rw [e1]
    have h9 : ∀ d : Nat, (Op.equalIn (d + 1) t (.pointer (some ad)) (.pointer none)).run P w = .ok false w := fun d => by
     simp [Op.equalIn, run_underlying hu]
    exact ⟨by simp [Op.equal, Op.maxDepth, h9 9999]; rfl, _, rfl⟩
  obtain ⟨heq, q, hq⟩ := heq
  split at h
  ·simp only [zsI] at h
   subst h
   refine done_val hs hd hr (binop_run ho ?_ ?_)
   ·rw [ex, ey, hq]; simp [eqGuard]
   ·rw [ex, ey]; simp only [binOp]; simp [heq, SV.den]
  ·simp only [zsI] at h
   subst h
   refine done_val hs hd hr (binop_run ho ?_ ?_)
   ·rw [ex, ey, hq]; simp [eqGuard]
   ·rw [ex, ey]; simp only [binOp]; simp [heq, SV.den]
  ·cases h
 ·cases h
theorem deref_sound {x : Operand} {i : Nat} (ho : o.op = .nilCheck x) (hx : ev E x = some (.row i)) (h : derefStep M some none i = some r) (hs : Sat I N w0 S0 γ D E M a w) (hd : ∀ x, o.dst = some x → x < N) (hr : RecIn D b r) : o.wp P a w (Done I N w0 S0 γ D E M b o.dst r) Q := by
 have ex := eval_of hs hx
 unfold derefStep at h
 split at h
 ·rename_i ks l hM
  split at h
  ·rename_i hl
   simp only [zsI] at h
   subst h
   obtain ⟨ad, xs, e1, _⟩ := opt_ptr (hs.mem.ok i _ hM) hl
   simp only [SV.den, e1] at ex
   refine done_val hs hd hr ?_
   unfold execOp; simp [ho, ex, SV.den, e1]
  ·cases h
 ·cases h
theorem elNil_sound {x : Operand} {i sz k c : Nat} (ho : o.op = .nilCheck x) (hx : ev E x = some (.el i sz k c)) (h : elNil M some none i sz k c = some r) (hs : Sat I N w0 S0 γ D E M a w) (hd : ∀ x, o.dst = some x → x < N) (hr : RecIn D b r) : o.wp P a w (Done I N w0 S0 γ D E M b o.dst r) Q := by
 have ex := eval_of hs hx
 have go : ∀ {F : Nat → Prop} {m n : Nat} {xs : List Value} {rd : List Nat}, ReadsIn F w (γ.val i) m n xs → Nat.blt k n = true → r = ⟨.el i sz k c, [], rd⟩ → o.wp P a w (Done I N w0 S0 γ D E M b o.dst r) Q := by
  intro F m n xs rd hM hk hr'
  subst hr'
  have hlt : k < n := zbL hk
  rcases reads_shape hM with ⟨_, h0⟩ | ⟨ad, cap, e1, _⟩
  ·omega
  ·simp only [SV.den, e1] at ex
   refine done_val hs hd hr ?_
   unfold execOp; simp [ho, ex, SV.den, e1]
 unfold elNil at h
 split at h
 ·rename_i e z j hM
  split at h
  ·rename_i gs l zz hj
   split at h
   ·rename_i hb
    simp only [zaT] at hb
    obtain ⟨⟨b1, b2⟩, hk⟩ := hb
    simp only [zsI] at h
    exact go (dpool_reads hs.mem hM hj (zbE b1) (zbL b2)).2.2.1 hk h.symm
   ·cases h
  ·cases h
 ·rename_i e z j k0 c0 m hM
  split at h
  ·rename_i gs l zz hj
   split at h
   ·rename_i hb
    simp only [zaT] at hb
    obtain ⟨⟨b1, b2⟩, hk⟩ := hb
    simp only [zsI] at h
    exact go (dhole_reads hs.mem hM hj (zbE b1) (zbL b2)).2.2.1 hk h.symm
   ·cases h
  ·cases h
 ·cases h
theorem builtin_run {c : Call} (ho : o.op = .call c) {bi : Builtin} (hc : c.callee = .builtin bi) {u : Value} {w' : World} (h : ∀ consts, (builtin bi c.argTypes o.type consts (c.args.map a.eval)).run P w = .ok (.value u) w') : (execOp a.eval o).run P w = .ok (.value u) w' := by
 unfold execOp
 simp [ho, resolve, hc, invoke, h]
theorem len_sound {c : Call} (ho : o.op = .call c) (hc : c.callee = .builtin .len) {t : TypeId} {x : SV} (ht : c.argTypes.toList = [t]) (hx : evs E c.args.toList = some [x])
  (h : lenStep P o E M some none t x = some r) (hs : Sat I N w0 S0 γ D E M a w) (hd : ∀ x, o.dst = some x → x < N) (hr : RecIn D b r) : o.wp P a w (Done I N w0 S0 γ D E M b o.dst r) Q := by
 have hT : c.argTypes = #[t] := by apply Array.ext'; simpa using ht
 have hA : c.args.map a.eval = #[x.den γ] := by
  have := (evals_of hs hx).1
  apply Array.ext'; simpa [SV.dens] using this
 have go : ∀ (n : Nat) (rd : List Nat) (base : Option Addr) (cap : Nat) (e : TypeId), P.underlying t = some (.slice e) → x.den γ = .slice base n cap → r = ⟨.v (.int .i64 n), [], rd⟩ → o.wp P a w (Done I N w0 S0 γ D E M b o.dst r) Q := by
  intro n rd base cap e hu hv hrr
  subst hrr
  refine done_val hs hd hr (builtin_run ho hc (fun consts => ?_))
  rw [hT, hA, hv]
  simp [builtin, Builtin.len_, run_underlying hu, SV.den, goInt]
 unfold lenStep at h
 split at h
 ·rename_i e i hu
  have row0 : ∀ (n : Nat) (rd : List Nat), (∃ F sz xs, ReadsIn F w (γ.val i) sz n xs) → r = ⟨.v (.int .i64 n), [], rd⟩ → o.wp P a w (Done I N w0 S0 γ D E M b o.dst r) Q := by
   rintro n rd ⟨F, sz, xs, hR⟩ hrr
   rcases reads_shape hR with ⟨h1, rfl⟩ | ⟨ad, cap, h1, _⟩
   ·exact go 0 rd none 0 e hu (by simp [SV.den, h1]) hrr
   ·exact go n rd (some ad) cap e hu (by simp [SV.den, h1]) hrr
  have row : ∀ n : Nat, (∃ F sz xs, ReadsIn F w (γ.val i) sz n xs) → r = ⟨.v (.int .i64 n), [], [i]⟩ → o.wp P a w (Done I N w0 S0 γ D E M b o.dst r) Q := fun n => row0 n [i]
  split at h
  ·rename_i ct hM; simp only [zsI] at h; exact row ct.n ⟨_, _, _, row_reads hs.mem (.inl hM)⟩ h.symm
  ·rename_i e' ct hM; simp only [zsI] at h; exact row ct.n ⟨_, _, _, row_reads hs.mem (.inr ⟨_, hM⟩)⟩ h.symm
  ·rename_i xss hM; simp only [zsI] at h
   obtain ⟨vs, h1, h2, h3⟩ := hs.mem.ok i _ hM
   exact row xss.length ⟨_, _, _, h2⟩ h.symm
  ·rename_i e' cs hM; simp only [zsI] at h
   obtain ⟨h1, h2⟩ := hs.mem.ok i _ hM
   exact row cs.length ⟨_, _, _, own_reads h1 fun g hg => (h2 g).2 hg⟩ h.symm
  ·rename_i gs l hM; simp only [zsI] at h
   obtain ⟨vs, hR⟩ := deep_reads (hs.mem.ok i _ hM)
   exact row l.length ⟨_, _, _, hR⟩ h.symm
  ·rename_i e' j hM
   split at h
   ·rename_i xss hP
    simp only [zsI] at h
    obtain ⟨_, _, _, hR, _⟩ := pool_reads hs.mem hM hP
    exact row0 xss.length [i, j] ⟨_, _, _, hR⟩ h.symm
   ·cases h
  ·rename_i e' sz j hM
   split at h
   ·rename_i fs l zz hP
    split at h
    ·rename_i hz
     simp only [zaT] at hz
     simp only [zsI] at h
     obtain ⟨_, _, hR, _⟩ := dpool_reads hs.mem hM hP (zbE hz.1) (zbL hz.2)
     exact row0 l.length [i, j] ⟨_, _, _, hR⟩ h.symm
    ·cases h
   ·cases h
  ·cases h
 ·rename_i e i off l cap hu
  simp only [zsI] at h
  exact go l [] (some ⟨γ.blk i, off, none⟩) cap e hu (by simp [SV.den]) h.symm
 ·exact pure_sound (by simp [ho]) h hs hd hr
theorem add_add' (ad : Addr) (m n : Nat) : (ad.add m).add n = ad.add (m + n) := by
 unfold Addr.add
 by_cases h1 : m = 0 <;> by_cases h2 : n = 0 <;> simp [h1, h2] <;> omega
theorem nat_of_int {m : Int} (h : decide (0 ≤ m) = true) : 0 ≤ m := of_decide_eq_true h
theorem pickN_some {m : Int} {f : Nat → Option Rec} {r : Rec} : ∀ (n j : Nat), pickN none m f n j = some r → ∃ q, q < j + n ∧ m = (q : Int) ∧ f q = some r
 | 0, _, h => by cases h
 | n + 1, j, h => by
  unfold pickN at h
  split at h
  ·rename_i e; exact ⟨j, by omega, of_decide_eq_true e, h⟩
  ·obtain ⟨q, h1, h2, h3⟩ := pickN_some n (j + 1) h
   exact ⟨q, by omega, h2, h3⟩
theorem idx_sound {t : TypeId} {x y : Operand} {u v : SV} (ho : o.op = .indexAddr t x y) (hx : ev E x = some u) (hy : ev E y = some v) (h : idxStep P M some none t u v = some r) (hs : Sat I N w0 S0 γ D E M a w) (hd : ∀ x, o.dst = some x → x < N) (hr : RecIn D b r) :
  o.wp P a w (Done I N w0 S0 γ D E M b o.dst r) Q := by
 have ex := eval_of hs hx
 have ey := eval_of hs hy
 have hex : ∀ {k : IntKind} {m : Int} {z : Value}, a.eval y = .int k m → (Instr.indexAt t (a.eval x) (.int k m)).run P w = .ok z w → (execOp a.eval o).run P w = .ok (.value z) w := by
  intro k m z e1 e2
  unfold execOp
  simp [ho, e1, e2]
 unfold idxStep at h
 split at h
 ·rename_i k m
  simp only [SV.den] at ey
  have elc0 : ∀ {i sz n : Nat} {e : TypeId} {ti : TypeInfo} {xs : List Value} {rd : List Nat}, u = .row i → P.underlying t = some (.slice e) → P.info? e = some ti → ti.size = sz → (∃ F, ReadsIn F w (γ.val i) sz n xs) → (decide (0 ≤ m) && Nat.blt m.toNat n) = true → r = ⟨.el i sz m.toNat 0, [], rd⟩ → o.wp P a w (Done I N w0 S0 γ D E M b o.dst r) Q := by
   rintro i sz n e ti xs rd rfl hu hti hsz ⟨F, hR⟩ h0lt rfl
   simp only [zaT] at h0lt
   obtain ⟨h0, hlt⟩ := h0lt
   have h0' := nat_of_int h0
   have hlt' : m.toNat < n := zbL hlt
   rcases reads_shape hR with ⟨_, rfl⟩ | ⟨ad, cap, e1, _⟩
   ·omega
   ·refine done_val hs hd hr (hex ey ?_)
    have hin : 0 ≤ m ∧ m < (n : Int) := by omega
    rw [ex]
    simp only [SV.den, e1]
    simp [Instr.indexAt, asIntOf, run_underlying hu, hin, Go.sizeOf, run_info hti w, hsz, add_add']
  have elc : ∀ {i sz n : Nat} {e : TypeId} {ti : TypeInfo} {xs : List Value}, u = .row i → P.underlying t = some (.slice e) → P.info? e = some ti → ti.size = sz → (∃ F, ReadsIn F w (γ.val i) sz n xs) → elAt some none i sz n m = some r → o.wp P a w (Done I N w0 S0 γ D E M b o.dst r) Q := by
   intro i sz n e ti xs hu0 hu hti hsz hR h
   unfold elAt at h
   split at h
   ·rename_i h0lt
    simp only [zsI] at h
    exact elc0 hu0 hu hti hsz hR h0lt h.symm
   ·cases h
  split at h
  ·rename_i e i hu
   split at h
   ·rename_i ti c hti hM
    split at h
    ·rename_i hsz; exact elc rfl hu hti (zbE hsz) ⟨_, row_reads hs.mem (.inl hM)⟩ h
    ·cases h
   ·rename_i ti e' c hti hM
    split at h
    ·rename_i hsz; exact elc rfl hu hti (zbE hsz) ⟨_, row_reads hs.mem (.inr ⟨_, hM⟩)⟩ h
    ·cases h
   ·rename_i ti xss hti hM
    split at h
    ·rename_i hsz
     obtain ⟨vs, h1, h2, h3⟩ := hs.mem.ok i _ hM
     exact elc rfl hu hti (zbE hsz) ⟨_, h2⟩ h
    ·cases h
   ·rename_i ti gs l hti hM
    split at h
    ·rename_i hsz
     obtain ⟨vs, hR⟩ := deep_reads (hs.mem.ok i _ hM)
     exact elc rfl hu hti (zbE hsz) ⟨_, hR⟩ h
    ·cases h
   ·rename_i ti e' j hti hM
    split at h
    ·rename_i xss hsz hP
     split at h
     ·rename_i h0lt
      simp only [zsI] at h
      obtain ⟨_, _, _, hR, _⟩ := pool_reads hs.mem hM hP
      exact elc0 rfl hu hti (zbE hsz) ⟨_, hR⟩ h0lt h.symm
     ·cases h
    ·cases h
   ·rename_i ti e' sz j hti hM
    split at h
    ·rename_i fs l zz hsz hP
     simp only [zaT] at hsz
     split at h
     ·rename_i h0lt
      rw [zaT] at h0lt
      simp only [zsI] at h
      obtain ⟨_, _, hR, _⟩ := dpool_reads hs.mem hM hP (zbE h0lt.1) (zbL hsz.2)
      have e0 := zbE h0lt.1
      subst e0
      exact elc0 rfl hu hti (zbE hsz.1) ⟨_, hR⟩ h0lt.2 h.symm
     ·cases h
    ·cases h
   ·cases h
  ·rename_i e i off l cap hu
   split at h
   ·rename_i ti hti
    split at h
    ·rename_i h0lt
     simp only [zaT] at h0lt
     obtain ⟨h0, hlt⟩ := h0lt
     have h0' := nat_of_int h0
     have hlt' : m.toNat < l := zbL hlt
     have hin : 0 ≤ m ∧ m < (l : Int) := by omega
     split at h
     ·rename_i h1
      simp only [zaT] at h1
      have h1 := zbE h1.2
      simp only [zsI] at h
      subst h
      refine done_val hs hd hr (hex ey ?_)
      rw [ex]
      simp only [SV.den]
      simp [Instr.indexAt, asIntOf, run_underlying hu, hin, Go.sizeOf, run_info hti w, add_off, h1]
     ·simp only [zsI] at h
      subst h
      refine done_val hs hd hr (hex ey ?_)
      rw [ex]
      simp only [SV.den]
      simp [Instr.indexAt, asIntOf, run_underlying hu, hin, Go.sizeOf, run_info hti w, add_off]
    ·cases h
   ·cases h
  ·rename_i n e i off hu
   split at h
   ·rename_i ti hti
    split at h
    ·obtain ⟨q, hq, hm, h3⟩ := pickN_some _ _ h
     subst hm
     have h4 := Option.some.inj h3
     subst h4
     have hin : 0 ≤ (q : Int) ∧ (q : Int) < (n : Int) := by omega
     refine done_val hs hd hr (hex ey ?_)
     rw [ex]
     simp only [SV.den]
     simp [Instr.indexAt, Instr.sureAddr, asIntOf, run_underlying hu, hin, Go.sizeOf, run_info hti w, add_off]
     omega
    ·split at h
     ·rename_i h0lt
      simp only [zaT] at h0lt
      obtain ⟨h0, hlt⟩ := h0lt
      have h0' := nat_of_int h0
      have hlt' : m.toNat < n := zbL hlt
      have hin : 0 ≤ m ∧ m < (n : Int) := by omega
      split at h
      ·rename_i h1
       simp only [zaT] at h1
       have h1 := zbE h1.2
       simp only [zsI] at h
       subst h
       refine done_val hs hd hr (hex ey ?_)
       rw [ex]
       simp only [SV.den]
       simp [Instr.indexAt, Instr.sureAddr, asIntOf, run_underlying hu, hin, Go.sizeOf, run_info hti w, add_off, h1]
      ·simp only [zsI] at h
       subst h
       refine done_val hs hd hr (hex ey ?_)
       rw [ex]
       simp only [SV.den]
       simp [Instr.indexAt, Instr.sureAddr, asIntOf, run_underlying hu, hin, Go.sizeOf, run_info hti w, add_off]
     ·cases h
   ·cases h
  ·cases h
 ·cases h
end
end Sx

/- The further operations: loads and stores of slices, slices that are made, cut, appended to. -/
namespace Sx
open Go
set_option linter.unusedVariables false
set_option linter.unusedSimpArgs false
section
variable {I : Interp} {P : Program} {sp : FuncId → Option Spec} {N : Nat} {w0 : World} {S0 : Ft} {γ : Vn} {D : Nat → Bool} {E : Nat → Option SV} {M : Nat → Option Res} {a : Act} {w : World} {b : Nat} {o : Oper} {Q : Exit → Act → World → Prop} {r : Rec}
theorem msat_add (hs : MSat I γ M w) (hm : ∀ i r, M i = some r → D i = true ∧ r.ids D = true) {γ' : Vn} (hγ : Agree (D · = true) γ γ') {b : Nat} (hb : D b = false) {res : Res} {w' : World} {R : Nat → Prop} (hsz : w.heap.size ≤ w'.heap.size) (hsame : ∀ x, x < w.heap.size → ¬ R x → w'.heap[x]? = w.heap[x]?)
  (hR : ∀ i r x, M i = some r → r.foot γ i x → ¬ R x) (hok : ResOK I γ' b w' res) (hfoot : ∀ x, res.foot γ' b x → x < w'.heap.size ∧ (R x ∨ w.heap.size ≤ x)) : MSat I γ' (updM [(b, res)] M) w' := by
 have old : ∀ i r, i ≠ b → updM [(b, res)] M i = some r → M i = some r := fun i r hi h => by
  unfold updM at h; rw [look_cons, if_neg (Ne.symm hi)] at h; exact h
 have new : ∀ r, updM [(b, res)] M b = some r → r = res := fun r h => by
  unfold updM at h; rw [look_cons, if_pos rfl] at h; exact (Option.some.inj h).symm
 have footM : ∀ i r x, M i = some r → (r.foot γ' i x ↔ r.foot γ i x) := fun i r x h => by rw [foot_agree hγ (hm i r h).1 r]
 have lowM : ∀ i r x, M i = some r → r.foot γ' i x → x < w.heap.size := fun i r x h hx => hs.low i r x h ((footM i r x h).1 hx)
 have clash : ∀ i r x, M i = some r → r.foot γ' i x → res.foot γ' b x → False := fun i r x h hx hy => by
  rcases (hfoot x hy).2 with h1 | h1
  ·exact hR i r x h ((footM i r x h).1 hx) h1
  ·have := lowM i r x h hx; omega
 refine ⟨fun i r h => ?_, fun i r x h hx => ?_, fun i j ri rj x hij hi hj hmut hx hy => ?_⟩
 ·by_cases hi : i = b
  ·subst hi; rw [new r h]; exact hok
  ·have h' := old i r hi h
   refine ResOK.loc (w := w) (fun x hx => hsame x (lowM i r x h' hx) (hR i r x h' ((footM i r x h').1 hx))) (resOK_agree hγ (hm i r h').1 r (hm i r h').2 (hs.ok i r h'))
 ·by_cases hi : i = b
  ·subst hi; rw [new r h] at hx; exact (hfoot x hx).1
  ·exact Nat.lt_of_lt_of_le (lowM i r x (old i r hi h) hx) hsz
 ·by_cases hib : i = b
  ·subst hib
   rw [new ri hi] at hx
   exact clash j rj x (old j rj (Ne.symm hij) hj) hy hx
  ·have hi' := old i ri hib hi
   by_cases hj' : j = b
   ·subst hj'
    rw [new rj hj] at hy
    exact clash i ri x hi' hx hy
   ·have hj'' := old j rj hj' hj
    exact hs.apart i j ri rj x hij hi' hj'' hmut ((footM i ri x hi').1 hx) ((footM j rj x hj'').1 hy)
theorem msat_share (hs : MSat I γ M w) (hm : ∀ i r, M i = some r → D i = true ∧ r.ids D = true) {γ' : Vn} (hγ : Agree (D · = true) γ γ') {b : Nat} (hb : D b = false) {res : Res} {i : Nat} {ri : Res} (hi : M i = some ri) (h1 : ri.mut = false) (h2 : res.mut = false)
  (hok : ResOK I γ' b w res) (hfoot : ∀ x, res.foot γ' b x → ri.foot γ i x) : MSat I γ' (updM [(b, res)] M) w := by
 have old : ∀ i r, i ≠ b → updM [(b, res)] M i = some r → M i = some r := fun i r hi h => by
  unfold updM at h; rw [look_cons, if_neg (Ne.symm hi)] at h; exact h
 have new : ∀ r, updM [(b, res)] M b = some r → r = res := fun r h => by
  unfold updM at h; rw [look_cons, if_pos rfl] at h; exact (Option.some.inj h).symm
 have footM : ∀ i r x, M i = some r → (r.foot γ' i x ↔ r.foot γ i x) := fun i r x h => by rw [foot_agree hγ (hm i r h).1 r]
 refine ⟨fun j r h => ?_, fun j r x h hx => ?_, fun j k rj rk x hjk hj hk hmut hx hy => ?_⟩
 ·by_cases hj : j = b
  ·subst hj; rw [new r h]; exact hok
  ·have h' := old j r hj h
   exact resOK_agree hγ (hm j r h').1 r (hm j r h').2 (hs.ok j r h')
 ·by_cases hj : j = b
  ·subst hj; rw [new r h] at hx; exact hs.low i ri x hi (hfoot x hx)
  ·have h' := old j r hj h
   exact hs.low j r x h' ((footM j r x h').1 hx)
 ·by_cases hjb : j = b
  ·subst hjb; rw [new rj hj] at hmut; rw [h2] at hmut; cases hmut
  ·have hj' := old j rj hjb hj
   by_cases hkb : k = b
   ·subst hkb
    rw [new rk hk] at hy
    have hji : j ≠ i := fun e => by subst e; rw [hi] at hj'; cases hj'; rw [h1] at hmut; cases hmut
    exact hs.apart j i rj ri x hji hj' hi hmut ((footM j rj x hj').1 hx) (hfoot x hy)
   ·have hk' := old k rk hkb hk
    exact hs.apart j k rj rk x hjk hj' hk' hmut ((footM j rj x hj').1 hx) ((footM k rk x hk').1 hy)
theorem msat_write (hs : MSat I γ M w) {i : Nat} {old res : Res} (hi : M i = some old) (hmut : old.mut = true) {w' : World} (hsz : w.heap.size ≤ w'.heap.size) (hsame : ∀ x, x < w.heap.size → ¬ old.foot γ i x → w'.heap[x]? = w.heap[x]?)
  (hok : ResOK I γ i w' res) (hfoot : ∀ x, res.foot γ i x → old.foot γ i x) : MSat I γ (updM [(i, res)] M) w' := by
 have hother : ∀ j r, j ≠ i → updM [(i, res)] M j = some r → M j = some r := fun j r hj h => by
  unfold updM at h; rw [look_cons, if_neg (Ne.symm hj)] at h; exact h
 have hnew : ∀ r, updM [(i, res)] M i = some r → r = res := fun r h => by
  unfold updM at h; rw [look_cons, if_pos rfl] at h; exact (Option.some.inj h).symm
 refine ⟨fun j r h => ?_, fun j r x h hx => ?_, fun j k rj rk x hjk hj hk hm hx hy => ?_⟩
 ·by_cases hj : j = i
  ·subst hj; rw [hnew r h]; exact hok
  ·have h' := hother j r hj h
   exact ResOK.loc (w := w) (fun x hx => hsame x (hs.low j r x h' hx) (fun hx' => hs.apart i j old r x (Ne.symm hj) hi h' hmut hx' hx)) (hs.ok j r h')
 ·by_cases hj : j = i
  ·subst hj; rw [hnew r h] at hx; exact Nat.lt_of_lt_of_le (hs.low _ old x hi (hfoot x hx)) hsz
  ·exact Nat.lt_of_lt_of_le (hs.low j r x (hother j r hj h) hx) hsz
 ·by_cases hji : j = i
  ·subst hji
   rw [hnew rj hj] at hx
   exact hs.apart j k old rk x hjk hi (hother k rk (Ne.symm hjk) hk) hmut (hfoot x hx) hy
  ·have hj' := hother j rj hji hj
   by_cases hki : k = i
   ·subst hki
    rw [hnew rk hk] at hy
    exact hs.apart j k rj old x hjk hj' hi hm hx (hfoot x hy)
   ·exact hs.apart j k rj rk x hjk hj' (hother k rk hki hk) hm hx hy
theorem msat_shares (hs : MSat I γ M w) (hm : ∀ i r, M i = some r → D i = true ∧ r.ids D = true) {γ' : Vn} (hγ : Agree (D · = true) γ γ') {effs : List (Nat × Res)} {i : Nat} {ri : Res} (hi : M i = some ri) (h1 : ri.mut = false)
  (he : ∀ j r, look effs j = some r → r.mut = false ∧ ResOK I γ' j w r ∧ ∀ x, r.foot γ' j x → ri.foot γ i x) : MSat I γ' (updM effs M) w := by
 have part : ∀ j r, updM effs M j = some r → look effs j = some r ∨ (look effs j = none ∧ M j = some r) := fun j r h => by
  unfold updM at h
  cases hl : look effs j with
  | some q => rw [hl] at h; exact .inl h
  | none => rw [hl] at h; exact .inr ⟨rfl, h⟩
 have footM : ∀ i r x, M i = some r → (r.foot γ' i x ↔ r.foot γ i x) := fun i r x h => by rw [foot_agree hγ (hm i r h).1 r]
 refine ⟨fun j r h => ?_, fun j r x h hx => ?_, fun j k rj rk x hjk hj hk hmut hx hy => ?_⟩
 ·rcases part j r h with h' | ⟨_, h'⟩
  ·exact (he j r h').2.1
  ·exact resOK_agree hγ (hm j r h').1 r (hm j r h').2 (hs.ok j r h')
 ·rcases part j r h with h' | ⟨_, h'⟩
  ·exact hs.low i ri x hi ((he j r h').2.2 x hx)
  ·exact hs.low j r x h' ((footM j r x h').1 hx)
 ·rcases part j rj hj with h' | ⟨_, h'⟩
  ·rw [(he j rj h').1] at hmut; cases hmut
  ·have hx' := (footM j rj x h').1 hx
   have hji : j ≠ i := fun e => by subst e; rw [hi] at h'; cases h'; rw [h1] at hmut; cases hmut
   rcases part k rk hk with h'' | ⟨_, h''⟩
   ·exact hs.apart j i rj ri x hji h' hi hmut hx' ((he k rk h'').2.2 x hy)
   ·exact hs.apart j k rj rk x hjk h' h'' hmut hx' ((footM k rk x h'').1 hy)
theorem look_one' {k : Nat} {x : Res} {i : Nat} {r : Res} (h : look [(k, x)] i = some r) : i = k ∧ r = x := by
 rw [look_cons] at h
 split at h
 ·rename_i e; exact ⟨e.symm, (Option.some.inj h).symm⟩
 ·cases h
def Vn.row' (γ : Vn) (b : Nat) (v : Value) (F : Nat → Prop) : Vn := { γ with val := fun i => if i = b then v else γ.val i, foot := fun i => if i = b then F else γ.foot i }
theorem row'_agree {b : Nat} {v : Value} {F : Nat → Prop} (h : D b = false) : Agree (D · = true) γ (γ.row' b v F) :=
 ⟨fun _ _ => rfl, fun i hi => by (have : i ≠ b := fun e => (by subst e; rw [h] at hi; cases hi)); simp [Vn.row', this],
  fun i hi => by (have : i ≠ b := fun e => (by subst e; rw [h] at hi; cases hi)); simp [Vn.row', this]⟩
theorem row'_val {b : Nat} {v : Value} {F : Nat → Prop} : (γ.row' b v F).val b = v := by simp [Vn.row']
theorem row'_foot {b : Nat} {v : Value} {F : Nat → Prop} : (γ.row' b v F).foot b = F := by simp [Vn.row']

/-! Loads and stores. -/
theorem el_den {i sz k c : Nat} {ad : Addr} {n cap : Nat} (h : γ.val i = .slice (some ad) n cap) : (SV.el i sz k c).den γ = .pointer (some (ad.add (k * sz + c))) := by
 simp [SV.den, h, add_add']
theorem loadAt_run {t : TypeId} {x : Operand} {ad : Addr} (ho : o.op = .load t x) (hx : a.eval x = .pointer (some ad)) {u : Value} (h : (loadVar t ad).run P w = .ok u w) : (execOp a.eval o).run P w = .ok (.value u) w := by
 unfold execOp
 simp [ho, hx, Instr.loadAt, Instr.sureAddr, h]
theorem cell_load_core {t : TypeId} {x : Operand} {i sz k c : Nat} {ct : Cont} (ho : o.op = .load t x) (hx : ev E x = some (.el i sz k c)) (hA : k < ct.n → sz = ct.sz → ∃ ad : Addr, (SV.el i sz k c).den γ = .pointer (some (ad.add (k * ct.sz + c))) ∧ ∀ i x, ct.cells[i]? = some x → w.cell? (ad.add i) = some x) (h : cellLoad P some none t i sz k c ct = some r)
  (hs : Sat I N w0 S0 γ D E M a w) (hd : ∀ x, o.dst = some x → x < N) (hr : RecIn D b r) : o.wp P a w (Done I N w0 S0 γ D E M b o.dst r) Q := by
 have hev := eval_of hs hx
 unfold cellLoad at h
 split at h
 ·rename_i hall
  simp only [zaT] at hall
  obtain ⟨⟨hk, hsz⟩, hlt⟩ := hall
  obtain ⟨ti, hti, hu, hc⟩ := known_info hk
  have hsz' := zbE hsz
  have hlt' : k < ct.n := zbL hlt
  obtain ⟨ad, e1, hcell⟩ := hA hlt' hsz'
  ·rw [e1] at hev
   subst hsz'
   have cellAt : ∀ j v, j < ct.sz → (ct.at k)[j]? = some v → w.cell? (ad.add (k * ct.sz + j)) = some v := fun j v hj hv => hcell _ _ (by rw [Cont.cell_get ct hlt' hj]; exact hv)
   split at h
   ·rename_i hagg
    have key : ∀ (cs : List Value), (∀ j v, cs[j]? = some v → c + j < ct.sz ∧ (ct.at k)[c + j]? = some v) → cs.length = ti.size → (loadVar t (ad.add (k * ct.sz + c))).run P w = .ok (.agg cs.toArray) w := by
     intro cs hcs hlen
     have hl := run_loadCells_list (P := P) w (ad.add (k * ct.sz + c)) cs (fun j v hv => by
      obtain ⟨h1, h2⟩ := hcs j v hv
      rw [add_add', Nat.add_assoc]
      exact cellAt _ _ h1 h2)
     rw [hlen] at hl
     simp [loadVar, Sem.run_bind, run_isAgg hu w, hagg, Go.sizeOf, run_info hti w, hl]
    split at h
    ·rename_i h2
     simp only [zaT] at h2
     obtain rfl := zbE h2.1
     have h3 := zbE h2.2
     simp only [zsI] at h
     subst h
     refine done_val hs hd hr (loadAt_run ho hev ?_)
     have := key (ct.at k).toList (fun j v hv => by
      have hj : j < (ct.at k).size := by have := (List.getElem?_eq_some_iff.1 hv).1; simpa using this
      exact ⟨by rw [Cont.at_size] at hj; omega, by rw [Nat.zero_add]; simpa using hv⟩) (by rw [Array.length_toList, Cont.at_size, ← h3, hc])
     simpa [SV.den] using this
    ·split at h
     ·rename_i h2
      have h2' := zbL h2
      simp only [zsI] at h
      subst h
      refine done_val hs hd hr (loadAt_run ho hev ?_)
      have hex : ((ct.at k).extract c (c + P.cellsOf t)).toList = ((ct.at k).toList.drop c).take (P.cellsOf t) := by
       simp [Array.toList_extract, List.extract_eq_take_drop]
      have := key (((ct.at k).toList.drop c).take (P.cellsOf t)) (fun j v hv => by
       rw [List.getElem?_take] at hv
       split at hv
       ·rw [List.getElem?_drop] at hv
        exact ⟨by omega, by simpa using hv⟩
       ·cases hv) (by simp [Cont.at_size]; omega)
      simp only [SV.den]
      rw [this, ← hex]
     ·cases h
   ·rename_i hagg
    split at h
    ·rename_i h2
     have h2' : c < ct.sz := zbL h2
     simp only [zsI] at h
     subst h
     refine done_val hs hd hr (loadAt_run ho hev ?_)
     have hcs : c < (ct.at k).size := by rw [Cont.at_size]; exact h2'
     have hv := cellAt c _ h2' (Array.getElem?_eq_getElem hcs)
     simp [loadVar, Sem.run_bind, run_isAgg hu w, hagg, hv, SV.den, Array.getD, hcs]
    ·cases h
 ·cases h
theorem cell_load_sound {t : TypeId} {x : Operand} {i sz k c : Nat} {ct : Cont} (ho : o.op = .load t x) (hx : ev E x = some (.el i sz k c)) (hM : M i = some (.ro ct) ∨ ∃ e, M i = some (.own e ct)) (h : cellLoad P some none t i sz k c ct = some r)
  (hs : Sat I N w0 S0 γ D E M a w) (hd : ∀ x, o.dst = some x → x < N) (hr : RecIn D b r) : o.wp P a w (Done I N w0 S0 γ D E M b o.dst r) Q := by
 refine cell_load_core ho hx (fun hk hsz => ?_) h hs hd hr
 rcases reads_shape (row_reads hs.mem hM) with ⟨_, h0⟩ | ⟨ad, cap, e1, _, hspot, _, _, hcell⟩
 ·omega
 ·subst hsz; exact ⟨ad, el_den e1, hcell⟩
theorem opt_load_sound {t : TypeId} {x : Operand} {i sz k c : Nat} {ks : List IntKind} {l : List (List Int)} (ho : o.op = .load t x) (hx : ev E x = some (.el i sz k c)) (hM : M i = some (.opt ks l)) (h : cellLoad P some none t i sz k c (.structs ks l) = some r)
  (hs : Sat I N w0 S0 γ D E M a w) (hd : ∀ x, o.dst = some x → x < N) (hr : RecIn D b r) : o.wp P a w (Done I N w0 S0 γ D E M b o.dst r) Q := by
 refine cell_load_core ho hx (fun hk hsz => ?_) h hs hd hr
 simp only [Cont.n] at hk
 obtain ⟨ad, xs, e1, rfl, _, _, hcell⟩ := opt_ptr (hs.mem.ok i _ hM) (Nat.ble_eq_true_of_le (by omega))
 simp only [List.length_cons, List.length_nil] at hk
 obtain rfl : k = 0 := by omega
 subst hsz
 refine ⟨ad, ?_, fun i x hx => hcell i x ?_⟩
 ·simp [SV.den, e1, add_add']
 ·simpa [Cont.cells, ecells] using hx
/-! Deep data. -/
theorem kindsD_eq : ∀ {gs : List DS} {ks : List IntKind}, kindsD gs = some ks → gs = ks.map DS.n
 | [], ks, h => by simp only [kindsD, zsI] at h; subst h; rfl
 | f :: fs, ks, h => by
  unfold kindsD at h
  split at h
  ·split at h
   ·rename_i q rs hq
    simp only [zsI] at h
    subst h
    rw [kindsD_eq hq]; rfl
   ·cases h
  ·cases h
theorem getD_map_dd (x : List DD) (c : Nat) : (x.map DD.i).getD c 0 = (x.getD c (.n 0)).i := by
 simp only [List.getD_eq_getElem?_getD, List.getElem?_map]
 cases x[c]? <;> rfl
theorem getD_map_ddI (l : List (List DD)) (k : Nat) : (l.map ddI).getD k [] = ddI (l.getD k []) := by
 simp only [List.getD_eq_getElem?_getD, List.getElem?_map]
 cases l[k]? <;> rfl
theorem deep_flat {F : Nat → Prop} {d : Nat} {ks : List IntKind} {v : Value} {l : List (List DD)} (h : DeepN F w d (ks.map DS.n) v l) : ReadsC F w v (.structs ks (l.map ddI)) := by
 cases d with
 | zero => exact h.elim
 | succ d =>
  obtain ⟨vs, h1, h2⟩ := h
  have hv : vs = (Cont.structs ks (l.map ddI)).cells := by
   have hl1 := h1.1
   have hl2 := Cont.cells_length (Cont.structs ks (l.map ddI))
   simp only [Cont.n, Cont.sz, List.length_map] at hl1 hl2
   apply List.ext_getElem?
   intro t
   rcases Nat.lt_or_ge t (l.length * ks.length) with ht | ht
   ·have hk0 : 0 < ks.length := by
     rcases Nat.eq_zero_or_pos ks.length with h0 | h0
     ·rw [h0] at ht; omega
     ·exact h0
    have hq : t / ks.length < l.length := (Nat.div_lt_iff_lt_mul hk0).2 ht
    have hr : t % ks.length < ks.length := Nat.mod_lt _ hk0
    have et : t / ks.length * ks.length + t % ks.length = t := by rw [Nat.mul_comm]; exact Nat.div_add_mod t ks.length
    have hf : (ks.map DS.n)[t % ks.length]? = some (.n ks[t % ks.length]) := by rw [List.getElem?_map, List.getElem?_eq_getElem hr]; rfl
    obtain ⟨y, hy, hm⟩ := h2 (t / ks.length) (t % ks.length) _ hq hf
    simp only [List.length_map] at hy
    rw [et] at hy
    have hc := Cont.cell_get (Cont.structs ks (l.map ddI)) (i := t / ks.length) (j := t % ks.length) (by simp only [Cont.n, List.length_map]; exact hq) (by simp only [Cont.sz]; exact hr)
    simp only [Cont.sz, et] at hc
    rw [hy, hc]
    simp only [Cont.at, getD_map_ddI]
    have hg := ecellsFrom_get (ddI (l.getD (t / ks.length) [])) ks 0 (t % ks.length) _ (List.getElem?_eq_getElem hr)
    simp only [ecells, List.getElem?_toArray, hg, Nat.zero_add]
    rw [hm]
    simp only [ddAt, ddI, getD_map_dd]
   ·rw [List.getElem?_eq_none_iff.2 (by omega), List.getElem?_eq_none_iff.2 (by omega)]
  unfold ReadsC
  rw [← hv]
  simpa [Cont.n, Cont.sz] using h1
theorem structs_ints {F : Nat → Prop} {k : IntKind} {v : Value} {l : List (List Int)} (h : ReadsC F w v (.structs [k] l)) : ReadsC F w v (.ints k (l.map fun x => x.getD 0 0)) := by
 have e : ∀ l : List (List Int), (Cont.ints k (l.map fun x => x.getD 0 0)).cells = (Cont.structs [k] l).cells := fun l => by
  induction l with
  | nil => rfl
  | cons x l ih =>
   simp only [Cont.cells, List.map_cons, List.flatMap_cons] at ih ⊢
   rw [ih]; rfl
 unfold ReadsC at h ⊢
 rw [e]
 simpa [Cont.n, Cont.sz] using h
theorem deepRes_ok {γ : Vn} {i : Nat} {d : Nat} {gs : List DS} {l : List (List DD)} (h : DeepN (γ.foot i) w d gs (γ.val i) l) : ResOK I γ i w (deepRes gs l) := by
 unfold deepRes
 split
 ·rename_i ks hk
  rw [kindsD_eq hk] at h
  have hf := deep_flat h
  split
  ·rename_i k
   have := structs_ints hf
   simp only [ResOK]
   have e : (l.map ddI).map (fun x => x.getD 0 0) = l.map fun x => (x.getD 0 (.n 0)).i := by
    rw [List.map_map]
    congr 1
    funext x
    exact getD_map_dd x 0
   rw [← e]; exact this
  ·exact hf
 ·exact ⟨d, h⟩
theorem deepRes_mut (gs : List DS) (l : List (List DD)) : (deepRes gs l).mut = false := by
 unfold deepRes; repeat' (first | rfl | split)
theorem deepRes_foot (gs : List DS) (l : List (List DD)) (γ : Vn) (i : Nat) : (deepRes gs l).foot γ i = γ.foot i := by
 unfold deepRes; repeat' (first | rfl | split)
theorem dcells_sound {γ : Vn} {F : Nat → Prop} {x : List DD} {V : Nat → Value} {d : Nat} : ∀ (fs : List DS) (c b : Nat),
  (∀ (j : Nat) (f : DS), fs[j]? = some f → match f with
   | .n q => V (c + j) = .int q (x.getD (c + j) (.n 0)).i
   | .s gs => γ.val (b + j) = V (c + j) ∧ DeepN F w d gs (V (c + j)) (x.getD (c + j) (.n 0)).l) → (∀ j, j < fs.length → γ.foot (b + j) = F) →
  (∀ j, j < fs.length → (SV.dens γ (dcells x fs c b).1)[j]? = some (V (c + j))) ∧ (SV.dens γ (dcells x fs c b).1).length = fs.length ∧
   ∀ i r, look (dcells x fs c b).2 i = some r → (b ≤ i ∧ i < b + fs.length) ∧ r.mut = false ∧ ResOK I γ i w r ∧ r.foot γ i = F
 | [], c, b, _, _ => ⟨fun j h => by simp at h, rfl, fun i r h => by simp [dcells, look] at h⟩
 | f :: fs, c, b, h, hF => by
  obtain ⟨i1, i2, i3⟩ := dcells_sound (γ := γ) (F := F) (x := x) (V := V) (d := d) fs (c + 1) (b + 1)
   (fun j g hg => by
    have := h (j + 1) g (by simpa using hg)
    rw [show c + 1 + j = c + (j + 1) by omega, show b + 1 + j = b + (j + 1) by omega]; exact this)
   (fun j hj => by rw [show b + 1 + j = b + (j + 1) by omega]; exact hF (j + 1) (by simpa using hj))
  have h0 := h 0 f rfl
  have hF0 := hF 0 (by simp)
  rw [Nat.add_zero] at hF0
  simp only [Nat.add_zero] at h0
  cases f with
  | n q =>
   refine ⟨fun j hj => ?_, by simp [dcells, SV.dens, i2], fun i r hi => ?_⟩
   ·cases j with
    | zero => simp only [dcells, SV.dens, SV.den, List.getElem?_cons_zero, Nat.add_zero]; rw [h0]
    | succ j =>
     simp only [dcells, SV.dens, List.getElem?_cons_succ]
     rw [show c + (j + 1) = c + 1 + j by omega]; exact i1 j (by simpa using hj)
   ·obtain ⟨a1, a2, a3, a4⟩ := i3 i r (by simpa [dcells] using hi)
    exact ⟨⟨by omega, by simp only [List.length_cons]; omega⟩, a2, a3, a4⟩
  | s gs =>
   obtain ⟨v0, d0⟩ := h0
   refine ⟨fun j hj => ?_, by simp [dcells, SV.dens, i2], fun i r hi => ?_⟩
   ·cases j with
    | zero => simp only [dcells, SV.dens, SV.den, List.getElem?_cons_zero, Nat.add_zero]; rw [v0]
    | succ j =>
     simp only [dcells, SV.dens, List.getElem?_cons_succ]
     rw [show c + (j + 1) = c + 1 + j by omega]; exact i1 j (by simpa using hj)
   ·simp only [dcells] at hi
    rw [look_cons] at hi
    split at hi
    ·rename_i e
     subst e
     simp only [zsI] at hi
     subst hi
     refine ⟨⟨Nat.le_refl _, by simp⟩, deepRes_mut _ _, deepRes_ok (d := d) ?_, by rw [deepRes_foot]; exact hF0⟩
     rw [hF0, v0]; exact d0
    ·obtain ⟨a1, a2, a3, a4⟩ := i3 i r hi
     exact ⟨⟨by omega, by simp only [List.length_cons]; omega⟩, a2, a3, a4⟩
def Vn.rows' (γ : Vn) (b : Nat) (V : Nat → Value) (F : Nat → Prop) : Vn := { γ with val := fun i => if fresh b i = true then V (i - b) else γ.val i, foot := fun i => if fresh b i = true then F else γ.foot i }
theorem rows'_agree {b : Nat} {V : Nat → Value} {F : Nat → Prop} (h : ∀ i, fresh b i = true → D i = false) : Agree (D · = true) γ (γ.rows' b V F) :=
 ⟨fun _ _ => rfl, fun i hi => by (have : ¬ fresh b i = true := fun e => by rw [h i e] at hi; cases hi); simp [Vn.rows', this],
  fun i hi => by (have : ¬ fresh b i = true := fun e => by rw [h i e] at hi; cases hi); simp [Vn.rows', this]⟩
theorem fresh_add {b j : Nat} (h : j < 64) : fresh b (b + j) = true := by
 unfold fresh
 simp only [zaT, Nat.ble_eq, Nat.blt_eq]; omega
theorem deep_load_sound {t : TypeId} {x : Operand} {i sz k c : Nat} {fs : List DS} {l : List (List DD)} (ho : o.op = .load t x) (hx : ev E x = some (.el i sz k c)) {rd : List Nat} {m : Nat} {rm : Res} (hM : M m = some rm) (hmu : rm.mut = false) (hmf : rm.foot γ m = γ.foot m) {G : Nat → Prop} {d : Nat} {vs : List Value} (h1 : ReadsIn G w (γ.val i) fs.length l.length vs)
  (h2 : ∀ k c f, k < l.length → fs[c]? = some f → ∃ y, vs[k * fs.length + c]? = some y ∧ match f with | .n q => y = .int q (ddAt l k c).i | .s gs => DeepN (γ.foot m) w d gs y (ddAt l k c).l) (h : deepLoad P b some none t rd sz k c fs l = some r)
  (hs : Sat I N w0 S0 γ D E M a w) (hb : ∀ i, fresh b i = true → D i = false) (hd : ∀ x, o.dst = some x → x < N) (hr : RecIn D b r) : o.wp P a w (Done I N w0 S0 γ D E M b o.dst r) Q := by
 have hev := eval_of hs hx
 unfold deepLoad at h
 split at h
 case h_2 => cases h
 rename_i hall
 simp only [zaT] at hall
 obtain ⟨⟨hk, hsz⟩, hlt⟩ := hall
 obtain ⟨ti, hti, hu, hc⟩ := known_info hk
 obtain rfl := zbE hsz
 have hlt' : k < l.length := zbL hlt
 ·skip
  rcases reads_shape h1 with ⟨_, h0⟩ | ⟨ad, cap, e1, _, _, _, _, hcell⟩
  ·omega
  rw [el_den e1] at hev
  have hlen := h1.1
  have cellAt : ∀ j, j < fs.length → w.cell? (ad.add (k * fs.length + j)) = some (vs.getD (k * fs.length + j) undef) := fun j hj => by
   have hb' : k * fs.length + j < vs.length := by
    rw [hlen]
    calc k * fs.length + j < k * fs.length + fs.length := by omega
     _ = (k + 1) * fs.length := by rw [Nat.succ_mul]
     _ ≤ l.length * fs.length := Nat.mul_le_mul_right _ hlt'
   refine hcell _ _ ?_
   rw [List.getElem?_eq_getElem hb', List.getD_eq_getElem?_getD, List.getElem?_eq_getElem hb']; rfl
  have cellIs : ∀ (j : Nat) (f : DS), fs[j]? = some f → match f with
    | .n q => vs.getD (k * fs.length + j) undef = .int q (ddAt l k j).i
    | .s gs => DeepN (γ.foot m) w d gs (vs.getD (k * fs.length + j) undef) (ddAt l k j).l := fun j f hf => by
   obtain ⟨y, hy, hm⟩ := h2 k j f hlt' hf
   have ey : vs.getD (k * fs.length + j) undef = y := by rw [List.getD_eq_getElem?_getD, hy]; rfl
   rw [ey]; exact hm
  split at h
  ·rename_i hagg
   split at h
   case h_2 => cases h
   rename_i hn
   simp only [zaT, Nat.ble_eq] at hn
   obtain ⟨hn1, hn2⟩ := hn
   simp only [zsI] at h
   subst h
   have hγ : Agree (D · = true) γ (γ.rows' b (fun j => vs.getD (k * fs.length + (c + j)) undef) (γ.foot m)) := rows'_agree hb
   have hseg : ((fs.drop c).take (P.cellsOf t)).length = P.cellsOf t := by rw [List.length_take, List.length_drop]; omega
   obtain ⟨q1, q2, q3⟩ := dcells_sound (I := I) (γ := γ.rows' b (fun j => vs.getD (k * fs.length + (c + j)) undef) (γ.foot m)) (w := w) (F := γ.foot m) (x := l.getD k []) (V := fun j => vs.getD (k * fs.length + j) undef) (d := d) ((fs.drop c).take (P.cellsOf t)) c b
    (fun j f hf => by
     have hj : j < P.cellsOf t := by have := (List.getElem?_eq_some_iff.1 hf).1; omega
     rw [List.getElem?_take, if_pos hj, List.getElem?_drop] at hf
     have hm := cellIs (c + j) f hf
     cases f with
     | n q => exact hm
     | s gs =>
      refine ⟨?_, hm⟩
      simp only [Vn.rows', fresh_add (b := b) (show j < 64 by omega), if_true, Nat.add_sub_cancel_left])
    (fun j hj => by simp only [Vn.rows', fresh_add (b := b) (show j < 64 by omega), if_true])
   have hrun : (loadVar t (ad.add (k * fs.length + c))).run P w = .ok (.agg (SV.dens (γ.rows' b (fun j => vs.getD (k * fs.length + (c + j)) undef) (γ.foot m)) (dcells (l.getD k []) ((fs.drop c).take (P.cellsOf t)) c b).1).toArray) w := by
    have hl := run_loadCells_list (P := P) w (ad.add (k * fs.length + c)) (SV.dens (γ.rows' b (fun j => vs.getD (k * fs.length + (c + j)) undef) (γ.foot m)) (dcells (l.getD k []) ((fs.drop c).take (P.cellsOf t)) c b).1) (fun j v hv => by
     have hj : j < ((fs.drop c).take (P.cellsOf t)).length := by have := (List.getElem?_eq_some_iff.1 hv).1; omega
     rw [q1 j hj] at hv
     simp only [zsI] at hv
     rw [add_add', ← hv, Nat.add_assoc]
     exact cellAt _ (by omega))
    rw [q2, hseg] at hl
    generalize SV.dens (γ.rows' b (fun j => vs.getD (k * fs.length + (c + j)) undef) (γ.foot m)) (dcells (l.getD k []) ((fs.drop c).take (P.cellsOf t)) c b).1 = G at hl ⊢
    rw [hc] at hl
    simp [loadVar, Sem.run_bind, run_isAgg hu w, hagg, Go.sizeOf, run_info hti w, hl]
   refine done_gen hs hd hr hγ (msat_shares hs.mem hs.mids hγ hM hmu fun j r' hj => ?_) hs.fr ?_ (loadAt_run ho hev ?_)
   ·obtain ⟨_, z1, z2, z3⟩ := q3 j r' hj
    exact ⟨z1, z2, fun y hy => by rw [z3] at hy; rw [hmf]; exact hy⟩
   ·intro j r' y hj hy
    obtain ⟨_, z1, z2, z3⟩ := q3 j r' hj
    rw [z3] at hy
    rw [← hmf] at hy
    exact hs.share (r' := r') hM hy z1
   ·rw [mkAgg_den]; exact hrun
  ·rename_i hagg
   split at h
   case h_2 => cases h
   rename_i f hf
   have hcf : c < fs.length := (List.getElem?_eq_some_iff.1 hf).1
   have hcv := cellAt c hcf
   have hm := cellIs c f hf
   split at h
   ·rename_i q
    simp only [zsI] at h
    subst h
    refine done_val hs hd hr (loadAt_run ho hev ?_)
    have hm : vs.getD (k * fs.length + c) undef = .int q (ddAt l k c).i := hm
    rw [hm] at hcv
    simp [loadVar, Sem.run_bind, run_isAgg hu w, hagg, hcv, SV.den]
   ·rename_i gs
    simp only [zsI] at h
    subst h
    have hm : DeepN (γ.foot m) w d gs (vs.getD (k * fs.length + c) undef) (ddAt l k c).l := hm
    have hbD : D b = false := hb b (fresh_self b)
    have hγ : Agree (D · = true) γ (γ.row' b (vs.getD (k * fs.length + c) undef) (γ.foot m)) := row'_agree hbD
    refine done_gen hs hd hr hγ ?_ hs.fr ?_ (loadAt_run ho hev ?_)
    ·refine msat_share hs.mem hs.mids hγ hbD hM hmu (deepRes_mut _ _) (deepRes_ok (d := d) ?_) (fun y hy => ?_)
     ·rw [row'_val, row'_foot]; exact hm
     ·rw [deepRes_foot, row'_foot] at hy; rw [hmf]; exact hy
    ·intro j z y hj hy
     obtain ⟨rfl, rfl⟩ := look_one' hj
     rw [deepRes_foot, row'_foot, ← hmf] at hy
     exact hs.share (r' := deepRes gs (ddAt l k c).l) hM hy (deepRes_mut _ _)
    ·simp [loadVar, Sem.run_bind, run_isAgg hu w, hagg, hcv, SV.den, row'_val]
theorem el_load_sound {t : TypeId} {x : Operand} {i sz k c : Nat} (ho : o.op = .load t x) (hx : ev E x = some (.el i sz k c)) (h : elLoad P M b some none t i sz k c = some r)
  (hs : Sat I N w0 S0 γ D E M a w) (hb : ∀ i, fresh b i = true → D i = false) (hd : ∀ x, o.dst = some x → x < N) (hr : RecIn D b r) : o.wp P a w (Done I N w0 S0 γ D E M b o.dst r) Q := by
 unfold elLoad at h
 split at h
 ·rename_i ct hM; exact cell_load_sound ho hx (.inl hM) h hs hd hr
 ·rename_i e ct hM; exact cell_load_sound ho hx (.inr ⟨_, hM⟩) h hs hd hr
 ·rename_i ks l hM; exact opt_load_sound ho hx hM h hs hd hr
 ·rename_i xss hM
  split at h
  ·rename_i hall
   simp only [zaT, Bool.not_eq_true'] at hall
   obtain ⟨⟨⟨⟨hk, hagg⟩, h2a⟩, h2b⟩, hlt⟩ := hall
   obtain rfl := zbE h2a
   obtain rfl := zbE h2b
   have hlt' : k < xss.length := zbL hlt
   obtain ⟨ti, hti, hu, hc⟩ := known_info hk
   simp only [zsI] at h
   subst h
   have hev := eval_of hs hx
   obtain ⟨vs, h1, h3, h4⟩ := hs.mem.ok i _ hM
   rcases reads_shape h3 with ⟨_, h0⟩ | ⟨ad, cap, e1, _, _, _, _, hcell⟩
   ·omega
   ·rw [el_den e1] at hev
    have hkv : vs[k]? = some vs[k] := List.getElem?_eq_getElem (by omega)
    have hcv := hcell k _ hkv
    have hbD : D b = false := hb b (fresh_self b)
    have hγ : Agree (D · = true) γ (γ.row' b vs[k] (γ.foot i)) := row'_agree hbD
    refine done_gen hs hd hr hγ ?_ hs.fr ?_ (loadAt_run ho hev ?_)
    ·refine msat_share hs.mem hs.mids hγ hbD hM rfl rfl ?_ (fun x hx => ?_)
     ·simp only [ResOK, row'_val, row'_foot]
      have hxs : xss[k]? = some (xss.getD k []) := by simp [List.getD, hlt']
      exact h4 k _ _ hkv hxs
     ·simp only [Res.foot, row'_foot] at hx; exact hx
    ·intro j x y hj hy
     obtain ⟨rfl, rfl⟩ := look_one' hj
     simp only [Res.foot, row'_foot] at hy
     exact hs.share hM hy rfl
    ·simp only [Nat.mul_one, Nat.add_zero]
     simp [loadVar, Sem.run_bind, run_isAgg hu w, hagg, hcv, SV.den, row'_val]
  ·cases h
 ·rename_i e' j hM
  split at h
  case h_2 => cases h
  rename_i xss hP
  split at h
  ·rename_i hall
   simp only [zaT, Bool.not_eq_true'] at hall
   obtain ⟨⟨⟨⟨hk, hagg⟩, h2a⟩, h2b⟩, hlt⟩ := hall
   obtain rfl := zbE h2a
   obtain rfl := zbE h2b
   have hlt' : k < xss.length := zbL hlt
   obtain ⟨ti, hti, hu, hc⟩ := known_info hk
   simp only [zsI] at h
   subst h
   have hev := eval_of hs hx
   obtain ⟨_, h1, _, h3, h4⟩ := pool_reads hs.mem hM hP
   generalize poolVs (γ.val j) = vs at *
   rcases reads_shape h3 with ⟨_, h0⟩ | ⟨ad, cap, e1, _, _, _, _, hcell⟩
   ·omega
   ·rw [el_den e1] at hev
    have hkv : vs[k]? = some vs[k] := List.getElem?_eq_getElem (by omega)
    have hcv := hcell k _ hkv
    have hbD : D b = false := hb b (fresh_self b)
    have hγ : Agree (D · = true) γ (γ.row' b vs[k] (γ.foot j)) := row'_agree hbD
    refine done_gen hs hd hr hγ ?_ hs.fr ?_ (loadAt_run ho hev ?_)
    ·refine msat_share hs.mem hs.mids hγ hbD hP rfl rfl ?_ (fun x hx => ?_)
     ·simp only [ResOK, row'_val, row'_foot]
      have hxs : xss[k]? = some (xss.getD k []) := by simp [List.getD, hlt']
      exact h4 k _ _ hkv hxs
     ·simp only [Res.foot, row'_foot] at hx; exact hx
    ·intro j' x y hj hy
     obtain ⟨rfl, rfl⟩ := look_one' hj
     simp only [Res.foot, row'_foot] at hy
     exact hs.share hP hy rfl
    ·simp only [Nat.mul_one, Nat.add_zero]
     simp [loadVar, Sem.run_bind, run_isAgg hu w, hagg, hcv, SV.den, row'_val]
  ·cases h
 ·rename_i fs l hM
  obtain ⟨d, hD⟩ := hs.mem.ok i _ hM
  cases d with
  | zero => exact hD.elim
  | succ d =>
   obtain ⟨vs, h1, h2⟩ := hD
   exact deep_load_sound ho hx hM rfl rfl h1 h2 h hs hb hd hr
 ·rename_i e' sz' j hM
  split at h
  ·rename_i fs l zz hP
   split at h
   ·rename_i hz
    simp only [zaT] at hz
    obtain ⟨_, _, h1, _, _, d, h2⟩ := dpool_reads hs.mem hM hP (zbE hz.1) (zbL hz.2)
    exact deep_load_sound ho hx hP rfl rfl h1 h2 h hs hb hd hr
   ·cases h
  ·cases h
 ·rename_i e' z j k0 c0 m hM
  split at h
  ·rename_i fs l zz hP
   split at h
   ·rename_i hall
    simp only [zaT, Bool.not_eq_true'] at hall
    obtain ⟨⟨⟨⟨⟨⟨⟨hk, hagg⟩, h1⟩, h2⟩, h3⟩, h4⟩, h5⟩, h6⟩ := hall
    obtain rfl := zbE h1
    obtain rfl := zbE h2
    obtain rfl := zbE h4
    obtain rfl := zbE h6
    have hc : c < fs.length := zbL h3
    have hk0 : k < l.length := zbL h5
    obtain ⟨ti, hti, hu, hcs⟩ := known_info hk
    simp only [zsI] at h
    subst h
    have hev := eval_of hs hx
    obtain ⟨_, _, hR, hD⟩ := dhole_reads hs.mem hM hP rfl (Nat.lt_of_le_of_lt (Nat.zero_le _) hc)
    have hlt : k * fs.length + c < (poolVs (γ.val j)).length := by
     rw [hD.1]
     have : (k + 1) * fs.length ≤ l.length * fs.length := Nat.mul_le_mul_right _ hk0
     rw [Nat.succ_mul] at this
     omega
    rcases reads_shape hR with ⟨_, h0⟩ | ⟨ad, cap, e1, _, _, _, _, hcell⟩
    ·omega
    ·rw [el_den e1] at hev
     have hcv := hcell (k * fs.length + c) (γ.val m) (by rw [List.getElem?_set_self hlt])
     refine done_val hs hd hr (loadAt_run ho hev ?_)
     simp [loadVar, Sem.run_bind, run_isAgg hu w, hagg, hcv, SV.den]
   ·cases h
  ·cases h
 ·cases h
theorem elS_den (γ : Vn) : ∀ (ks : List IntKind) (cs : List SV) (xs pre : List Int), elS ks cs = some xs → xs.length = ks.length ∧ (SV.dens γ cs).take ks.length = ecellsFrom (pre ++ xs) ks pre.length
 | [], cs, xs, pre, h => by
  simp only [elS, zsI] at h
  subst h
  exact ⟨rfl, by simp [ecellsFrom]⟩
 | k :: ks, cs, xs, pre, h => by
  unfold elS at h
  split at h
  ·rename_i heq; cases heq
  ·rename_i k' ks' q m l heq
   injection heq with e1 e2
   subst e1 e2
   split at h
   ·rename_i r hq hr
    simp only [zsI] at h
    subst h
    have hq' := of_decide_eq_true hq
    subst hq'
    obtain ⟨h1, h2⟩ := elS_den γ ks l r (pre ++ [m]) hr
    refine ⟨by simp [h1], ?_⟩
    rw [List.append_assoc, zlA] at h2
    simp only [SV.dens, SV.den, List.length_cons, List.take_succ_cons, ecellsFrom]
    rw [show List.take ks.length (SV.dens γ l) = ecellsFrom (pre ++ m :: r) ks (pre.length + 1) from h2]
    simp [List.getD]
   ·cases h
  ·cases h
theorem elS_ints (ks : List IntKind) : ∀ (l : List Value) (xs : List Int), l.length = ks.length → elS ks (l.map SV.v) = some xs → l = ecellsFrom xs ks 0 := fun l xs hl h => by
 have γ0 : Vn := ⟨fun _ => 0, fun _ => undef, fun _ _ => False⟩
 have := (elS_den γ0 ks (l.map SV.v) xs [] h).2
 rw [dens_map_v, ← hl, List.take_of_length_le (Nat.le_refl _)] at this
 simpa using this
theorem flat_set {α β : Type} {f : α → List β} {m : Nat} : ∀ (l : List α) (k : Nat) (x : α), (∀ y, (f y).length = m) → k < l.length → (l.set k x).flatMap f = (l.flatMap f).take (k * m) ++ f x ++ (l.flatMap f).drop (k * m + m)
 | [], k, x, _, hk => by simp at hk
 | y :: l, 0, x, h, _ => by
  simp only [List.set_cons_zero, List.flatMap_cons, Nat.zero_mul, List.take_zero, List.nil_append, Nat.zero_add]
  rw [← h y, List.drop_left]
 | y :: l, k + 1, x, h, hk => by
  have ih := flat_set (f := f) (m := m) l k x h (by simpa using hk)
  simp only [List.set_cons_succ, List.flatMap_cons, ih, Nat.succ_mul]
  have e1 : List.take (k * m + m) (f y ++ List.flatMap f l) = f y ++ List.take (k * m) (List.flatMap f l) := by
   rw [Nat.add_comm, List.take_add, ← h y, List.take_left, List.drop_left]
  have e2 : List.drop (k * m + m + m) (f y ++ List.flatMap f l) = List.drop (k * m + m) (List.flatMap f l) := by
   rw [show k * m + m + m = m + (k * m + m) by omega, ← List.drop_drop, ← h y, List.drop_left]
  rw [e1, e2]
  simp [List.append_assoc]
theorem flat_take {α β : Type} {f : α → List β} {m : Nat} : ∀ (l : List α) (k : Nat), (∀ y, (f y).length = m) → (l.flatMap f).take (k * m) = (l.take k).flatMap f
 | [], k, _ => by simp
 | y :: l, 0, h => by simp
 | y :: l, k + 1, h => by
  rw [List.flatMap_cons, Nat.succ_mul, Nat.add_comm, List.take_add, List.take_succ_cons, List.flatMap_cons]
  conv => lhs; rw [← h y, List.take_left, List.drop_left]
  rw [h y, flat_take l k h]
theorem take_mid {α : Type} (L E : List α) {a e n : Nat} (he : E.length = e) (h1 : a + e ≤ n) (h2 : n ≤ L.length) : (L.take a ++ E ++ L.drop (a + e)).take n = (L.take n).take a ++ E ++ (L.take n).drop (a + e) := by
 have l2 : (L.take a ++ E).length = a + e := by simp [he]; omega
 rw [List.take_append, l2, List.take_of_length_le (by rw [l2]; exact h1), List.take_take, Nat.min_eq_left (by omega), List.drop_take]
theorem ecells_one (ks : List IntKind) (xs : List Int) : ∀ v ∈ ecellsFrom xs ks 0, v.oneCell' = true := by
 have go : ∀ (ks : List IntKind) (c : Nat), ∀ v ∈ ecellsFrom xs ks c, v.oneCell' = true := by
  intro ks
  induction ks with
  | nil => intro c v hv; simp [ecellsFrom] at hv
  | cons k ks ih =>
   intro c v hv
   simp only [ecellsFrom, List.mem_cons] at hv
   rcases hv with rfl | hv
   ·rfl
   ·exact ih _ v hv
 exact go ks 0
theorem el_store_sound {t : TypeId} {x y : Operand} {i sz k c : Nat} {z : SV} (ho : o.op = .store t x y) (hx : ev E x = some (.el i sz k c)) (hy : ev E y = some z) (h : elStore P M some none t i sz k c z = some r)
  (hs : Sat I N w0 S0 γ D E M a w) (hd : ∀ x, o.dst = some x → x < N) (hr : RecIn D b r) : o.wp P a w (Done I N w0 S0 γ D E M b o.dst r) Q := by
 have hev := eval_of hs hx
 have hey := eval_of hs hy
 unfold elStore at h
 split at h
 ·rename_i ti e kd l q m hti hM
  split at h
  ·rename_i h1
   simp only [zaT, decide_eq_true_eq] at h1
   obtain ⟨h1, hlt⟩ := h1
   have hsz := zbE h1.1.1.1
   obtain rfl := zbE h1.1.1.2
   obtain rfl := zbE h1.1.2
   have hq := h1.2
   subst hq
   have hlt' : k < l.length := zbL hlt
   simp only [zsI] at h
   subst h
   obtain ⟨hown, hfoot⟩ := hs.mem.ok i _ hM
   have hown' := hown
   obtain ⟨hlen, hsh⟩ := hown
   rcases hsh with ⟨_, h0⟩ | ⟨g, cap, cur, e1, hg0, hg, hcap, hm, hcs, htk⟩
   ·simp only [Cont.n] at h0; omega
   ·rw [el_den e1] at hev
    simp only [Cont.n, Cont.sz, Cont.cells, Nat.mul_one] at hcap hcs htk e1
    simp only [SV.den] at hey
    have hF : γ.foot i g := (hfoot g).2 (by simp [e1, Value.ownBlock])
    have hst := run_storeVar (P := P) (w := w) (v := .int q m) (off := k) hti hg (by simpa [Value.cells] using hsz.symm) (by simp [Value.cells]; omega) (by simp [Value.cells, Value.oneCell'])
    have hcur : (cur.toList.take k ++ [Value.int q m] ++ cur.toList.drop (k + 1)).toArray = cur.setIfInBounds k (.int q m) := by
     apply Array.ext'
     have hk' : k < cur.toList.length := by simp; omega
     simp [Array.toList_setIfInBounds, List.set_eq_take_append_cons_drop, hk']
     omega
    unfold Oper.wp
    have hrun : (execOp a.eval o).run P w = .ok .skip (w.setRow g (cur.setIfInBounds k (.int q m))) := by
     unfold execOp
     have hadd : (⟨g, 0, none⟩ : Addr).add (k * 1 + 0) = ⟨g, k, none⟩ := by rw [add_off]; simp
     simp only [ho, hev, hey, Instr.storeAt, Instr.sureAddr, Sem.run_bind, Sem.run_pure, Result.andThen_ok, hadd, hst]
     simp [Value.cells, ← hcur]
    rw [hrun, Oper.upon_skip]
    have hval : undef = (SV.v undef).den γ := by simp [SV.den]
    rw [hval]
    have hownS : w0.heap.size ≤ g ∨ S0.w g := hs.ownm i _ g hM rfl hF
    have hone : ∀ x, γ.foot i x → x = g := fun x hx => by
     have := (hfoot x).1 hx
     simp only [e1, Value.ownBlock, zsI] at this
     exact this.symm
    refine ⟨γ, Agree.refl _ _, sat_put hs (Agree.refl _ _) hd hr.v hr.effs ?_ (hs.fr.trans' (setRow_fr (fun x => x = g) w g _ rfl) (fun x hx => by subst hx; exact hownS.symm)) ?_⟩
    ·refine msat_write hs.mem hM rfl (by simp) (fun x hx hn => setRow_other w g x _ (fun e => hn (by subst e; exact hF))) ?_ (fun x hx => hx)
     refine ⟨⟨?_, .inr ⟨g, cap, cur.setIfInBounds k (.int q m), by rw [e1]; simp [Cont.n], Nat.zero_le _, setRow_heap w g cur _ e _ hg, ?_, hm, ?_, ?_⟩⟩, hfoot⟩
     ·simp [Cont.cells, Cont.n, Cont.sz]
     ·simpa [Cont.n] using hcap
     ·simpa [Cont.sz] using hcs
     ·simp only [Cont.n, Cont.sz, Cont.cells, Nat.mul_one, List.length_set, Array.toList_setIfInBounds]
      rw [List.take_set, htk, List.map_set]
    ·intro j x y hj hyy
     rw [look_cons] at hj
     split at hj
     ·rename_i hji
      subst hji
      simp only [zsI] at hj
      subst hj
      simp only [Res.foot] at hyy
      rw [hone y hyy]
      exact lift2 hownS
     ·cases hj
  ·cases h
 ·rename_i ti e ks l y hti hM
  split at h
  case h_2 => cases h
  rename_i xs hxs
  split at h
  case h_2 => cases h
  rename_i h1
  split at h
  ·rename_i h2
   simp only [zaT] at h1
   have hsz := zbE h1.1.1.1
   have hs1 := zbE h1.1.1.2
   have hc0 := zbE h1.1.2
   have hyl := zbE h1.2
   have hlt' : k < l.length := zbL h2
   subst hs1; subst hc0
   have hy := elS_ints ks y.toList xs hyl hxs
   simp only [zsI] at h
   subst h
   obtain ⟨hown, hfoot⟩ := hs.mem.ok i _ hM
   obtain ⟨hlen, hsh⟩ := hown
   rcases hsh with ⟨_, h0⟩ | ⟨g, cap, cur, e1, hg0, hg, hcap, hm, hcs, htk⟩
   ·simp only [Cont.n] at h0; omega
   ·rw [el_den e1] at hev
    simp only [Cont.n, Cont.sz] at hcap hcs htk e1
    simp only [SV.den] at hey
    have hF : γ.foot i g := (hfoot g).2 (by simp [e1, Value.ownBlock])
    have hmul : k * ks.length + ks.length ≤ l.length * ks.length := by rw [← Nat.succ_mul]; exact Nat.mul_le_mul_right _ hlt'
    have hmul2 : l.length * ks.length ≤ cap * ks.length := Nat.mul_le_mul_right _ hcap
    have hst := run_storeVar (P := P) (w := w) (v := .agg y) (off := k * ks.length) hti hg (by simp only [Value.cells]; rw [hsz, ← hyl, Array.length_toList]) (by simp only [Value.cells]; rw [← Array.length_toList, hyl]; omega) (fun u hu => by simp only [Value.cells] at hu; rw [hy] at hu; exact ecells_one ks xs u hu)
    simp only [Value.cells] at hst
    rw [← Array.length_toList, hy, ecellsFrom_length] at hst
    unfold Oper.wp
    have hrun : (execOp a.eval o).run P w = .ok .skip (w.setRow g (cur.toList.take (k * ks.length) ++ ecellsFrom xs ks 0 ++ cur.toList.drop (k * ks.length + ks.length)).toArray) := by
     unfold execOp
     have hadd : (⟨g, 0, none⟩ : Addr).add (k * ks.length + 0) = ⟨g, k * ks.length, none⟩ := by rw [add_off]; simp
     simp only [ho, hev, hey, Instr.storeAt, Instr.sureAddr, Sem.run_bind, Sem.run_pure, Result.andThen_ok, hadd, hst]
    rw [hrun, Oper.upon_skip]
    have hval : undef = (SV.v undef).den γ := by simp [SV.den]
    rw [hval]
    have hownS : w0.heap.size ≤ g ∨ S0.w g := hs.ownm i _ g hM rfl hF
    have hone : ∀ x, γ.foot i x → x = g := fun x hx => by
     have := (hfoot x).1 hx
     simp only [e1, Value.ownBlock, zsI] at this
     exact this.symm
    refine ⟨γ, Agree.refl _ _, sat_put hs (Agree.refl _ _) hd hr.v hr.effs ?_ (hs.fr.trans' (setRow_fr (fun x => x = g) w g _ rfl) (fun x hx => by subst hx; exact hownS.symm)) ?_⟩
    ·refine msat_write hs.mem hM rfl (by simp) (fun x hx hn => setRow_other w g x _ (fun e => hn (by subst e; exact hF))) ?_ (fun x hx => hx)
     refine ⟨⟨Cont.cells_length _, .inr ⟨g, cap, _, by rw [e1]; simp [Cont.n], Nat.zero_le _, setRow_heap w g cur _ e _ hg, ?_, hm, ?_, ?_⟩⟩, hfoot⟩
     ·simpa [Cont.n] using hcap
     ·simp only [Cont.sz, List.size_toArray, zlA, List.length_take, List.length_drop, Array.length_toList, ecellsFrom_length]; omega
     ·have hset : (Cont.structs ks (l.set k xs)).cells = (Cont.structs ks l).cells.take (k * ks.length) ++ ecellsFrom xs ks 0 ++ (Cont.structs ks l).cells.drop (k * ks.length + ks.length) := by
       simp only [Cont.cells]
       rw [flat_set (m := ks.length) l k xs (fun y => by simp [ecells_size]) hlt']
       rfl
      rw [hset]
      simp only [Cont.n, Cont.sz, List.length_set]
      rw [← htk]
      exact take_mid _ _ (ecellsFrom_length xs ks 0) hmul (by rw [Array.length_toList]; exact Nat.le_trans hmul2 (Nat.le_of_eq hcs.symm))
    ·intro j x y' hj hyy
     rw [look_cons] at hj
     split at hj
     ·rename_i hji
      subst hji
      simp only [zsI] at hj
      subst hj
      simp only [Res.foot] at hyy
      rw [hone y' hyy]
      exact lift2 hownS
     ·cases hj
  ·cases h
 ·cases h
end
end Sx

/- Several pointers in a block, each to a struct of numbers that nobody writes: read and written at any index. -/
namespace Sx
open Go
set_option linter.unusedVariables false
set_option linter.unusedSimpArgs false
theorem selsAt_get {j : Nat} : ∀ (l : List SV) (k : Nat), selsAt j l k = true → ∀ m, m < l.length → l[m]? = some (.sel j (k + m))
 | [], _, _, m, hm => by simp at hm
 | x :: l, k, h, m, hm => by
  unfold selsAt at h
  split at h
  ·rename_i j' k'
   simp only [zaT] at h
   have e1 := zbE h.1.1
   have e2 := zbE h.1.2
   subst e1 e2
   cases m with
   | zero => rfl
   | succ m =>
    have := selsAt_get l (k' + 1) h.2 m (by simpa using hm)
    rw [List.getElem?_cons_succ, this, show k' + 1 + m = k' + (m + 1) by omega]
  ·cases h
theorem bund_get {cs : List SV} {j : Nat} (h : bund cs = some j) : 0 < cs.length ∧ ∀ m, m < cs.length → cs[m]? = some (.sel j m) := by
 unfold bund at h
 split at h
 ·rename_i j' k l
  split at h
  ·rename_i h1
   simp only [zaT] at h1
   have e1 := zbE h1.1
   simp only [zsI] at h
   subst e1 h
   refine ⟨by simp, fun m hm => ?_⟩
   cases m with
   | zero => rfl
   | succ m =>
    have := selsAt_get l 1 h1.2 m (by simpa using hm)
    rw [List.getElem?_cons_succ, this, Nat.add_comm]
  ·cases h
 ·cases h
theorem selList_get (j : Nat) : ∀ (n k m : Nat), (selList j n k)[m]? = if m < n then some (.sel j (k + m)) else none
 | 0, k, m => by simp [selList]
 | n + 1, k, m => by
  cases m with
  | zero => simp [selList]
  | succ m =>
   rw [selList, List.getElem?_cons_succ, selList_get j n (k + 1) m]
   by_cases h : m < n
   ·rw [if_pos h, if_pos (by omega), show k + 1 + m = k + (m + 1) by omega]
   ·rw [if_neg h, if_neg (by omega)]
theorem selList_ids {p : Nat → Bool} {j : Nat} (h : p j = true) (n k : Nat) : SV.idss p (selList j n k) = true := by
 induction n generalizing k with
 | zero => rfl
 | succ n ih => simp [selList, SV.idss, SV.ids, h, ih]
section
variable {I : Interp} {P : Program} {o : Oper} {N : Nat} {w0 : World} {S0 : Ft} {γ : Vn} {D : Nat → Bool} {E : Nat → Option SV} {M M' : Nat → Option Res} {a : Act} {w : World} {b : Nat} {r : Rec} {Q : Exit → Act → World → Prop}
theorem bundLoad_spec {cs : List SV} {j k : Nat} {rd : List Nat} (h : bundLoad M b some none cs j k rd = some r) : ∃ ks L, M j = some (.sels ks L) ∧ L.length = cs.length ∧ k < cs.length ∧ r = ⟨.row b, [(b, .opt ks (L.getD k []))], j :: rd⟩ := by
 unfold bundLoad at h
 split at h
 ·rename_i ks L hM
  split at h
  ·rename_i h1
   simp only [zaT] at h1
   exact ⟨ks, L, hM, zbE h1.1, zbL h1.2, (Option.some.inj h).symm⟩
  ·cases h
 ·cases h
theorem bund_done (hs : Sat I N w0 S0 γ D E M a w) (hb : ∀ i, fresh b i = true → D i = false) (hd : ∀ x, o.dst = some x → x < N) {j k : Nat} {rd : List Nat} {ks : List IntKind} {L : List (List (List Int))} {l : List (List Int)} (hM : M j = some (.sels ks L)) (hl : L[k]? = some l)
  (hr : RecIn D b ⟨.row b, [(b, .opt ks l)], rd⟩) (hrun : (execOp a.eval o).run P w = .ok (.value (.pointer (selP (γ.val j) k))) w) : o.wp P a w (Done I N w0 S0 γ D E M b o.dst ⟨.row b, [(b, .opt ks l)], rd⟩) Q := by
 have hbD : D b = false := hb b (fresh_self b)
 have hγ : Agree (D · = true) γ (γ.row' b (.pointer (selP (γ.val j) k)) (γ.foot j)) := row'_agree hbD
 refine done_gen hs hd hr hγ ?_ hs.fr ?_ (by rw [hrun]; simp [SV.den, row'_val])
 ·refine msat_share hs.mem hs.mids hγ hbD hM rfl rfl ?_ (fun x hx => ?_)
  ·simp only [ResOK, row'_val, row'_foot]
   exact hs.mem.ok j _ hM k l hl
  ·simp only [Res.foot, row'_foot] at hx; exact hx
 ·intro i x y hj hy
  obtain ⟨rfl, rfl⟩ := look_one' hj
  simp only [Res.foot, row'_foot] at hy
  exact hs.share hM hy rfl
theorem getD_some {L : List (List (List Int))} {k : Nat} (h : k < L.length) : L[k]? = some (L.getD k []) := by simp [List.getD, h]
theorem ptr_notAgg {t : TypeId} (h : isPtrT P t = true) : isAggT P t = false := by
 unfold isPtrT at h
 unfold isAggT
 split at h
 ·rename_i e hu; rw [hu]
 ·cases h
theorem sel_load_sound {t : TypeId} {x : Operand} {i pre k : Nat} (ho : o.op = .load t x) (hx : ev E x = some (.selp i pre k)) (h : selLoad P M b some none t i pre k = some r)
  (hs : Sat I N w0 S0 γ D E M a w) (hb : ∀ i, fresh b i = true → D i = false) (hd : ∀ x, o.dst = some x → x < N) (hr : RecIn D b r) : o.wp P a w (Done I N w0 S0 γ D E M b o.dst r) Q := by
 have hev := eval_of hs hx
 simp only [SV.den] at hev
 have cell : ∀ (cs : List SV) (e : TypeId) (x : SV), knownT P t = true → isPtrT P t = true → w.heap[γ.blk i]? = some (.cells (SV.dens γ cs).toArray e (0, 0)) → cs[pre + k]? = some x → (execOp a.eval o).run P w = .ok (.value (x.den γ)) w := fun cs e x hk hp hg hx => by
  obtain ⟨ti, hti, hu, hc⟩ := known_info hk
  exact loadAt_run ho hev ((run_loadVar (w := w) (off := pre + k) hti hu hg).2 (ptr_notAgg hp) _ (by simp [dens_eq, hx]))
 unfold selLoad at h
 split at h
 ·rename_i e cs hk hM
  simp only [zaT] at hk
  have hg := hs.mem.ok i _ hM
  simp only [ResOK] at hg
  split at h
  ·rename_i j hj
   obtain ⟨ks, L, hMj, h1, h2, rfl⟩ := bundLoad_spec h
   have hc := (bund_get hj).2 k h2
   rw [List.getElem?_drop] at hc
   refine bund_done hs hb hd hMj (getD_some (by omega)) hr ?_
   have := cell cs e _ hk.1 hk.2 hg hc
   simpa [SV.den] using this
  ·split at h
   ·rename_i y hy
    simp only [zsI] at h
    subst h
    exact done_val hs hd hr (cell cs e _ hk.1 hk.2 hg hy)
   ·cases h
 ·rename_i e cs hk hM
  simp only [zaT] at hk
  have hg := hs.mem.ok i _ hM
  simp only [ResOK] at hg
  split at h
  ·rename_i j hj
   obtain ⟨ks, L, hMj, h1, h2, rfl⟩ := bundLoad_spec h
   have hc := (bund_get hj).2 k h2
   rw [List.getElem?_drop] at hc
   refine bund_done hs hb hd hMj (getD_some (by omega)) hr ?_
   have := cell cs e _ hk.1 hk.2 hg hc
   simpa [SV.den] using this
  ·split at h
   ·rename_i y hy
    simp only [zsI] at h
    subst h
    exact done_val hs hd hr (cell cs e _ hk.1 hk.2 hg hy)
   ·cases h
 ·cases h
theorem agg_idx_sound {t : TypeId} {x y : Operand} {xs : List SV} {q : IntKind} {m : Int} (ho : o.op = .index t x y) (hx : ev E x = some (.agg xs)) (hy : ev E y = some (.v (.int q m))) (h : aggIdx P M b some none t xs m = some r)
  (hs : Sat I N w0 S0 γ D E M a w) (hb : ∀ i, fresh b i = true → D i = false) (hd : ∀ x, o.dst = some x → x < N) (hr : RecIn D b r) : o.wp P a w (Done I N w0 S0 γ D E M b o.dst r) Q := by
 have ex := eval_of hs hx
 have ey := eval_of hs hy
 simp only [SV.den] at ex ey
 unfold aggIdx at h
 split at h
 ·rename_i n e hu
  split at h
  ·rename_i ti hti
   split at h
   ·rename_i j h1 hj
    simp only [zaT, decide_eq_true_eq] at h1
    obtain ⟨⟨⟨a1, a2⟩, a3⟩, a4⟩ := h1
    have a1 := zbE a1
    have a3 := zbE a3
    obtain ⟨ks, L, hMj, h1, h2, rfl⟩ := bundLoad_spec h
    have hc := (bund_get hj).2 m.toNat h2
    refine bund_done hs hb hd hMj (getD_some (by omega)) hr ?_
    have hu2 : (P.underlying e).isSome = true := by
     unfold isPtrT at a2
     split at a2
     ·rename_i z hz; rw [hz]; rfl
     ·cases a2
    have hin : 0 ≤ m ∧ m < (n : Int) := by omega
    have hpart : (part e (SV.dens γ xs).toArray m.toNat).run P w = .ok (.pointer (selP (γ.val j) m.toNat)) w := by
     have hcell : (SV.dens γ xs)[m.toNat]? = some (.pointer (selP (γ.val j) m.toNat)) := by rw [dens_eq, List.getElem?_map, hc]; simp [SV.den]
     simp [part, Sem.run_bind, run_isAgg hu2 w, ptr_notAgg a2, hcell]
    unfold execOp
    simp [ho, ex, ey, Instr.index, asIntOf, run_underlying hu, hin, Go.sizeOf, run_info hti w, a1, hpart]
   ·cases h
  ·cases h
 ·cases h
theorem structOf_spec (hs : MSat I γ M w) (hids : ∀ i r, M i = some r → D i = true ∧ r.ids D = true) {ks : List IntKind} {j : Nat} {ty : TypeId} {cs : List SV} {xs : List Int} (h : structOf ks (M j) = some (ty, cs, xs)) :
  ∃ q, M j = some q ∧ (ResOK I γ j w q → ResOK I γ j w (.rblk ty cs)) ∧ (Res.rblk ty cs).foot γ j = q.foot γ j ∧ q.mut = true ∧ SV.idss D cs = true ∧ SV.dens γ cs = ecellsFrom xs ks 0 := by
 have key : ∀ l : List SV, Nat.beq l.length ks.length = true → elS ks l = some xs → SV.dens γ l = ecellsFrom xs ks 0 := fun l hl he => by
  obtain ⟨_, h2⟩ := elS_den γ ks l xs [] he
  rw [← zbE hl, List.take_of_length_le (by rw [dens_length]; exact Nat.le_refl _)] at h2
  rw [h2]
  simp
 unfold structOf at h
 split at h
 ·rename_i t l hM
  split at h
  ·rename_i ys hl he
   simp only [zsI, zpI] at h
   obtain ⟨rfl, rfl, rfl⟩ := h
   exact ⟨_, hM, fun h => h, rfl, rfl, (hids j _ hM).2, key _ hl he⟩
  ·cases h
 ·rename_i t n arr hM
  split at h
  ·rename_i ys hl he
   simp only [zsI, zpI] at h
   obtain ⟨rfl, rfl, rfl⟩ := h
   refine ⟨_, hM, fun h => ?_, rfl, rfl, ?_, key _ (by simpa using hl) he⟩
   ·have := h.2
    simp only [ResOK]
    rw [this]
    congr 2
    apply Array.ext'
    have e1 : (SV.den γ ∘ SV.v) = id := by funext x; simp [SV.den]
    simp [dens_eq, e1]
   ·rw [idss_eq, List.all_eq_true]
    intro x hx
    obtain ⟨y, _, rfl⟩ := List.mem_map.1 hx
    simp [SV.ids]
  ·cases h
 ·cases h
def putP (v : Value) (n k : Nat) (x : Option Addr) : Value := .agg ((List.range n).map fun m => Value.pointer (if m = k then x else selP v m)).toArray
theorem putP_at {v : Value} {n k m : Nat} {x : Option Addr} (h : m < n) : selP (putP v n k x) m = if m = k then x else selP v m := by
 unfold selP putP
 have : (((List.range n).map fun m => Value.pointer (if m = k then x else selP v m)).toArray).getD m undef = Value.pointer (if m = k then x else selP v m) := by
  simp [Array.getD, h]
 show (match (((List.range n).map fun m => Value.pointer (if m = k then x else selP v m)).toArray).getD m undef with | .pointer x => x | _ => none) = _
 rw [this]
 rfl
theorem sel_store_sound {t : TypeId} {x y : Operand} {i pre k : Nat} {z : SV} (ho : o.op = .store t x y) (hx : ev E x = some (.selp i pre k)) (hy : ev E y = some z) (h : selStore P M b some none t i pre k z = some r)
  (hs : Sat I N w0 S0 γ D E M a w) (hb : ∀ i, fresh b i = true → D i = false) (hd : ∀ x, o.dst = some x → x < N) (hr : RecIn D b r) : o.wp P a w (Done I N w0 S0 γ D E M b o.dst r) Q := by
 have hev := eval_of hs hx
 have hey := eval_of hs hy
 simp only [SV.den] at hev
 unfold selStore at h
 split at h
 ·rename_i ti e cs hti hMi
  split at h
  ·rename_i j q off hj
   split at h
   ·rename_i ks L hMj
    split at h
    ·rename_i ty qs xs hst h1
     split at h
     ·rename_i h2
      simp only [zaT, Bool.not_eq_true'] at h1 h2
      obtain ⟨⟨⟨a1, a2⟩, a3⟩, a4⟩ := h1
      have a1 := zbE a1
      subst a1
      have a3 := zbE a3
      have a4 : pre < cs.length := zbL a4
      have b1 := zbE h2.1
      have b2 : k < cs.length - pre := zbL h2.2
      have hiq : i ≠ q := fun e => by rw [e, Nat.beq_refl] at a2; cases a2
      simp only [zsI] at h
      subst h
      obtain ⟨_, hcells⟩ := bund_get hj
      obtain ⟨p, hMq, hqok, hqf, hqm, hqid, hden⟩ := structOf_spec hs.mem hs.mids hst
      have hbD : D b = false := hb b (fresh_self b)
      have hDi := (hs.mids i _ hMi).1
      have hDj := (hs.mids j _ hMj).1
      have hDq := (hs.mids q _ hMq).1
      have nib : i ≠ b := fun e => by rw [e, hbD] at hDi; cases hDi
      have njb : j ≠ b := fun e => by rw [e, hbD] at hDj; cases hDj
      have nqb : q ≠ b := fun e => by rw [e, hbD] at hDq; cases hDq
      have hg := hs.mem.ok i _ hMi
      simp only [ResOK] at hg
      have hfi : (Res.blk e cs).foot γ i (γ.blk i) := rfl
      have hfq : p.foot γ q (γ.blk q) := by rw [← hqf]; exact rfl
      have gq : γ.blk i ≠ γ.blk q := fun e' => hs.mem.apart i q _ _ _ hiq hMi hMq rfl hfi (e' ▸ hfq)
      have gj : ¬ γ.foot j (γ.blk i) := fun h => hs.mem.apart i j _ _ (γ.blk i) (fun e' => by subst e'; rw [hMi] at hMj; cases hMj) hMi hMj rfl hfi h
      have hblk := hqok (hs.mem.ok q _ hMq)
      simp only [ResOK] at hblk
      let v' : Value := putP (γ.val j) (cs.length - pre) k (some ⟨γ.blk q, 0, none⟩)
      let F' : Nat → Prop := fun x => γ.foot j x ∨ x = γ.blk q
      have hγ : Agree (D · = true) γ (γ.row' b v' F') := row'_agree hbD
      have hrun : (execOp a.eval o).run P w = .ok .skip (w.setRow (γ.blk i) ((SV.dens γ cs).take (pre + k) ++ [Value.pointer (some ⟨γ.blk q, 0, none⟩)] ++ (SV.dens γ cs).drop (pre + k + 1)).toArray) := by
       have hst' := run_storeVar (P := P) (w := w) (v := .pointer (some ⟨γ.blk q, 0, none⟩)) (off := pre + k) hti hg (by simpa [Value.cells] using a3.symm) (by simp [Value.cells, dens_length]; omega) (by simp [Value.cells, Value.oneCell'])
       unfold execOp
       simp only [SV.den] at hey
       simp only [ho, hev, hey, Instr.storeAt, Instr.sureAddr, Sem.run_bind, Sem.run_pure, Result.andThen_ok, hst']
       simp [Value.cells]
      let W : Array Value := ((SV.dens γ cs).take (pre + k) ++ [Value.pointer (some ⟨γ.blk q, 0, none⟩)] ++ (SV.dens γ cs).drop (pre + k + 1)).toArray
      have hW : (SV.dens (γ.row' b v' F') (cs.take pre ++ selList b (cs.length - pre) 0)).toArray = W := by
       apply Array.ext'
       apply List.ext_getElem?
       intro m
       simp only [W, dens_eq, List.map_append, List.getElem?_map, List.getElem?_append, List.length_map, List.length_take, zlA, List.length_cons, List.length_nil]
       by_cases hm : m < pre
       ·have hm1 : m < min pre cs.length := by omega
        have hm2 : m < min (pre + k) cs.length := by omega
        rw [if_pos hm1, if_pos (by omega), if_pos hm2, List.getElem?_take, if_pos hm, List.getElem?_take, if_pos (by omega), List.getElem?_map]
        have hmc : cs[m]? = some cs[m] := List.getElem?_eq_getElem (by omega)
        rw [hmc]
        have hid : (cs[m]).ids D = true := by
         have := (hs.mids i _ hMi).2
         simp only [Res.ids] at this
         rw [idss_eq, List.all_eq_true] at this
         exact this _ (List.mem_of_getElem? hmc)
        simp only [Option.map_some, SV.den_agree hγ _ hid]
       ·rw [if_neg (by omega), selList_get, Nat.min_eq_left (by omega)]
        by_cases hm3 : m < cs.length
        ·rw [if_pos (by omega)]
         simp only [Option.map_some, SV.den, row'_val, Nat.zero_add]
         rw [putP_at (by omega)]
         have hc := hcells (m - pre) (by simp; omega)
         rw [List.getElem?_drop, show pre + (m - pre) = m by omega] at hc
         by_cases hmk : m = pre + k
         ·subst hmk
          rw [if_pos (by omega), if_pos (by omega), if_neg (by omega)]
          simp [Nat.min_eq_left (show pre + k ≤ cs.length by omega)]
         ·rw [if_neg (by omega)]
          by_cases hm4 : m < pre + k
          ·rw [if_pos (by omega), if_pos (by omega), List.getElem?_take, if_pos hm4, List.getElem?_map, hc]
           simp [SV.den]
          ·rw [if_neg (by omega), List.getElem?_drop, List.getElem?_map]
           have : pre + k + 1 + (m - (min (pre + k) cs.length + (0 + 1))) = m := by omega
           rw [this, hc]
           simp [SV.den]
        ·rw [if_neg (by omega), if_neg (by omega), List.getElem?_drop, List.getElem?_map, List.getElem?_eq_none (by omega)]
         rfl
      have hsz : (w.setRow (γ.blk i) W).heap.size = w.heap.size := setRow_size ..
      have same : ∀ x, x ≠ γ.blk i → (w.setRow (γ.blk i) W).heap[x]? = w.heap[x]? := fun x hx => setRow_other w _ x W (fun e' => hx e')
      have hlow : γ.blk i < w.heap.size := hs.mem.low i _ _ hMi hfi
      have hlowq : γ.blk q < w.heap.size := hs.mem.low q _ _ hMq hfq
      have cse : ∀ y res, updM [(i, Res.blk e (cs.take pre ++ selList b (cs.length - pre) 0)), (b, .sels ks (L.set k [xs])), (q, .rblk ty qs)] M y = some res →
        (y = i ∧ res = .blk e (cs.take pre ++ selList b (cs.length - pre) 0)) ∨ (y = b ∧ res = .sels ks (L.set k [xs])) ∨ (y = q ∧ res = .rblk ty qs) ∨ (y ≠ i ∧ y ≠ b ∧ y ≠ q ∧ M y = some res) := fun y res h => by
       unfold updM at h
       rw [look_cons, look_cons, look_cons] at h
       by_cases h1 : i = y
       ·rw [if_pos h1] at h; exact .inl ⟨h1.symm, (Option.some.inj h).symm⟩
       ·rw [if_neg h1] at h
        by_cases h2 : b = y
        ·rw [if_pos h2] at h; exact .inr (.inl ⟨h2.symm, (Option.some.inj h).symm⟩)
        ·rw [if_neg h2] at h
         by_cases h3 : q = y
         ·rw [if_pos h3] at h; exact .inr (.inr (.inl ⟨h3.symm, (Option.some.inj h).symm⟩))
         ·rw [if_neg h3] at h; exact .inr (.inr (.inr ⟨Ne.symm h1, Ne.symm h2, Ne.symm h3, by simpa [look] using h⟩))
      have footM : ∀ y res x, M y = some res → (res.foot (γ.row' b v' F') y x ↔ res.foot γ y x) := fun y res x h => by rw [foot_agree hγ (hs.mids y res h).1 res]
      have footB : ∀ x, (Res.sels ks (L.set k [xs])).foot (γ.row' b v' F') b x ↔ γ.foot j x ∨ x = γ.blk q := fun x => by simp only [Res.foot, row'_foot]; exact Iff.rfl
      have footQ : ∀ x, (Res.rblk ty qs).foot (γ.row' b v' F') q x ↔ x = γ.blk q := fun x => Iff.rfl
      have footI : ∀ x, (Res.blk e (cs.take pre ++ selList b (cs.length - pre) 0)).foot (γ.row' b v' F') i x ↔ x = γ.blk i := fun x => Iff.rfl
      unfold Oper.wp
      rw [hrun, Oper.upon_skip]
      have hval : undef = (SV.v undef).den (γ.row' b v' F') := by simp [SV.den]
      rw [hval]
      refine ⟨γ.row' b v' F', hγ, sat_put hs hγ hd hr.v hr.effs ⟨fun y res h => ?_, fun y res x h hx => ?_, fun y1 y2 r1 r2 x h12 h1 h2 hm hx1 hx2 => ?_⟩ (hs.fr.trans' (setRow_fr (fun x => x = γ.blk i) w _ W rfl) (fun x hx => ?_)) (fun y res x h hx => ?_)⟩
      ·rcases cse y res h with ⟨rfl, rfl⟩ | ⟨rfl, rfl⟩ | ⟨rfl, rfl⟩ | ⟨n1, n2, n3, h'⟩
       ·show (w.setRow (γ.blk y) W).heap[γ.blk y]? = _
        rw [hW]
        exact setRow_heap w _ _ _ e _ hg
       ·intro m l hl
        have hmL : m < L.length := by have := (List.getElem?_eq_some_iff.1 hl).1; simpa using this
        rw [row'_val, row'_foot, putP_at (by omega)]
        by_cases hmk : m = k
        ·subst hmk
         rw [List.getElem?_set_self (by omega)] at hl
         simp only [zsI] at hl
         subst hl
         rw [if_pos rfl]
         refine .inr ⟨⟨γ.blk q, 0, none⟩, xs, rfl, rfl, .inr rfl, rfl, fun c x hx => ?_⟩
         rw [add_off, Nat.zero_add]
         refine (cell_same (w := w) (a := ⟨γ.blk q, c, none⟩) (same _ (Ne.symm gq))).trans ?_
         rw [cell_of_row w _ _ _ _ _ hblk]
         rw [hden]; simpa using hx
        ·rw [if_neg hmk]
         rw [List.getElem?_set_ne (Ne.symm hmk)] at hl
         have h0 := hs.mem.ok j _ hMj m l hl
         have h1 := OptIn.loc (w' := w.setRow (γ.blk i) W) (fun x hx => same x (fun e' => gj (e' ▸ hx))) h0
         rcases h1 with h1 | ⟨a', ys, e1, e2, hf, e3, e4⟩
         ·exact .inl h1
         ·exact .inr ⟨a', ys, e1, e2, .inl hf, e3, e4⟩
       ·show (w.setRow (γ.blk i) W).heap[γ.blk y]? = _
        rw [SV.dens_agree hγ qs hqid, same _ (Ne.symm gq)]
        exact hblk
       ·refine ResOK.loc (w := w) (fun x hx => same x (fun e' => ?_)) (resOK_agree hγ (hs.mids y res h').1 res (hs.mids y res h').2 (hs.mem.ok y res h'))
        subst e'
        exact hs.mem.apart i y _ res _ (Ne.symm n1) hMi h' rfl hfi ((footM y res _ h').1 hx)
      ·rw [hsz]
       rcases cse y res h with ⟨rfl, rfl⟩ | ⟨rfl, rfl⟩ | ⟨rfl, rfl⟩ | ⟨n1, n2, n3, h'⟩
       ·rw [(footI x).1 hx]; exact hlow
       ·rcases (footB x).1 hx with h1 | rfl
        ·exact hs.mem.low j _ x hMj h1
        ·exact hlowq
       ·rw [(footQ x).1 hx]; exact hlowq
       ·exact hs.mem.low y res x h' ((footM y res x h').1 hx)
      ·rcases cse y1 r1 h1 with ⟨rfl, rfl⟩ | ⟨rfl, rfl⟩ | ⟨rfl, rfl⟩ | ⟨n1, n2, n3, k1⟩
       ·have hx1 := (footI x).1 hx1
        subst hx1
        rcases cse y2 r2 h2 with ⟨rfl, rfl⟩ | ⟨rfl, rfl⟩ | ⟨rfl, rfl⟩ | ⟨m1, m2, m3, k2⟩
        ·exact h12 rfl
        ·rcases (footB _).1 hx2 with h1 | h1
         ·exact gj h1
         ·exact gq h1
        ·exact gq ((footQ _).1 hx2)
        ·exact hs.mem.apart y1 y2 _ r2 _ h12 hMi k2 rfl hfi ((footM y2 r2 _ k2).1 hx2)
       ·cases hm
       ·cases hm
       ·have hy1 := (footM y1 r1 x k1).1 hx1
        rcases cse y2 r2 h2 with ⟨rfl, rfl⟩ | ⟨rfl, rfl⟩ | ⟨rfl, rfl⟩ | ⟨m1, m2, m3, k2⟩
        ·rw [(footI x).1 hx2] at hy1
         exact hs.mem.apart y1 y2 r1 _ _ h12 k1 hMi hm hy1 hfi
        ·rcases (footB x).1 hx2 with h1 | rfl
         ·exact hs.mem.apart y1 j r1 _ x (fun e' => by subst e'; rw [hMj] at k1; cases k1; cases hm) k1 hMj hm hy1 h1
         ·exact hs.mem.apart y1 q r1 _ _ n3 k1 hMq hm hy1 hfq
        ·rw [(footQ x).1 hx2] at hy1
         exact hs.mem.apart y1 y2 r1 _ _ h12 k1 hMq hm hy1 hfq
        ·exact hs.mem.apart y1 y2 r1 r2 x h12 k1 k2 hm hy1 ((footM y2 r2 x k2).1 hx2)
      ·subst hx
       exact (hs.ownm i _ _ hMi rfl hfi).symm
      ·rw [look_cons, look_cons, look_cons] at h
       split at h
       ·rename_i e1
        subst e1
        simp only [zsI] at h
        subst h
        rw [(footI x).1 hx]
        exact lift2 (hs.ownm i _ _ hMi rfl hfi)
       ·split at h
        ·rename_i e1
         subst e1
         simp only [zsI] at h
         subst h
         rcases (footB x).1 hx with h1 | rfl
         ·exact hs.share hMj h1 rfl
         ·exact lift2 (hs.ownm q _ _ hMq hqm hfq)
        ·split at h
         ·rename_i e1
          subst e1
          simp only [zsI] at h
          subst h
          rw [(footQ x).1 hx]
          exact lift2 (hs.ownm q _ _ hMq hqm hfq)
         ·simp [look] at h
     ·cases h
    ·cases h
   ·cases h
  ·cases h
 ·cases h
end
end Sx

/- The further operations: slices that are made, cut, appended to. -/
namespace Sx
open Go
set_option linter.unusedVariables false
set_option linter.unusedSimpArgs false
section
variable {I : Interp} {P : Program} {sp : FuncId → Option Spec} {N : Nat} {w0 : World} {S0 : Ft} {γ : Vn} {D : Nat → Bool} {E : Nat → Option SV} {M : Nat → Option Res} {a : Act} {w : World} {b : Nat} {o : Oper} {Q : Exit → Act → World → Prop} {r : Rec}
theorem look_one {b : Nat} {res : Res} {i : Nat} {x : Res} (h : look [(b, res)] i = some x) : i = b ∧ x = res := by
 rw [look_cons] at h
 split at h
 ·rename_i e; exact ⟨e.symm, (Option.some.inj h).symm⟩
 ·cases h
theorem done_own (hs : Sat I N w0 S0 γ D E M a w) (hb : ∀ i, fresh b i = true → D i = false) (hd : ∀ x, o.dst = some x → x < N) {e : TypeId} {ct : Cont} {rd : List Nat} (hr : RecIn D b ⟨.row b, [(b, .own e ct)], rd⟩) {cs : Array Value} {cap : Nat}
  (hown : (w.alloc (.cells cs e)).ownsRow 0 e ct.sz (.slice (some ⟨w.heap.size, 0, none⟩) ct.n cap) ct.n ct.cells)
  (hrun : (execOp a.eval o).run P w = .ok (.value (.slice (some ⟨w.heap.size, 0, none⟩) ct.n cap)) (w.alloc (.cells cs e))) : o.wp P a w (Done I N w0 S0 γ D E M b o.dst ⟨.row b, [(b, .own e ct)], rd⟩) Q := by
 have hbD : D b = false := hb b (fresh_self b)
 have hγ : Agree (D · = true) γ (γ.row' b (.slice (some ⟨w.heap.size, 0, none⟩) ct.n cap) (fun x => x = w.heap.size)) := row'_agree hbD
 refine done_gen (w' := w.alloc (.cells cs e)) hs hd hr hγ ?_ (hs.fr.trans (fr_alloc S0.w w (.cells cs e))) ?_ (by rw [hrun]; simp [SV.den, row'_val])
 ·refine msat_add (R := fun _ => False) hs.mem hs.mids hγ hbD (by show _ ≤ (w.heap.push _).size; simp) (fun x hx _ => alloc_old w _ hx) (fun _ _ _ _ _ h => h) ?_ (fun x hx => ?_)
  ·simp only [ResOK, row'_val, row'_foot]
   refine ⟨hown, fun x => ?_⟩
   simp [Value.ownBlock, eq_comm]
  ·simp only [Res.foot, row'_foot] at hx
   subst hx
   exact ⟨by show _ < (w.heap.push _).size; simp, .inr (Nat.le_refl _)⟩
 ·intro i x y hi hy
  obtain ⟨rfl, rfl⟩ := look_one hi
  simp only [Res.foot, row'_foot] at hy
  subst hy
  exact .inl hs.fr.size
theorem done_ownc0 (hs : Sat I N w0 S0 γ D E M a w) (hb : ∀ i, fresh b i = true → D i = false) (hd : ∀ x, o.dst = some x → x < N) {e : TypeId} {rd : List Nat} (hr : RecIn D b ⟨.row b, [(b, .ownc e [])], rd⟩) {cs : Array Value} {cap : Nat}
  (hown : (w.alloc (.cells cs e)).ownsRow 0 e 1 (.slice (some ⟨w.heap.size, 0, none⟩) 0 cap) 0 [])
  (hrun : (execOp a.eval o).run P w = .ok (.value (.slice (some ⟨w.heap.size, 0, none⟩) 0 cap)) (w.alloc (.cells cs e))) : o.wp P a w (Done I N w0 S0 γ D E M b o.dst ⟨.row b, [(b, .ownc e [])], rd⟩) Q := by
 have hbD : D b = false := hb b (fresh_self b)
 have hγ : Agree (D · = true) γ (γ.row' b (.slice (some ⟨w.heap.size, 0, none⟩) 0 cap) (fun x => x = w.heap.size)) := row'_agree hbD
 refine done_gen (w' := w.alloc (.cells cs e)) hs hd hr hγ ?_ (hs.fr.trans (fr_alloc S0.w w (.cells cs e))) ?_ (by rw [hrun]; simp [SV.den, row'_val])
 ·refine msat_add (R := fun _ => False) hs.mem hs.mids hγ hbD (by show _ ≤ (w.heap.push _).size; simp) (fun x hx _ => alloc_old w _ hx) (fun _ _ _ _ _ h => h) ?_ (fun x hx => ?_)
  ·simp only [ResOK, row'_val, row'_foot, SV.dens, List.length_nil]
   refine ⟨hown, fun x => ?_⟩
   simp [Value.ownBlock, eq_comm]
  ·simp only [Res.foot, row'_foot] at hx
   subst hx
   exact ⟨by show _ < (w.heap.push _).size; simp, .inr (Nat.le_refl _)⟩
 ·intro i x y hi hy
  obtain ⟨rfl, rfl⟩ := look_one hi
  simp only [Res.foot, row'_foot] at hy
  subst hy
  exact .inl hs.fr.size
theorem make_sound {t : TypeId} {x y : Operand} {u v : SV} (ho : o.op = .makeSlice t x y) (hx : ev E x = some u) (hy : ev E y = some v) (h : makeStep P b some none t u v = some r)
  (hs : Sat I N w0 S0 γ D E M a w) (hb : ∀ i, fresh b i = true → D i = false) (hd : ∀ x, o.dst = some x → x < N) (hr : RecIn D b r) : o.wp P a w (Done I N w0 S0 γ D E M b o.dst r) Q := by
 have ex := eval_of hs hx
 have ey := eval_of hs hy
 unfold makeStep at h
 split at h
 ·rename_i e k l k' c hu
  split at h
  ·rename_i ti hti
   split at h
   ·rename_i z hz
    split at h
    ·rename_i kd hkd
     split at h
     ·rename_i hall
      simp only [zaT, decide_eq_true_eq] at hall
      obtain ⟨hsz, ⟨⟨h0, hlc⟩, hbytes⟩, h63⟩ := hall
      have hsz' := zbE hsz
      have hzv : z = .int kd 0 := by
       unfold kindOf0 at hkd
       split at hkd
       ·simp only [zsI] at hkd; subst hkd; rfl
       ·cases hkd
      simp only [zsI] at h
      subst h
      simp only [SV.den] at ex ey
      have hr' := run_makeSlice (P := P) w t e ti z hu hti hz k k' l c h0 hlc
      have hmk := run_make (P := P) w t e ti z hu hti hz k k' l c h0 hlc hbytes h63
      have hn : (Cont.ints kd (List.replicate l.toNat 0)).n = l.toNat := by simp [Cont.n]
      have hown : (w.alloc (.cells (madeCells z.cells (c.toNat * ti.size)) e)).ownsRow 0 e 1 (.slice (some ⟨w.heap.size, 0, none⟩) l.toNat c.toNat) l.toNat ((List.replicate l.toNat (0 : Int)).map (Value.int kd)) := by
       refine ⟨by simp, .inr ⟨w.heap.size, c.toNat, _, rfl, Nat.zero_le _, alloc_new _ _, by omega, ?_, ?_, ?_⟩⟩
       ·simp only [maxLen]; omega
       ·rw [size_madeCells, hsz']
       ·subst hzv
        rw [hsz']
        apply List.ext_getElem?
        intro i
        by_cases hi : i < l.toNat
        ·have hi' : i < c.toNat := by omega
         simp [madeCells, List.getElem?_take, hi, hi', Value.cells, List.getElem?_replicate, Nat.mod_one]
        ·simp [List.getElem?_take, hi, List.getElem?_replicate]
      refine done_own hs hb hd hr (cs := madeCells z.cells (c.toNat * ti.size)) (cap := c.toNat) (by rw [hn]; exact hown) ?_
      rw [hn]
      unfold execOp
      simp only [ho, ex, ey, Sem.run_bind, hmk, Result.andThen_ok, Sem.run_pure]
     ·cases h
    ·cases h
   ·cases h
  ·cases h
 ·cases h
theorem inOrder_spec : ∀ (l : List (Nat × Operand)) (k : Nat), inOrder k l = true → ∀ (f : Operand → Value), l.map (fun p => (p.1, f p.2)) = ((l.map (fun p => f p.2)).zipIdx k).map fun x => (x.2, x.1)
 | [], _, _, _ => rfl
 | (i, x) :: l, k, h, f => by
  simp only [inOrder, zaT] at h
  have e := zbE h.1
  subst e
  simp only [List.map_cons, List.zipIdx_cons, inOrder_spec l _ h.2 f]
theorem cells_flat (hs : MSat I γ M w) : ∀ vs : List SV, (∀ v ∈ vs, (cellsOf v).all (oneM M) = true) → (SV.dens γ vs).flatMap (fun v => v.cells.toList) = SV.dens γ (vs.flatMap cellsOf)
 | [], _ => by simp [SV.dens]
 | v :: vs, h => by
  have hv := h v (List.mem_cons_self ..)
  have h1 : ∀ i, v = .row i → (γ.val i).oneCell' = true := fun i e => by subst e; exact row_one hs (by simpa [cellsOf, oneM] using hv)
  have h2 : ∀ i q k c, v ≠ .el i q k c := fun i q k c e => by subst e; simp [cellsOf, oneM, oneS] at hv
  simp only [SV.dens, List.flatMap_cons, dens_append, cells_flat hs vs (fun u hu => h u (List.mem_cons_of_mem _ hu)), cellsOf_den γ v h1 h2]
theorem ids_flat (p : Nat → Bool) : ∀ vs : List SV, SV.idss p vs = true → SV.idss p (vs.flatMap cellsOf) = true
 | [], _ => by simp [SV.idss]
 | v :: vs, h => by
  simp only [SV.idss, zaT] at h
  have h1 := cellsOf_ids p v h.1
  have h2 := ids_flat p vs h.2
  rw [idss_eq] at h1 h2 ⊢
  rw [List.flatMap_cons, List.all_append, h1, h2]; rfl
theorem flat_ints (k : IntKind) : ∀ l : List Int, (l.map (Value.int k)).flatMap (fun v => v.cells.toList) = l.map (Value.int k)
 | [] => rfl
 | m :: l => by rw [List.map_cons, List.flatMap_cons, flat_ints k l]; rfl
theorem lit_sound {t : TypeId} {len : Nat} {parts : Array (Nat × Operand)} (ho : o.op = .buildSlice t len parts) (h : litStep P E M b some none t len parts = some r)
  (hs : Sat I N w0 S0 γ D E M a w) (hb : ∀ i, fresh b i = true → D i = false) (hd : ∀ x, o.dst = some x → x < N) (hr : RecIn D b r) : o.wp P a w (Done I N w0 S0 γ D E M b o.dst r) Q := by
 unfold litStep at h
 split at h
 ·rename_i e hu
  split at h
  ·rename_i ti hti
   split at h
   ·rename_i z hz
    split at h
    ·rename_i vs hc hvs
     simp only [zaT] at hc
     obtain ⟨⟨⟨⟨hzs, hps⟩, hord⟩, hbig⟩, hpos⟩ := hc
     have hzs' := zbE hzs
     have hps' := zbE hps
     have hbig' := zbL hbig
     have hpos' : 0 < ti.size := zbL hpos
     obtain ⟨e1, e2⟩ := evals_of hs hvs
     have hlen : vs.length = len := by
      have : (SV.dens γ vs).length = parts.toList.length := by rw [← e1]; simp
      rw [dens_length] at this
      rw [this]; simpa using hps'
     have base : (∀ v ∈ vs, (cellsOf v).length = ti.size) → vs.all (fun v => (cellsOf v).all (oneM M)) = true → (execOp a.eval o).run P w = .ok (.value (.slice (some ⟨w.heap.size, 0, none⟩) len len)) (w.alloc (.cells (SV.dens γ (vs.flatMap cellsOf)).toArray e)) := by
      intro hcl hone
      have hone' : ∀ v ∈ vs, (cellsOf v).all (oneM M) = true := fun v hv => List.all_eq_true.1 hone v hv
      have hcells : ∀ v ∈ SV.dens γ vs, v.cells.size = ti.size := by
       rw [dens_eq]
       intro v hv
       obtain ⟨x, hx, rfl⟩ := List.mem_map.1 hv
       have hx1 := hone' x hx
       have h1 : ∀ i, x = .row i → (γ.val i).oneCell' = true := fun i e => by subst e; exact row_one hs.mem (by simpa [cellsOf, oneM] using hx1)
       have h2 : ∀ i q k c, x ≠ .el i q k c := fun i q k c e => by subst e; simp [cellsOf, oneM, oneS] at hx1
       rw [cellsOf_den γ x h1 h2]
       simp [dens_length, hcl x hx]
      have hparts : (parts.map fun (i, x) => (i, a.eval x)).toList = ((SV.dens γ vs).zipIdx 0).map fun x => (x.2, x.1) := by
       have := inOrder_spec parts.toList 0 hord a.eval
       rw [← e1, List.map_map]
       rw [Array.toList_map]
       exact this
      have hfill : Instr.fill (fun i => some (i * ti.size, ti.size)) ((Array.range (len * ti.size)).map (z.cells[· % z.cells.size]!)) (parts.map fun (i, x) => (i, a.eval x)).toList = some (SV.dens γ (vs.flatMap cellsOf)).toArray := by
       rw [hparts, Go.Great.fill_whole hpos' (SV.dens γ vs) _ hcells (by simp [dens_length, hlen]), cells_flat hs.mem vs hone']
      unfold execOp
      by_cases h0 : len * ti.size = 0
      ·have hl0 : len = 0 := by rcases Nat.mul_eq_zero.1 h0 with h | h; exact h; omega
       subst hl0
       have hvs0 : vs = [] := List.eq_nil_of_length_eq_zero hlen
       subst hvs0
       have hp0 : parts = #[] := Array.eq_empty_of_size_eq_zero hps'
       subst hp0
       simp [ho, Instr.buildSlice, run_underlying hu, Go.sizeOf, run_info hti w, Instr.fill, newRow, SV.dens, Array.range_zero']
      ·have := run_buildSlice (P := P) w t e len (parts.map fun (i, x) => (i, a.eval x)) _ ti z hu hti hz (by omega) h0 hfill
       simp only [ho, Sem.run_bind, this, Result.andThen_ok, Sem.run_pure]
     have blkR : (∀ v ∈ vs, (cellsOf v).length = ti.size) → vs.all (fun v => (cellsOf v).all (oneM M)) = true → r = ⟨.sl b 0 len len, [(b, .blk e (vs.flatMap cellsOf))], rowsIn (vs.flatMap cellsOf)⟩ → o.wp P a w (Done I N w0 S0 γ D E M b o.dst r) Q := by
      intro hcl hone hrr
      subst hrr
      have hbD : D b = false := hb b (fresh_self b)
      have hγ : Agree (D · = true) γ (γ.blk' b w.heap.size) := blk'_agree hbD
      have hblk : (γ.blk' b w.heap.size).blk b = w.heap.size := by simp [Vn.blk']
      refine done_gen (w' := w.alloc (.cells (SV.dens γ (vs.flatMap cellsOf)).toArray e)) hs hd hr hγ ?_ (hs.fr.trans (fr_alloc S0.w w (.cells (SV.dens γ (vs.flatMap cellsOf)).toArray e))) ?_ (by rw [base hcl hone]; simp [SV.den, hblk])
      ·refine msat_new hs.mem hs.mids hγ hbD (fr_alloc (fun _ => False) w (.cells (SV.dens γ (vs.flatMap cellsOf)).toArray e)) (fun x => .inl (fun h => h)) ?_ (fun x hx => ?_)
       ·simp only [ResOK, hblk]
        rw [SV.dens_agree hγ _ (ids_flat D vs e2)]
        exact alloc_new _ _
       ·simp only [Res.foot, hblk] at hx
        subst hx
        exact ⟨Nat.le_refl _, by show _ < (w.heap.push _).size; simp⟩
      ·intro i x y hi hy
       obtain ⟨rfl, rfl⟩ := look_one hi
       simp only [Res.foot, hblk] at hy
       subst hy
       exact .inl hs.fr.size
     have split2 : vs.all (fun v => Nat.beq (cellsOf v).length ti.size && (cellsOf v).all (oneM M)) = true → (∀ v ∈ vs, (cellsOf v).length = ti.size) ∧ vs.all (fun v => (cellsOf v).all (oneM M)) = true := by
      intro hall
      refine ⟨fun v hv => ?_, List.all_eq_true.2 fun v hv => ?_⟩
      ·have := List.all_eq_true.1 hall v hv
       simp only [zaT] at this
       exact zbE this.1
      ·have := List.all_eq_true.1 hall v hv
       simp only [zaT] at this
       exact this.2
     split at h
     ·rename_i k hall hk
      obtain ⟨s1, s2⟩ := split2 hall
      split at h
      ·rename_i l hsz hl
       have hsz' := zbE hsz
       simp only [zsI] at h
       subst h
       have hden := ints?_den hl γ
       have hll : l.length = len := by
        have : (SV.dens γ vs).length = l.length := by rw [hden]; simp
        rw [dens_length, hlen] at this; exact this.symm
       have hcd : SV.dens γ (vs.flatMap cellsOf) = l.map (Value.int k) := by
        rw [← cells_flat hs.mem vs (fun v hv => List.all_eq_true.1 s2 v hv), hden]
        exact flat_ints k l
       have hn : (Cont.ints k l).n = len := hll
       refine done_own hs hb hd hr (cs := (SV.dens γ (vs.flatMap cellsOf)).toArray) (cap := len) ?_ ?_
       ·have := World.ownsRow_lit (base := 0) (e := e) (size := 1) w (l.map (Value.int k)).toArray len (Nat.zero_le _) (by simp only [maxLen]; rw [hsz'] at hbig'; omega) (by simp [hll])
        rw [hn, hcd]
        simpa [Cont.cells, Cont.sz] using this
       ·rw [hn]; exact base s1 s2
      ·simp only [zsI] at h; exact blkR s1 s2 h.symm
     ·rename_i hall hk
      obtain ⟨s1, s2⟩ := split2 hall
      split at h
      ·rename_i h0
       simp only [zaT] at h0
       have hv0 : vs = [] := List.eq_nil_of_length_eq_zero (zbE h0.1)
       have hl0 : len = 0 := by rw [← hlen, hv0]; rfl
       simp only [zsI] at h
       subst h
       have hrun := base s1 s2
       rw [hv0, hl0] at hrun
       refine done_ownc0 hs hb hd hr (cs := #[]) (cap := 0) ?_ hrun
       exact World.ownsRow_lit (base := 0) (e := e) (size := 1) w #[] 0 (Nat.zero_le _) (by simp [maxLen]) (by simp)
      ·simp only [zsI] at h; exact blkR s1 s2 h.symm
     ·cases h
    ·cases h
   ·cases h
  ·cases h
 ·cases h

theorem fold_splice : ∀ (l : List Value) (k off : Nat) (a : Array Value), off + k + l.length ≤ a.size →
  ((l.zipIdx k).foldl (fun (cs : Array Value) (x : Value × Nat) => cs.setIfInBounds (off + x.2) x.1) a).toList = a.toList.take (off + k) ++ l ++ a.toList.drop (off + k + l.length)
 | [], k, off, a, _ => by simp
 | v :: l, k, off, a, h => by
  simp only [List.length_cons] at h
  have ih := fold_splice l (k + 1) off (a.setIfInBounds (off + k) v) (by simp; omega)
  simp only [List.zipIdx_cons, List.foldl_cons, ih, Array.toList_setIfInBounds]
  have hL : off + k < a.toList.length := by simp; omega
  rw [List.set_eq_take_append_cons_drop, if_pos hL]
  have l1 : (a.toList.take (off + k)).length = off + k := by simp; omega
  rw [show off + (k + 1) = off + k + 1 by omega]
  have e1 : List.take (off + k + 1) (List.take (off + k) a.toList ++ v :: List.drop (off + k + 1) a.toList) = List.take (off + k) a.toList ++ [v] := by
   rw [List.take_append, l1, List.take_of_length_le (by rw [l1]; omega), show off + k + 1 - (off + k) = 1 by omega]; rfl
  have e2 : List.drop (off + k + 1 + l.length) (List.take (off + k) a.toList ++ v :: List.drop (off + k + 1) a.toList) = List.drop (off + k + (v :: l).length) a.toList := by
   rw [List.drop_append, l1, List.drop_eq_nil_of_le (by rw [l1]; omega), List.nil_append, show off + k + 1 + l.length - (off + k) = l.length + 1 by omega, List.drop_succ_cons, List.drop_drop, List.length_cons]
   congr 1; omega
  rw [e1, e2]
  simp
theorem fold_cells (c : Array Value) (off : Nat) (a : Array Value) (h : off + c.size ≤ a.size) : c.zipIdx.foldl (fun (cs : Array Value) (x : Value × Nat) => cs.setIfInBounds (off + x.2) x.1) a = (a.toList.take off ++ c.toList ++ a.toList.drop (off + c.size)).toArray := by
 apply Array.ext'
 rw [← Array.foldl_toList, Array.toList_zipIdx]
 have := fold_splice c.toList 0 off a (by simpa using h)
 simpa using this
theorem fillS_den (hs : MSat I γ M w) {place : Nat → Option (Nat × Nat)} : ∀ (is : List Nat) (xs cells cs : List SV), fillS M place cells is xs = some cs →
  Instr.fill place (SV.dens γ cells).toArray (is.zip (SV.dens γ xs)) = some (SV.dens γ cs).toArray
 | [], [], cells, cs, h => by simp only [fillS, zsI] at h; subst h; simp [Instr.fill]
 | i :: is, x :: xs, cells, cs, h => by
  simp only [fillS] at h
  split at h
  ·rename_i off size hp
   split at h
   ·rename_i hc
    simp only [zaT] at hc
    obtain ⟨⟨c1, c2⟩, c3⟩ := hc
    have c1 := zbE c1
    have c3 := zbL c3
    have h1 : ∀ j, x = .row j → (γ.val j).oneCell' = true := fun j e => by subst e; exact row_one hs (by simpa [cellsOf, oneM] using c2)
    have h2 : ∀ j q k c, x ≠ .el j q k c := fun j q k c e => by subst e; simp [cellsOf, oneM, oneS] at c2
    have hcell := cellsOf_den γ x h1 h2
    have ih := fillS_den hs is xs _ cs h
    simp only [SV.dens, List.zip_cons_cons, Instr.fill, hp]
    rw [hcell]
    have hsz : (SV.dens γ (cellsOf x)).toArray.size = size := by simp [dens_length, c1]
    rw [if_neg (by simp only [hsz]; simp [dens_length]; omega)]
    rw [fold_cells _ off _ (by rw [hsz]; simp [dens_length]; omega)]
    rw [← ih]
    congr 2
    simp [splice, dens_append, dens_take, dens_drop, dens_length]
   ·cases h
  ·cases h
 | [], _ :: _, _, _, h => by simp [fillS] at h
 | _ :: _, [], _, _, h => by simp [fillS] at h
theorem build_sound {t : TypeId} {parts : Array (Nat × Operand)} (ho : o.op = .build t parts) (h : buildStep P E M some none t parts = some r)
  (hs : Sat I N w0 S0 γ D E M a w) (hd : ∀ x, o.dst = some x → x < N) (hr : RecIn D b r) : o.wp P a w (Done I N w0 S0 γ D E M b o.dst r) Q := by
 have key : ∀ (vs : List SV) (cs : List SV) (rd : List Nat) (z : Value) (place : Nat → Option (Nat × Nat)), evs E (parts.toList.map (·.2)) = some vs → fillS M place (z.cells.toList.map .v) (parts.toList.map (·.1)) vs = some cs →
   (∀ q, Instr.fill place z.cells q = some (SV.dens γ cs).toArray → P.built t q = some (SV.dens γ cs).toArray) → r = ⟨mkAgg cs, [], rd⟩ → o.wp P a w (Done I N w0 S0 γ D E M b o.dst r) Q := by
  intro vs cs rd z place hvs hf hb hrr
  subst hrr
  obtain ⟨e1, e2⟩ := evals_of hs hvs
  have hfill := fillS_den hs.mem _ _ _ _ hf
  rw [dens_map_v] at hfill
  have hparts : (parts.map fun (i, x) => (i, a.eval x)).toList = (parts.toList.map (·.1)).zip (SV.dens γ vs) := by
   rw [← e1, Array.toList_map, List.map_map, List.zip_map', List.map_congr_left]
   intro p _; rfl
  refine done_val hs hd hr ?_
  have hbt := hb _ hfill
  have hrun := run_build (P := P) w t (parts.map fun (i, x) => (i, a.eval x)) _ (by rw [hparts]; exact hbt)
  unfold execOp
  simp only [ho, Sem.run_bind, hrun, Result.andThen_ok, Sem.run_pure, mkAgg_den]
 unfold buildStep at h
 split at h
 ·rename_i it fs hit hu
  split at h
  ·rename_i z places vs hz hpl hvs
   split at h
   ·rename_i cs hf
    simp only [zsI] at h
    exact key vs cs _ z _ hvs hf (fun q hq => by simp only [Program.built, hit, hu, hz, hpl]; exact hq) h.symm
   ·cases h
  ·cases h
 ·rename_i it n e hit hu
  split at h
  ·rename_i z ie vs hz hie hvs
   split at h
   ·rename_i cs hf
    simp only [zsI] at h
    exact key vs cs _ z _ hvs hf (fun q hq => by simp only [Program.built, hit, hu, hz, hie]; exact hq) h.symm
   ·cases h
  ·cases h
 ·cases h
theorem bound_val (hs : Sat I N w0 S0 γ D E M a w) {d : Int} {x : Option Operand} {l : Int} (h : boundOf E d x = some l) : (x = none ∧ l = d) ∨ ∃ y k, x = some y ∧ a.eval y = .int k l := by
 unfold boundOf at h
 split at h
 ·simp only [zsI] at h; exact .inl ⟨rfl, h.symm⟩
 ·rename_i y
  split at h
  ·rename_i k m hy
   simp only [zsI] at h
   subst h
   exact .inr ⟨y, k, rfl, by rw [eval_of hs hy]; simp [SV.den]⟩
  ·cases h
theorem bounds_run (hs : Sat I N w0 S0 γ D E M a w) {isSlice : Bool} {len cap : Nat} {lo hi : Option Operand} {l h : Int} (hl : boundOf E 0 lo = some l) (hh : boundOf E (len : Int) hi = some h) (h0 : 0 ≤ l) (h1 : l ≤ h) (h2 : h ≤ (len : Int)) (hc : len ≤ cap) :
  (Instr.sliceBounds isSlice len cap (lo.map a.eval) (hi.map a.eval) none).run P w = .ok (l.toNat, h.toNat, cap) w := by
 have e : (h.toNat : Int) = h := Int.toNat_of_nonneg (by omega)
 have a1 : h ≤ (cap : Int) := by omega
 have a0 : 0 ≤ h := by omega
 rcases bound_val hs hl with ⟨rfl, rfl⟩ | ⟨y, k, rfl, hy⟩ <;> rcases bound_val hs hh with ⟨rfl, rfl⟩ | ⟨z, q, rfl, hz⟩
 ·simp [Instr.sliceBounds]
 ·simp [Instr.sliceBounds, hz, Go.run_sliceBound, a0, a1]
 ·simp [Instr.sliceBounds, hy, Go.run_sliceBound, h0, h1]
 ·simp [Instr.sliceBounds, hy, hz, Go.run_sliceBound, h0, a0, a1, e, h1]
theorem sub_get {c : Cont} {l h : Nat} (hl : l ≤ h) (hh : h ≤ c.n) : (c.sub l h).n = h - l ∧ (c.sub l h).sz = c.sz ∧ ∀ i x, (c.sub l h).cells[i]? = some x → c.cells[l * c.sz + i]? = some x := by
 cases c with
 | ints k xs =>
  simp only [Cont.n] at hh
  refine ⟨by simp [Cont.sub, Cont.n]; omega, rfl, fun i x hx => ?_⟩
  simp only [Cont.sub, Cont.cells, List.getElem?_map, List.getElem?_take, Cont.sz, Nat.mul_one] at hx ⊢
  split at hx
  ·rw [List.getElem?_drop] at hx; exact hx
  ·cases hx
 | structs ks xs =>
  simp only [Cont.n] at hh
  refine ⟨by simp [Cont.sub, Cont.n]; omega, rfl, fun i x hx => ?_⟩
  have hlen : ((c : Cont) → c = (Cont.structs ks xs).sub l h → c.cells.length = (h - l) * ks.length) := fun c e => by
   subst e; rw [Cont.cells_length]; simp only [Cont.sub, Cont.n, Cont.sz, List.length_take, List.length_drop]; rw [Nat.min_eq_left (by omega)]
  have hi := (List.getElem?_eq_some_iff.1 hx).1
  rw [hlen _ rfl] at hi
  have hpos : 0 < ks.length := by
   rcases Nat.eq_zero_or_pos ks.length with h | h
   ·rw [h] at hi; omega
   ·exact h
  have hdiv : i / ks.length < h - l := Nat.div_lt_of_lt_mul (by rw [Nat.mul_comm]; exact hi)
  have hmod : i % ks.length < ks.length := Nat.mod_lt _ hpos
  have e1 : i = i / ks.length * ks.length + i % ks.length := by rw [Nat.mul_comm]; exact (Nat.div_add_mod _ _).symm
  have hn' : ((Cont.structs ks xs).sub l h).n = h - l := by simp [Cont.sub, Cont.n]; omega
  have g1 := Cont.cell_get ((Cont.structs ks xs).sub l h) (i := i / ks.length) (j := i % ks.length) (by rw [hn']; exact hdiv) hmod
  have g2 := Cont.cell_get (Cont.structs ks xs) (i := l + i / ks.length) (j := i % ks.length) (by simp [Cont.n]; omega) hmod
  simp only [Cont.sub, Cont.sz] at g1 g2
  rw [← e1] at g1
  have hx' : (Cont.structs ks ((xs.drop l).take (h - l))).cells[i]? = some x := hx
  rw [g1] at hx'
  simp only [Cont.sz]
  rw [show l * ks.length + i = (l + i / ks.length) * ks.length + i % ks.length by rw [Nat.add_mul]; omega, g2, ← hx']
  simp only [Cont.at]
  congr 2
  simp [List.getD, List.getElem?_take, hdiv]
theorem sliceAt_run (hs : Sat I N w0 S0 γ D E M a w) {t e : TypeId} {ti : TypeInfo} (hu : P.underlying t = some (.slice e)) (hti : P.info? e = some ti) {base : Option Addr} {len cap : Nat} {lo hi : Option Operand} {l h : Int} (hl : boundOf E 0 lo = some l) (hh : boundOf E (len : Int) hi = some h) (h0 : 0 ≤ l) (h1 : l ≤ h) (h2 : h ≤ (len : Int)) (hc : len ≤ cap) :
  (Instr.sliceAt t (.slice base len cap) (lo.map a.eval) (hi.map a.eval) none).run P w = .ok (.slice (if cap = l.toNat then base else base.map (·.add (l.toNat * ti.size))) (h.toNat - l.toNat) (cap - l.toNat)) w := by
 have hb := bounds_run (P := P) hs (isSlice := true) hl hh h0 h1 h2 hc
 simp [Instr.sliceAt, run_underlying hu, Instr.slice, hb, Go.sizeOf, run_info hti w]
theorem slice_run {t : TypeId} {x : Operand} {lo hi : Option Operand} (ho : o.op = .slice t x lo hi none) {v u : Value} (hx : a.eval x = v) (h : (Instr.sliceAt t v (lo.map a.eval) (hi.map a.eval) none).run P w = .ok u w) : (execOp a.eval o).run P w = .ok (.value u) w := by
 unfold execOp
 simp [ho, hx, h]
theorem sub_reads {F : Nat → Prop} {v : Value} {c : Cont} (hR : ReadsC F w v c) {l h : Nat} (hl : l ≤ h) (hh : h ≤ c.n) :
  ∃ base cap, v = .slice base c.n cap ∧ c.n ≤ cap ∧ ReadsC F w (.slice (if cap = l then base else base.map (·.add (l * c.sz))) (h - l) (cap - l)) (c.sub l h) := by
 obtain ⟨s1, s2, s3⟩ := sub_get hl hh
 rcases hR.2 with ⟨rfl, hn⟩ | ⟨ad, cap, rfl, hF, hsp, hc, hm, hcell⟩ | ⟨ad, rfl, hn⟩
 ·have hl0 : l = 0 := by omega
  have hh0 : h = 0 := by omega
  subst hl0; subst hh0
  refine ⟨none, 0, by rw [hn], by omega, ?_⟩
  refine ⟨Cont.cells_length _, .inl ⟨by simp, by rw [s1]⟩⟩
 rotate_left
 ·have hl0 : l = 0 := by omega
  have hh0 : h = 0 := by omega
  subst hl0; subst hh0
  refine ⟨some ad, 0, by rw [hn], by omega, ?_⟩
  exact ⟨Cont.cells_length _, .inr (.inr ⟨ad, by simp, by rw [s1]⟩)⟩
 ·refine ⟨some ad, cap, rfl, hc, Cont.cells_length _, .inr (.inl ⟨if cap = l then ad else ad.add (l * c.sz), cap - l, ?_, ?_, ?_, by rw [s1]; omega, by omega, fun i x hx => ?_⟩)⟩
  ·rw [s1]; split <;> rfl
  ·split
   ·exact hF
   ·rw [addr_add_block]; exact hF
  ·split
   ·exact hsp
   ·unfold Addr.add; split <;> simp [hsp]
  ·have hi := (List.getElem?_eq_some_iff.1 hx).1
   rw [Cont.cells_length, s1] at hi
   have : cap ≠ l := fun e => by
    have : h - l = 0 := by omega
    rw [this] at hi; omega
   rw [if_neg this, add_add']
   exact hcell _ _ (s3 i x hx)
theorem cut_readsN {F : Nat → Prop} {v : Value} {xss : List (List Int)} (hR : ReadsInN F w v xss) {h : Nat} (hh : h ≤ xss.length) :
  ∃ base cap, v = .slice base xss.length cap ∧ xss.length ≤ cap ∧ ReadsInN F w (.slice (if cap = 0 then base else base.map (·.add (0 * 1))) (h - 0) (cap - 0)) (xss.take h) := by
 obtain ⟨vs, h1, h2, h3⟩ := hR
 have hv : (vs.take h).length = (xss.take h).length := by rw [List.length_take, List.length_take, h1]
 have hl : (xss.take h).length = h := by rw [List.length_take]; omega
 have key : ∀ v', ReadsIn F w v' 1 h (vs.take h) → ReadsInN F w v' (xss.take h) := fun v' hr =>
  ⟨vs.take h, hv, by rw [hl]; exact hr, fun i y xs hy hx => by
   rw [List.getElem?_take] at hy hx
   split at hy
   ·rename_i hi; rw [if_pos hi] at hx; exact h3 i y xs hy hx
   ·cases hy⟩
 rcases h2.2 with ⟨rfl, hn⟩ | ⟨ad, cap, rfl, hF, hsp, hc, hm, hcell⟩ | ⟨ad, rfl, hn⟩
 ·have hh0 : h = 0 := by omega
  subst hh0
  exact ⟨none, 0, by rw [hn], by omega, key _ ⟨by simp, .inl ⟨rfl, rfl⟩⟩⟩
 rotate_left
 ·have hh0 : h = 0 := by omega
  subst hh0
  exact ⟨some ad, 0, by rw [hn], by omega, key _ ⟨by simp, .inr (.inr ⟨ad, rfl, rfl⟩)⟩⟩
 ·refine ⟨some ad, cap, rfl, hc, key _ ⟨by rw [hv, hl]; omega, .inr (.inl ⟨if cap = 0 then ad else ad.add (0 * 1), cap - 0, ?_, ?_, ?_, by omega, by omega, fun i x hx => ?_⟩)⟩⟩
  ·split <;> rfl
  ·split
   ·exact hF
   ·rw [addr_add_block]; exact hF
  ·split
   ·exact hsp
   ·unfold Addr.add; split <;> simp [hsp]
  ·rw [List.getElem?_take] at hx
   split at hx
   ·have := (List.getElem?_eq_some_iff.1 hx).1
    rw [if_neg (by omega), add_add', Nat.zero_mul, Nat.zero_add]
    exact hcell i x hx
   ·cases hx
theorem slice_sound {t : TypeId} {x : Operand} {lo hi : Option Operand} {u : SV} (ho : o.op = .slice t x lo hi none) (hx : ev E x = some u) (h : sliceStep P o E M b some none t u lo hi = some r)
  (hs : Sat I N w0 S0 γ D E M a w) (hb : ∀ i, fresh b i = true → D i = false) (hd : ∀ x, o.dst = some x → x < N) (hr : RecIn D b r) : o.wp P a w (Done I N w0 S0 γ D E M b o.dst r) Q := by
 have ex := eval_of hs hx
 have hbD : D b = false := hb b (fresh_self b)
 unfold sliceStep at h
 split at h
 ·rename_i e i hu
  simp only [SV.den] at ex
  split at h
  ·rename_i ti c hti hM
   split at h
   ·rename_i l h' hsz hl hh
    split at h
    ·rename_i hc
     simp only [zaT, decide_eq_true_eq] at hc
     obtain ⟨⟨h0, h1⟩, h2⟩ := hc
     simp only [zsI] at h
     subst h
     have hR := row_reads hs.mem (.inl hM)
     obtain ⟨base, cap, e1, hcap, hsub⟩ := sub_reads hR (l := l.toNat) (h := h'.toNat) (by omega) (by omega)
     have hrun := sliceAt_run (P := P) (base := base) hs hu hti hl hh h0 h1 h2 hcap
     rw [zbE hsz] at hrun
     have hγ : Agree (D · = true) γ (γ.row' b (.slice (if cap = l.toNat then base else base.map (·.add (l.toNat * c.sz))) (h'.toNat - l.toNat) (cap - l.toNat)) (γ.foot i)) := row'_agree hbD
     refine done_gen hs hd hr hγ ?_ hs.fr (fun j x y hj hy => by obtain ⟨rfl, rfl⟩ := look_one hj; simp only [Res.foot, row'_foot] at hy; exact hs.share hM hy rfl) (slice_run ho ex ?_)
     ·refine msat_share hs.mem hs.mids hγ hbD hM rfl rfl ?_ (fun x hx => ?_)
      ·simp only [ResOK, row'_val, row'_foot]; exact hsub
      ·simp only [Res.foot, row'_foot] at hx; exact hx
     ·rw [e1, hrun]; simp [SV.den, row'_val]
    ·cases h
   ·cases h
  ·rename_i ti e' c hti hM
   split at h
   ·rename_i l h' hsz hl hh
    split at h
    ·rename_i hc
     simp only [zaT, decide_eq_true_eq] at hc
     obtain ⟨⟨h0, h1⟩, h2⟩ := hc
     simp only [zsI] at h
     subst h
     have hR := row_reads hs.mem (.inr ⟨_, hM⟩)
     obtain ⟨base, cap, e1, hcap, hsub⟩ := sub_reads hR (l := l.toNat) (h := h'.toNat) (by omega) (by omega)
     have hrun := sliceAt_run (P := P) (base := base) hs hu hti hl hh h0 h1 h2 hcap
     rw [zbE hsz] at hrun
     have hγ : Agree (D · = true) γ (γ.row' b (.slice (if cap = l.toNat then base else base.map (·.add (l.toNat * c.sz))) (h'.toNat - l.toNat) (cap - l.toNat)) (γ.foot i)) := row'_agree hbD
     have hib : i ≠ b := fun e => by subst e; have := (hs.mids i _ hM).1; rw [hbD] at this; cases this
     have hm1 : MSat I γ (updM [(i, .ro c)] M) w := msat_write hs.mem hM rfl (Nat.le_refl _) (fun _ _ _ => rfl) hR (fun x hx => hx)
     have hi1 : updM [(i, .ro c)] M i = some (.ro c) := by unfold updM; rw [look_cons, if_pos rfl]; rfl
     have hmids1 : ∀ j r, updM [(i, .ro c)] M j = some r → D j = true ∧ r.ids D = true := by
      intro j r hj
      unfold updM at hj
      rw [look_cons] at hj
      split at hj
      ·rename_i e; subst e; simp only [Option.some_or, zsI] at hj; subst hj; exact ⟨(hs.mids i _ hM).1, rfl⟩
      ·exact hs.mids j r hj
     have hfun : updM [(b, .ro (c.sub l.toNat h'.toNat)), (i, .ro c)] M = updM [(b, .ro (c.sub l.toNat h'.toNat))] (updM [(i, .ro c)] M) := by
      funext j
      unfold updM
      rw [look_cons, look_cons, look_cons]
      by_cases hj : b = j
      ·rw [if_pos hj, if_pos hj]; rfl
      ·rw [if_neg hj, if_neg hj]; rfl
     refine done_gen hs hd hr hγ ?_ hs.fr (fun j x y hj hy => ?_) (slice_run ho ex ?_)
     ·show MSat I _ (updM [(b, .ro (c.sub l.toNat h'.toNat)), (i, .ro c)] M) w
      rw [hfun]
      refine msat_share hm1 hmids1 hγ hbD hi1 rfl rfl ?_ (fun x hx => ?_)
      ·simp only [ResOK, row'_val, row'_foot]; exact hsub
      ·simp only [Res.foot, row'_foot] at hx; exact hx
     ·rw [look_cons] at hj
      split at hj
      ·rename_i hjb
       subst hjb
       simp only [zsI] at hj; subst hj
       simp only [Res.foot, row'_foot] at hy
       exact hs.share hM hy rfl
      ·obtain ⟨rfl, rfl⟩ := look_one hj
       have hy' := (congrFun (hγ.foot _ (hs.mids _ _ hM).1) y).mp hy
       exact hs.share hM hy' rfl
     ·rw [e1, hrun]; simp [SV.den, row'_val]
    ·cases h
   ·cases h
  ·rename_i ti xss hti hM
   split at h
   ·rename_i l h' hsz hl hh
    split at h
    ·rename_i hc
     simp only [zaT, decide_eq_true_eq] at hc
     obtain ⟨⟨rfl, h1⟩, h2⟩ := hc
     simp only [zsI] at h
     subst h
     obtain ⟨base, cap, e1, hcap, hsub⟩ := cut_readsN (hs.mem.ok i _ hM) (h := h'.toNat) (by omega)
     have hrun := sliceAt_run (P := P) (base := base) hs hu hti hl hh (by omega) h1 h2 hcap
     rw [zbE hsz] at hrun
     have hγ : Agree (D · = true) γ (γ.row' b (.slice (if cap = 0 then base else base.map (·.add (0 * 1))) (h'.toNat - 0) (cap - 0)) (γ.foot i)) := row'_agree hbD
     refine done_gen hs hd hr hγ ?_ hs.fr (fun j x y hj hy => by obtain ⟨rfl, rfl⟩ := look_one hj; simp only [Res.foot, row'_foot] at hy; exact hs.share hM hy rfl) (slice_run ho ex ?_)
     ·refine msat_share hs.mem hs.mids hγ hbD hM rfl rfl ?_ (fun x hx => ?_)
      ·simp only [ResOK, row'_val, row'_foot]; exact hsub
      ·simp only [Res.foot, row'_foot] at hx; exact hx
     ·rw [e1, hrun]; simp [SV.den, row'_val]
    ·cases h
   ·cases h
  ·cases h
 ·rename_i n e i off hu
  simp only [SV.den] at ex
  split at h
  ·rename_i ti l h' hti hl hh
   split at h
   ·rename_i hc
    simp only [zaT, decide_eq_true_eq] at hc
    obtain ⟨⟨h0, h1⟩, h2⟩ := hc
    simp only [zsI] at h
    subst h
    have hbr := bounds_run (P := P) hs (isSlice := false) hl hh h0 h1 h2 (Nat.le_refl n)
    refine done_val hs hd hr (slice_run ho ex ?_)
    have hsz : (Go.sizeOf e).run P w = .ok ti.size w := by simp [Go.sizeOf, run_info hti w]
    simp only [Instr.sliceAt, Sem.run_bind, run_underlying hu w, Result.andThen_ok, Instr.sureAddr, Sem.run_pure, hbr, hsz, SV.den]
    congr 3
    by_cases hn : n = l.toNat
    ·have hb' : Nat.beq n l.toNat = true := by rw [hn]; simp
     rw [if_pos hn, hb']
    ·have hb' : Nat.beq n l.toNat = false := by
      cases hbb : Nat.beq n l.toNat with
      | false => rfl
      | true => exact absurd (zbE hbb) hn
     rw [if_neg hn, hb', add_off]
   ·cases h
  ·cases h
 ·exact pure_sound (by simp [ho]) h hs hd hr
 ·exact pure_sound (by simp [ho]) h hs hd hr
 ·cases h
end
end Sx
