/- Names in which verification conditions are written: plain functions, quickly read. No statement of the program itself. -/
import Derived.Test.YtgekiddgdjeaiaaGreatSy
namespace Sx
open Go
def app {α : Type} (a b : List α) : List α := a ++ b
def ay (a b : Nat) : Nat := a + b
def iy (a b : Nat) : Nat := a - b
def jd (a b : Nat) : Nat := a * b
def bqg (a b : Nat) : Nat := a ^ b
def bqs (a b : Nat) : Nat := a / b
def bqu (a b : Nat) : Nat := a % b
def dh (a b : Int) : Int := a + b
def di (a b : Int) : Int := a - b
def aa9 (a b : Int) : Int := a * b
def abn (a : Int) : Int := -a
def df (a : Int) (b : Nat) : Int := a ^ b
def iOf (a : Nat) : Int := a
def iLt (a b : Int) : Bool := decide (a < b)
def iLe (a b : Int) : Bool := decide (a ≤ b)
def iEq (a b : Int) : Bool := decide (a = b)
def ax (a b : Int) : Bool := a == b
def qc (a b : Int) : Bool := a != b
abbrev EqI (a b : List Int) : Prop := a = b
abbrev anx (a b : List (List Int)) : Prop := a = b
theorem air (a b : Int) : (iLt a b = true) = (a < b) := by simp [iLt]
theorem aeo (a b : Int) : (iLt a b = false) = ¬ (a < b) := by simp [iLt]
theorem ag4 (a b : Int) : (iLe a b = true) = (a ≤ b) := by simp [iLe]
theorem ajt (a b : Int) : (iLe a b = false) = ¬ (a ≤ b) := by simp [iLe]
theorem bo3 (a b : Int) : (iEq a b = true) = (a = b) := by simp [iEq]
theorem bpy (a b : Int) : (iEq a b = false) = ¬ (a = b) := by simp [iEq]
theorem ab9 (a b : Int) : (ax a b = true) = (a = b) := by simp [ax]
theorem akg (a b : Int) : (ax a b = false) = ¬ (a = b) := by simp [ax]
theorem bcu (a b : Int) : (qc a b = true) = ¬ (a = b) := by simp [qc]
theorem bdm (a b : Int) : (qc a b = false) = (a = b) := by simp [qc]
theorem Bz : (∀ a b : Bool, ((a && b) = true) = (a = true ∧ b = true)) ∧ (∀ a b : Bool, ((a || b) = true) = (a = true ∨ b = true)) ∧ (∀ a b, (iLt a b = true) = (a < b)) ∧ (∀ a b, (iLt a b = false) = ¬ (a < b)) ∧ (∀ a b, (iLe a b = true) = (a ≤ b)) ∧ (∀ a b, (iLe a b = false) = ¬ (a ≤ b)) ∧ (∀ a b, (iEq a b = true) = (a = b)) ∧ (∀ a b, (iEq a b = false) = ¬ (a = b)) ∧ (∀ a b, (ax a b = true) = (a = b)) ∧ (∀ a b, (ax a b = false) = ¬ (a = b)) ∧ (∀ a b, (qc a b = true) = ¬ (a = b)) ∧ (∀ a b, (qc a b = false) = (a = b)) ∧ (∀ n m, (Nat.ble n m = true) = (n ≤ m)) ∧ (∀ n m, (Nat.beq n m = true) = (n = m)) :=
 ⟨fun a b => zaT a b, fun a b => Bool.or_eq_true a b, air, aeo, ag4, ajt, bo3, bpy, ab9, akg, bcu, bdm, fun _ _ => Nat.ble_eq, fun _ _ => Nat.beq_eq⟩
abbrev vI (a : Int) : Value := .int .i64 a
abbrev vB (a : Bool) : Value := .bool a
abbrev cS (l : List (List Int)) : af := .structs [.i64, .i64, .i64, .u64, .i64] l
theorem zUn : (∀ (α : Type) (a b : List α), app a b = a ++ b) ∧ (∀ a b, ay a b = a + b) ∧ (∀ a b, iy a b = a - b) ∧ (∀ a b, jd a b = a * b) ∧ (∀ a b, bqg a b = a ^ b) ∧ (∀ a b, bqs a b = a / b) ∧ (∀ a b, bqu a b = a % b) ∧ (∀ a b, dh a b = a + b) ∧ (∀ a b, di a b = a - b) ∧ (∀ a b, aa9 a b = a * b) ∧ (∀ a, abn a = -a) ∧ (∀ a b, df a b = a ^ b) ∧ (∀ a, iOf a = (a : Int)) :=
 ⟨fun _ _ _ => rfl, fun _ _ => rfl, fun _ _ => rfl, fun _ _ => rfl, fun _ _ => rfl, fun _ _ => rfl, fun _ _ => rfl, fun _ _ => rfl, fun _ _ => rfl, fun _ _ => rfl, fun _ => rfl, fun _ _ => rfl, fun _ => rfl⟩
theorem axe (x y : Prop) : If true x y = x := rfl
theorem a7t (x y : Prop) : If false x y = y := rfl
@[irreducible] def apt (P : Program) (sp : FuncId → Option Spec) (N : Nat) (an : List Ann) (c : Code) (n B : Nat) (env : Env) (mem : Mem) (K : Exit → Nat → Env → Mem → Prop) : Prop := wpc P sp N an c n B env mem K
theorem acu {P : Program} {sp : FuncId → Option Spec} {N : Nat} {an : List Ann} {c : Code} {n B : Nat} {env : Env} {mem : Mem} {K : Exit → Nat → Env → Mem → Prop} (h : apt P sp N an c n B env mem K) : wpc P sp N an c n B env mem K := by unfold apt at h; exact h
theorem jq {I : Interp} {P : Program} {sp : FuncId → Option Spec} (hsp : ∀ f s, sp f = some s → ag I P f s) (hm : P.follows .mixedOrders = true) (an : List Ann) {f : FuncId} {fn : Func} {c : Code} {N : Nat}
  (hf : P.funcs[f]? = some fn) (hname : (fn.name == "runtime.NumGoroutine") = false) (hb' : fn.body.isSome = true) (hc : wu fn = c) (hN : fn.ntmps = N) {g : List Value → Option (Bool × Value)} {n : Nat} (hn : n ≤ N)
  (hg : ∀ l p v, g l = some (p, v) → l.length = n)
  (h : ∀ l v, g l = some (true, v) → apt P sp N an c 0 0 (ah3 l 0) [] (blm P fn.results.toList v)) : ag I P f (bz g) :=
 agb hf hname hb' fun l v hl w ha => aos hsp hm an hf hb' hc hN (by rw [hg l true v hl]; exact hn) (acu (h l v hl)) w ha
end Sx
