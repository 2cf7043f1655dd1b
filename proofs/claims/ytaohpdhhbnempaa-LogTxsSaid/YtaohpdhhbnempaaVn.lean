/- Names in which verification conditions are written: plain functions, quickly read. No statement of the program itself. -/
import Derived.Test.YtaohpdhhbnempaaSy
namespace Sx
open Go
def app {α : Type} (a b : List α) : List α := a ++ b
def nAdd (a b : Nat) : Nat := a + b
def nSub (a b : Nat) : Nat := a - b
def nMul (a b : Nat) : Nat := a * b
def nPow (a b : Nat) : Nat := a ^ b
def nDiv (a b : Nat) : Nat := a / b
def nMod (a b : Nat) : Nat := a % b
def iAdd (a b : Int) : Int := a + b
def iSub (a b : Int) : Int := a - b
def iMul (a b : Int) : Int := a * b
def iNeg (a : Int) : Int := -a
def iPow (a : Int) (b : Nat) : Int := a ^ b
def iOf (a : Nat) : Int := a
def iLt (a b : Int) : Bool := decide (a < b)
def iLe (a b : Int) : Bool := decide (a ≤ b)
def iEq (a b : Int) : Bool := decide (a = b)
def iBeq (a b : Int) : Bool := a == b
def iBne (a b : Int) : Bool := a != b
abbrev EqI (a b : List Int) : Prop := a = b
abbrev EqII (a b : List (List Int)) : Prop := a = b
theorem iLt_t (a b : Int) : (iLt a b = true) = (a < b) := by simp [iLt]
theorem iLt_f (a b : Int) : (iLt a b = false) = ¬ (a < b) := by simp [iLt]
theorem iLe_t (a b : Int) : (iLe a b = true) = (a ≤ b) := by simp [iLe]
theorem iLe_f (a b : Int) : (iLe a b = false) = ¬ (a ≤ b) := by simp [iLe]
theorem iEq_t (a b : Int) : (iEq a b = true) = (a = b) := by simp [iEq]
theorem iEq_f (a b : Int) : (iEq a b = false) = ¬ (a = b) := by simp [iEq]
theorem iBeq_t (a b : Int) : (iBeq a b = true) = (a = b) := by simp [iBeq]
theorem iBeq_f (a b : Int) : (iBeq a b = false) = ¬ (a = b) := by simp [iBeq]
theorem iBne_t (a b : Int) : (iBne a b = true) = ¬ (a = b) := by simp [iBne]
theorem iBne_f (a b : Int) : (iBne a b = false) = (a = b) := by simp [iBne]
theorem Bz : (∀ a b : Bool, ((a && b) = true) = (a = true ∧ b = true)) ∧ (∀ a b : Bool, ((a || b) = true) = (a = true ∨ b = true)) ∧ (∀ a b, (iLt a b = true) = (a < b)) ∧ (∀ a b, (iLt a b = false) = ¬ (a < b)) ∧ (∀ a b, (iLe a b = true) = (a ≤ b)) ∧ (∀ a b, (iLe a b = false) = ¬ (a ≤ b)) ∧ (∀ a b, (iEq a b = true) = (a = b)) ∧ (∀ a b, (iEq a b = false) = ¬ (a = b)) ∧ (∀ a b, (iBeq a b = true) = (a = b)) ∧ (∀ a b, (iBeq a b = false) = ¬ (a = b)) ∧ (∀ a b, (iBne a b = true) = ¬ (a = b)) ∧ (∀ a b, (iBne a b = false) = (a = b)) ∧ (∀ n m, (Nat.ble n m = true) = (n ≤ m)) ∧ (∀ n m, (Nat.beq n m = true) = (n = m)) :=
 ⟨fun a b => zaT a b, fun a b => Bool.or_eq_true a b, iLt_t, iLt_f, iLe_t, iLe_f, iEq_t, iEq_f, iBeq_t, iBeq_f, iBne_t, iBne_f, fun _ _ => Nat.ble_eq, fun _ _ => Nat.beq_eq⟩
abbrev yI (a : Int) : Value := .int .i64 a
abbrev yB (a : Bool) : Value := .bool a
abbrev cS (l : List (List Int)) : Cont := .structs [.i64, .i64, .i64, .u64, .i64] l
theorem zUn : (∀ (α : Type) (a b : List α), app a b = a ++ b) ∧ (∀ a b, nAdd a b = a + b) ∧ (∀ a b, nSub a b = a - b) ∧ (∀ a b, nMul a b = a * b) ∧ (∀ a b, nPow a b = a ^ b) ∧ (∀ a b, nDiv a b = a / b) ∧ (∀ a b, nMod a b = a % b) ∧ (∀ a b, iAdd a b = a + b) ∧ (∀ a b, iSub a b = a - b) ∧ (∀ a b, iMul a b = a * b) ∧ (∀ a, iNeg a = -a) ∧ (∀ a b, iPow a b = a ^ b) ∧ (∀ a, iOf a = (a : Int)) :=
 ⟨fun _ _ _ => rfl, fun _ _ => rfl, fun _ _ => rfl, fun _ _ => rfl, fun _ _ => rfl, fun _ _ => rfl, fun _ _ => rfl, fun _ _ => rfl, fun _ _ => rfl, fun _ _ => rfl, fun _ => rfl, fun _ _ => rfl, fun _ => rfl⟩
theorem If_t (x y : Prop) : If true x y = x := rfl
@[irreducible] def wpcI (P : Program) (sp : FuncId → Option Spec) (N : Nat) (an : List Ann) (c : Code) (n B : Nat) (env : Env) (mem : Mem) (K : Exit → Nat → Env → Mem → Prop) : Prop := wpc P sp N an c n B env mem K
theorem wpcI_of {P : Program} {sp : FuncId → Option Spec} {N : Nat} {an : List Ann} {c : Code} {n B : Nat} {env : Env} {mem : Mem} {K : Exit → Nat → Env → Mem → Prop} (h : wpcI P sp N an c n B env mem K) : wpc P sp N an c n B env mem K := by unfold wpcI at h; exact h
theorem spec_walk {I : Interp} {P : Program} {sp : FuncId → Option Spec} (hsp : ∀ f s, sp f = some s → SpecOK I P f s) (hm : P.follows .mixedOrders = true) (an : List Ann) {f : FuncId} {fn : Func} {c : Code} {N : Nat}
  (hf : P.funcs[f]? = some fn) (hname : (fn.name == "runtime.NumGoroutine") = false) (hb' : fn.body.isSome = true) (hc : bodyOf fn = c) (hN : fn.ntmps = N) {g : List Value → Option (Bool × Value)} {n : Nat} (hn : n ≤ N)
  (hg : ∀ l p v, g l = some (p, v) → l.length = n)
  (h : ∀ l v, g l = some (true, v) → wpcI P sp N an c 0 0 (argEnv l 0) [] (retK P fn.results.toList v)) : SpecOK I P f (vspec g) :=
 spec_of_callsA hf hname hb' fun l v hl w ha => calls_real hsp hm an hf hb' hc hN (by rw [hg l true v hl]; exact hn) (wpcI_of (h l v hl)) w ha
end Sx
