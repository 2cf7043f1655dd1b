/- Secrets out of secrets: what the walks of keys and of shachain have in common; contracts by patterns. -/
import Derived.Test.YtcdmmfelagbpdaaGreatSg2
namespace Go.Proofs.YtcdmmfelagbpdaaGreat
open Go.RowKit Go.Lib Ckp Cfd Cpd Sx
set_option linter.unusedVariables false
set_option linter.unusedSimpArgs false
set_option maxRecDepth 1000000
def fnA (a : Array Value) (i : Nat) : Int := intV (a.getD i (.int .u8 0))
def bitP (p : Int) (k : Nat) : Bool := (IntKind.i64.wrap (((BitVec.ofInt 64 (p.fdiv (2 ^ k)) &&& BitVec.ofInt 64 1).toNat : Nat) : Int)) == 1
def flipL (f : Nat → Int) (k : Nat) : List Int := (tabI f 32).set (k / 8) (IntKind.u8.wrap (((BitVec.ofInt 8 (f (k / 8)) ^^^ BitVec.ofInt 8 (IntKind.u8.wrap (1 * 2 ^ (k % 8)))).toNat : Nat) : Int))
def nextS (O : OO) (p : Int) (k : Nat) (m : Nat → Int) : Nat → Int := bif bitP p k then O.sum (flipL m k) else m
def okN (n : Int) : Bool := !(bif iLt n 0 then true else iLe 1048576 n)
def zA : Array Value := Array.mk (List.replicate 32 (Value.int .u8 0))
def stepS (O : OO) (p : Int) (h : Nat) (m : Nat → Int) : Nat → Nat → Int
 | 0 => m
 | r + 1 => nextS O p (h - 1 - r) (stepS O p h m r)
def altS (p : List SV → Bool) (s1 s2 : Sx.Spec) : Sx.Spec where
 rd a M := match p a with
  | true => s1.rd a M
  | false => s2.rd a M
 fits a M := match p a with
  | true => s1.fits a M
  | false => s2.fits a M
 sel a M := match p a with
  | true => s1.sel a M
  | false => s2.sel a M
 outs a M bs b := match p a with
  | true => s1.outs a M bs b
  | false => s2.outs a M bs b
 loc args M M' hf h := by
  cases hp : p args <;> simp only [hp] at hf h ⊢
  ·exact s2.loc args M M' hf h
  ·exact s1.loc args M M' hf h
theorem altS_ok {I : Sx.Interp} {P : Program} {f : FuncId} {p : List SV → Bool} {s1 s2 : Sx.Spec} (h1 : Sx.SpecOK I P f s1) (h2 : Sx.SpecOK I P f s2) : Sx.SpecOK I P f (altS p s1 s2) := by
 refine ⟨h1.enters, fun γ D M args w b hm hD hids hfr hamb hfit => ?_⟩
 cases hp : p args with
 | true =>
  have e : (altS p s1 s2).out args M b = s1.out args M b := by simp [Sx.Spec.out, altS, hp]
  rw [e]
  exact h1.calls γ D M args w b hm hD hids hfr hamb (by simpa [altS, hp] using hfit)
 | false =>
  have e : (altS p s1 s2).out args M b = s2.out args M b := by simp [Sx.Spec.out, altS, hp]
  rw [e]
  exact h2.calls γ D M args w b hm hD hids hfr hamb (by simpa [altS, hp] using hfit)
end Go.Proofs.YtcdmmfelagbpdaaGreat
