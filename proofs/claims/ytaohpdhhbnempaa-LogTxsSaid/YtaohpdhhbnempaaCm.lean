/- Secrets out of secrets: what the walks of keys and of shachain have in common; contracts by patterns. -/
import Derived.Test.YtaohpdhhbnempaaSg2
namespace Go.Proofs.Ytaohpdhhbnempaa
open Go.RowKit Go.Lib Ckp Cfd Cpd Sx
set_option linter.unusedVariables false
set_option linter.unusedSimpArgs false
set_option maxRecDepth 1000000
def fnA (a : Array Value) (i : Nat) : Int := intV (a.getD i (.int .u8 0))
def bitP (p : Int) (k : Nat) : Bool := (IntKind.i64.wrap (((BitVec.ofInt 64 (p.fdiv (2 ^ k)) &&& BitVec.ofInt 64 1).toNat : Nat) : Int)) == 1
def flipL (f : Nat → Int) (k : Nat) : List Int := (tabI f 32).set (k / 8) (IntKind.u8.wrap (((BitVec.ofInt 8 (f (k / 8)) ^^^ BitVec.ofInt 8 (IntKind.u8.wrap (1 * 2 ^ (k % 8)))).toNat : Nat) : Int))
def nextS (O : OO) (p : Int) (k : Nat) (m : Nat → Int) : Nat → Int := bif bitP p k then O.sum (flipL m k) else m
def okN (n : Int) : Bool := !(bif iLt n 0 then true else iLe 1048576 n)
def zA : Array Value := Array.mk (List.replicate 32 (Value.int .u8 0))
def stepS (O : OO) (p : Int) (h : Nat) (m : Nat → Int) : Nat → Nat → Int
 | 0 => m
 | r + 1 => nextS O p (h - 1 - r) (stepS O p h m r)
theorem spec_pI {I : Sx.Interp} {P : Program} {sp : FuncId → Option Sx.Spec} (hsp : ∀ f s, sp f = some s → Sx.SpecOK I P f s) (hm : P.follows .mixedOrders = true) (an : List Dt → List Ann) {f : FuncId} {fn : Func} {c : Code} {N : Nat}
  (hf : P.funcs[f]? = some fn) (hname : (fn.name == "runtime.NumGoroutine") = false) (hb' : fn.body.isSome = true) (hc : bodyOf fn = c) (hN : fn.ntmps = N) {ps : List Pat} {al : Bool} {g : List Dt → Option (Bool × List Bool × (List Bool → Post))} (hn : ps.length ≤ N ∧ Pat.sizes ps ≤ 64)
  (hpo : ∀ ds p bs F, g ds = some (p, bs, F) → postOk ps al (F bs) = true)
  (h : ∀ ds bs F, ds.length = ps.length → g ds = some (true, bs, F) → wpcI P sp N (an ds) c 0 64 (envP (mks ps ds 0).1 0) (mks ps ds 0).2 (retP P fn.results.toList (Pat.sizes ps) (F bs))) : Sx.SpecOK I P f (pspec ps al g) :=
 spec_pat hsp hm an hf hname hb' hc hN hn hpo fun ds bs F hl hg => wpcI_of (h ds bs F hl hg)
theorem spec_pAI {I : Sx.Interp} {P : Program} {sp : FuncId → Option Sx.Spec} (hsp : ∀ f s, sp f = some s → Sx.SpecOK I P f s) (hm : P.follows .mixedOrders = true) (an : List Dt → List Ann) (ad : List Dt → List (Nat × TypeId × Sx.Cont)) {f : FuncId} {fn : Func} {c : Code} {N : Nat}
  (hf : P.funcs[f]? = some fn) (hname : (fn.name == "runtime.NumGoroutine") = false) (hb' : fn.body.isSome = true) (hc : bodyOf fn = c) (hN : fn.ntmps = N) {ps : List Pat} {al : Bool} {g : List Dt → Option (Bool × List Bool × (List Bool → Post))} (hn : ps.length ≤ N ∧ Pat.sizes ps ≤ 64)
  (hpo : ∀ ds p bs F, g ds = some (p, bs, F) → postOk ps al (F bs) = true)
  (h : ∀ ds bs F, ds.length = ps.length → g ds = some (true, bs, F) → wpcI P sp N (an ds) c 0 64 (envP (mks ps ds 0).1 0) (mks ps ds 0).2 (retPA (ad ds) P fn.results.toList (Pat.sizes ps) (F bs))) : Sx.SpecOK I P f (pspec ps al g) :=
 spec_patA hsp hm an ad hf hname hb' hc hN hn hpo fun ds bs F hl hg => wpcI_of (h ds bs F hl hg)
def altS (p : List SV → Bool) (s1 s2 : Sx.Spec) : Sx.Spec where
 rd a M := match p a with
  | true => s1.rd a M
  | false => s2.rd a M
 fits a M := match p a with
  | true => s1.fits a M
  | false => s2.fits a M
 sel a M := match p a with
  | true => s1.sel a M
  | false => s2.sel a M
 outs a M bs b := match p a with
  | true => s1.outs a M bs b
  | false => s2.outs a M bs b
 loc args M M' hf h := by
  cases hp : p args <;> simp only [hp] at hf h ⊢
  ·exact s2.loc args M M' hf h
  ·exact s1.loc args M M' hf h
theorem altS_ok {I : Sx.Interp} {P : Program} {f : FuncId} {p : List SV → Bool} {s1 s2 : Sx.Spec} (h1 : Sx.SpecOK I P f s1) (h2 : Sx.SpecOK I P f s2) : Sx.SpecOK I P f (altS p s1 s2) := by
 refine ⟨h1.enters, fun γ D M args w b hm hD hids hfr hamb hfit => ?_⟩
 cases hp : p args with
 | true =>
  have e : (altS p s1 s2).out args M b = s1.out args M b := by simp [Sx.Spec.out, altS, hp]
  rw [e]
  exact h1.calls γ D M args w b hm hD hids hfr hamb (by simpa [altS, hp] using hfit)
 | false =>
  have e : (altS p s1 s2).out args M b = s2.out args M b := by simp [Sx.Spec.out, altS, hp]
  rw [e]
  exact h2.calls γ D M args w b hm hD hids hfr hamb (by simpa [altS, hp] using hfit)
end Go.Proofs.Ytaohpdhhbnempaa
