/- Secrets out of secrets: what the walks of keys and of shachain have in common; contracts by patterns. -/
import Derived.Test.YtgekiddgdjeaiaaGreatSg2
namespace Go.Proofs.YtgekiddgdjeaiaaGreat
open Go.RowKit Go.Lib Ckp Cfd Cpd Sx
set_option linter.unusedVariables false
set_option linter.unusedSimpArgs false
set_option maxRecDepth 1000000
def fnA (a : Array Value) (i : Nat) : Int := bg2 (a.getD i (.int .u8 0))
def bqi (p : Int) (k : Nat) : Bool := (IntKind.i64.wrap (((BitVec.ofInt 64 (p.fdiv (2 ^ k)) &&& BitVec.ofInt 64 1).toNat : Nat) : Int)) == 1
def bpt (f : Nat → Int) (k : Nat) : List Int := (jo f 32).set (k / 8) (IntKind.u8.wrap (((BitVec.ofInt 8 (f (k / 8)) ^^^ BitVec.ofInt 8 (IntKind.u8.wrap (1 * 2 ^ (k % 8)))).toNat : Nat) : Int))
def bp3 (O : OO) (p : Int) (k : Nat) (m : Nat → Int) : Nat → Int := bif bqi p k then O.sum (bpt m k) else m
def okN (n : Int) : Bool := !(bif iLt n 0 then true else iLe 1048576 n)
def zA : Array Value := Array.mk (List.replicate 32 (Value.int .u8 0))
def stepS (O : OO) (p : Int) (h : Nat) (m : Nat → Int) : Nat → Nat → Int
 | 0 => m
 | r + 1 => bp3 O p (h - 1 - r) (stepS O p h m r)
theorem o8 {I : Sx.Interp} {P : Program} {sp : FuncId → Option Sx.Spec} (hsp : ∀ f s, sp f = some s → ag I P f s) (hm : P.follows .mixedOrders = true) (an : List Dt → List Ann) {f : FuncId} {fn : Func} {c : Code} {N : Nat}
  (hf : P.funcs[f]? = some fn) (hname : (fn.name == "runtime.NumGoroutine") = false) (hb' : fn.body.isSome = true) (hc : wu fn = c) (hN : fn.ntmps = N) {ps : List Pat} {al : Bool} {g : List Dt → Option (Bool × List Bool × (List Bool → Post))} (hn : ps.length ≤ N ∧ Pat.sizes ps ≤ 64)
  (hpo : ∀ ds p bs F, g ds = some (p, bs, F) → afj ps al (F bs) = true)
  (h : ∀ ds bs F, ds.length = ps.length → g ds = some (true, bs, F) → apt P sp N (an ds) c 0 64 (akn (mks ps ds 0).1 0) (mks ps ds 0).2 (a5h P fn.results.toList (Pat.sizes ps) (F bs))) : ag I P f (au ps al g) :=
 av5 hsp hm an hf hname hb' hc hN hn hpo fun ds bs F hl hg => acu (h ds bs F hl hg)
theorem zn {I : Sx.Interp} {P : Program} {sp : FuncId → Option Sx.Spec} (hsp : ∀ f s, sp f = some s → ag I P f s) (hm : P.follows .mixedOrders = true) (an : List Dt → List Ann) (ad : List Dt → List (Nat × TypeId × Sx.af)) {f : FuncId} {fn : Func} {c : Code} {N : Nat}
  (hf : P.funcs[f]? = some fn) (hname : (fn.name == "runtime.NumGoroutine") = false) (hb' : fn.body.isSome = true) (hc : wu fn = c) (hN : fn.ntmps = N) {ps : List Pat} {al : Bool} {g : List Dt → Option (Bool × List Bool × (List Bool → Post))} (hn : ps.length ≤ N ∧ Pat.sizes ps ≤ 64)
  (hpo : ∀ ds p bs F, g ds = some (p, bs, F) → afj ps al (F bs) = true)
  (h : ∀ ds bs F, ds.length = ps.length → g ds = some (true, bs, F) → apt P sp N (an ds) c 0 64 (akn (mks ps ds 0).1 0) (mks ps ds 0).2 (a3n (ad ds) P fn.results.toList (Pat.sizes ps) (F bs))) : ag I P f (au ps al g) :=
 aku hsp hm an ad hf hname hb' hc hN hn hpo fun ds bs F hl hg => acu (h ds bs F hl hg)
def asy (p : List SV → Bool) (s1 s2 : Sx.Spec) : Sx.Spec where
 rd a M := match p a with
  | true => s1.rd a M
  | false => s2.rd a M
 fits a M := match p a with
  | true => s1.fits a M
  | false => s2.fits a M
 sel a M := match p a with
  | true => s1.sel a M
  | false => s2.sel a M
 outs a M bs b := match p a with
  | true => s1.outs a M bs b
  | false => s2.outs a M bs b
 loc args M M' hf h := by
  cases hp : p args <;> simp only [hp] at hf h ⊢
  ·exact s2.loc args M M' hf h
  ·exact s1.loc args M M' hf h
theorem a3j {I : Sx.Interp} {P : Program} {f : FuncId} {p : List SV → Bool} {s1 s2 : Sx.Spec} (h1 : ag I P f s1) (h2 : ag I P f s2) : ag I P f (asy p s1 s2) := by
 refine ⟨h1.enters, fun γ D M args w b hm hD hids hfr hamb hfit => ?_⟩
 cases hp : p args with
 | true =>
  have e : (asy p s1 s2).out args M b = s1.out args M b := by simp [Sx.Spec.out, asy, hp]
  rw [e]
  exact h1.calls γ D M args w b hm hD hids hfr hamb (by simpa [asy, hp] using hfit)
 | false =>
  have e : (asy p s1 s2).out args M b = s2.out args M b := by simp [Sx.Spec.out, asy, hp]
  rw [e]
  exact h2.calls γ D M args w b hm hD hids hfr hamb (by simpa [asy, hp] using hfit)
end Go.Proofs.YtgekiddgdjeaiaaGreat
