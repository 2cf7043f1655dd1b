/- Pay: Locks, New, Parts of the program and of the document, by the symbolic machine (printed by genpa.py; VCs by VcTool). -/
import Derived.Test.YtcdmmfelagbpdaaPa1
namespace Go.Proofs.Ytcdmmfelagbpdaa
open Go.RowKit Go.Lib Ckp Cfd Cpd Sx
set_option linter.unusedVariables false
set_option linter.unusedSimpArgs false
set_option maxRecDepth 1000000
theorem spec_patI {I : Sx.Interp} {P : Program} {sp : FuncId → Option Sx.Spec} (hsp : ∀ f s, sp f = some s → Sx.SpecOK I P f s) (hm : P.follows .mixedOrders = true) (an : List Dt → List Ann) {f : FuncId} {fn : Func} {c : Code} {N : Nat}
  (hf : P.funcs[f]? = some fn) (hname : (fn.name == "runtime.NumGoroutine") = false) (hb' : fn.body.isSome = true) (hc : bodyOf fn = c) (hN : fn.ntmps = N) {ps : List Pat} {al : Bool} {g : List Dt → Option (Bool × List Bool × (List Bool → Post))} (hn : ps.length ≤ N ∧ Pat.sizes ps ≤ 64)
  (hpo : ∀ ds p bs F, g ds = some (p, bs, F) → postOk ps al (F bs) = true)
  (h : ∀ ds bs F, ds.length = ps.length → g ds = some (true, bs, F) → wpcI P sp N (an ds) c 0 64 (envP (mks ps ds 0).1 0) (mks ps ds 0).2 (retP P fn.results.toList (Pat.sizes ps) (F bs))) : Sx.SpecOK I P f (pspec ps al g) :=
 spec_pat hsp hm an hf hname hb' hc hN hn hpo fun ds bs F hl hg => wpcI_of (h ds bs F hl hg)
theorem drawsO_len (O : OO) (s : ByteArray) (b : List Int) (n : Nat) : (drawsO O s b n).length = n := by unfold drawsO; rw [List.length_map, List.length_range]
theorem drawsO_succ (O : OO) (s : ByteArray) (b : List Int) (n : Nat) : drawsO O s b (n + 1) = drawsO O s b n ++ [drawO O s b (n : Int)] := by unfold drawsO; rw [List.range_succ, List.map_append]; rfl
theorem drawsO_in {O : OO} (F : FO O) (s : ByteArray) (b : List Int) (n : Nat) : inUs 18446744073709551616 (drawsO O s b n) = true := by
 unfold drawsO inUs
 rw [List.all_eq_true]
 intro x hx
 obtain ⟨i, _, rfl⟩ := List.mem_map.1 hx
 exact F.ffrom _
theorem frB_of {O : OO} {q n : Int} (h : O.pright q = true) (hn : n < 8) : frB O q n = false := by
 unfold frB
 rw [h]
 simp only [Bool.not_true, cond_false, Bool.and_eq_true, Bool.or_eq_true, Sx.iLt_t, Sx.iLt_f, Sx.iLe_t, Sx.iLe_f, Sx.iEq_t, Sx.iEq_f, Sx.iBeq_t, Sx.iBeq_f, Sx.iBne_t, Sx.iBne_f, Nat.ble_eq, Nat.beq_eq, Sx.Cont.n]
 omega
theorem newB_no {O : OO} {q n : Int} (h : newB O q n = false) : O.pright q = true ∧ iBeq q 1 = false ∧ iLt n 1 = false ∧ iLt 8 n = false ∧ 1 ≤ n ∧ n ≤ 8 := by
 unfold newB at h
 cases e1 : O.pright q <;> rw [e1] at h
 ·cases h
 cases e2 : iBeq q 1 <;> rw [e2] at h
 ·cases e3 : iLt n 1 <;> rw [e3] at h
  ·have h' : iLt 8 n = false := h
   have e3' := e3
   have h'' := h'
   simp only [Bool.and_eq_true, Bool.or_eq_true, Sx.iLt_t, Sx.iLt_f, Sx.iLe_t, Sx.iLe_f, Sx.iEq_t, Sx.iEq_f, Sx.iBeq_t, Sx.iBeq_f, Sx.iBne_t, Sx.iBne_f, Nat.ble_eq, Nat.beq_eq, Sx.Cont.n] at e3' h''
   exact ⟨rfl, rfl, rfl, h', by omega, by omega⟩
  ·cases h
 ·cases h
theorem prtB_no {n : Int} (h : prtB n = false) : iLt n 1 = false ∧ iLt 8 n = false ∧ 1 ≤ n ∧ n ≤ 8 := by
 unfold prtB at h
 cases e3 : iLt n 1 <;> rw [e3] at h
 ·have h' : iLt 8 n = false := h
  have e3' := e3
  have h'' := h'
  simp only [Bool.and_eq_true, Bool.or_eq_true, Sx.iLt_t, Sx.iLt_f, Sx.iLe_t, Sx.iLe_f, Sx.iEq_t, Sx.iEq_f, Sx.iBeq_t, Sx.iBeq_f, Sx.iBne_t, Sx.iBne_f, Nat.ble_eq, Nat.beq_eq, Sx.Cont.n] at e3' h''
  exact ⟨rfl, h', by omega, by omega⟩
 ·cases h
theorem mul8 (n : Int) : ((8 : Nat) : Int) * n = 8 * n := rfl
def spP1 (O : OO) (Y : OY) (f : FuncId) : Option Sx.Spec := match f with
 | 41 => some (Sx.vspec (g_pback O Y))
 | 40 => some (Sx.vspec (g_pshows O Y))
 | 81 => some (pspec [.v, .ro .u64] false (g_pfrom O Y))
 | f => spP0 O Y f
theorem spP1_ok (I : Sx.Interp) (O : OO) (hO : O = oo) (Y : OY) (hY : Y = yO O) : ∀ f s, spP1 O Y f = some s → Sx.SpecOK I Try.prog f s := by
 intro f s h
 unfold spP1 at h
 split at h
 · cases h; exact ok_pback I O hO Y hY
 · cases h; exact ok_pshows I O hO Y hY
 · cases h; exact ok_pfrom I O hO Y hY
 ·exact spP0_ok I O hO Y hY _ s h
def p_plocks (O : OO) (Y : OY) (a : Int) (l : List Int) (bs : List Bool) : Post := match bs with
 | [true] => ⟨[.v (.slice none 0 0)], []⟩
 | _ => ⟨[.row 1], [(1, .own 37 (.ints .u64 (fromO O (O.pbase a) l)))]⟩
def g_plocks (O : OO) (Y : OY) (ds : List Dt) : Option (Bool × List Bool × (List Bool → Post)) := match ds with
 | [.v (.int .u64 a), .ints l] => some ((inU a 18446744073709551616) && (inUs 18446744073709551616 l) && (Nat.ble l.length 1000), [frB O (O.pbase a) l.length], p_plocks O Y a l)
 | _ => none
def p_rlocks (O : OO) (Y : OY) (a : Int) (l : List Int) (bs : List Bool) : Post := match bs with
 | [true] => ⟨[.v (.slice none 0 0)], []⟩
 | _ => ⟨[.row 1], [(1, .own 37 (.ints .u64 (rfromO O (O.pbase a) l (l.length + 1))))]⟩
def g_rlocks (O : OO) (Y : OY) (ds : List Dt) : Option (Bool × List Bool × (List Bool → Post)) := match ds with
 | [.v (.int .u64 a), .ints l] => some ((inU a 18446744073709551616) && (inUs 18446744073709551616 l) && (Nat.ble l.length 1000), [frB O (O.pbase a) l.length], p_rlocks O Y a l)
 | _ => none
def p_pnew (O : OO) (Y : OY) (q : Int) (b : Array Value) (n : Int) (bs : List Bool) : Post := match bs with
 | [true] => ⟨[.v (.agg ⟨[.slice none 0 0, .slice none 0 0]⟩), .v (.bool false)], []⟩
 | _ => ⟨[.agg [.row 0, .row 1], .v (.bool true)], [(0, .own 37 (.ints .u64 (fromO O q (blindsO O b n)))), (1, .own 53 (.ints .u64 (blindsO O b n)))]⟩
def g_pnew (O : OO) (Y : OY) (ds : List Dt) : Option (Bool × List Bool × (List Bool → Post)) := match ds with
 | [.v (.int .u64 q), .v (.agg b), .v (.int .i64 n)] => some ((inU q 18446744073709551616) && (O.isH b), [newB O q n], p_pnew O Y q b n)
 | _ => none
def p_rnew (O : OO) (Y : OY) (q : Int) (b : Array Value) (n : Int) (bs : List Bool) : Post := match bs with
 | [true] => ⟨[.v (.agg ⟨[.slice none 0 0, .slice none 0 0]⟩), .v (.bool false)], []⟩
 | _ => ⟨[.agg [.row 0, .row 1], .v (.bool true)], [(0, .own 37 (.ints .u64 (rfromO O q (blindsO O b n) ((blindsO O b n).length + 1)))), (1, .own 53 (.ints .u64 (blindsO O b n)))]⟩
def g_rnew (O : OO) (Y : OY) (ds : List Dt) : Option (Bool × List Bool × (List Bool → Post)) := match ds with
 | [.v (.int .u64 q), .v (.agg b), .v (.int .i64 n)] => some ((inU q 18446744073709551616) && (O.isH b), [newB O q n], p_rnew O Y q b n)
 | _ => none
def p_pparts (O : OO) (Y : OY) (a n : Int) (bs : List Bool) : Post := match bs with
 | [true] => ⟨[.v (.slice none 0 0)], []⟩
 | _ => ⟨[.row 0], [(0, .own 53 (.ints .u64 (partsO O (b8 (O.fadd 0 a)) a n)))]⟩
def g_pparts (O : OO) (Y : OY) (ds : List Dt) : Option (Bool × List Bool × (List Bool → Post)) := match ds with
 | [.v (.int .u64 a), .v (.int .i64 n)] => some ((inU a 18446744073709551616), [prtB n], p_pparts O Y a n)
 | _ => none
def p_rparts (O : OO) (Y : OY) (a n : Int) (bs : List Bool) : Post := match bs with
 | [true] => ⟨[.v (.slice none 0 0)], []⟩
 | _ => ⟨[.row 0], [(0, .own 53 (.ints .u64 (partsO O (b8 (O.fadd a 0)) a n)))]⟩
def g_rparts (O : OO) (Y : OY) (ds : List Dt) : Option (Bool × List Bool × (List Bool → Post)) := match ds with
 | [.v (.int .u64 a), .v (.int .i64 n)] => some ((inU a 18446744073709551616), [prtB n], p_rparts O Y a n)
 | _ => none