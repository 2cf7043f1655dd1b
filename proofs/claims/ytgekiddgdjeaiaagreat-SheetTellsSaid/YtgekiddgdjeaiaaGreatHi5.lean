/- SHA-256 of bytes by the symbolic machine: the program's sum, and the sums of a name and parts (VCs printed by VcTool, proofs by hand). -/
import Derived.Test.YtgekiddgdjeaiaaGreatHi4
namespace Go.Proofs.YtgekiddgdjeaiaaGreat
open Go.RowKit Go.Lib Sx
set_option linter.unusedVariables false
set_option linter.unusedSimpArgs false
set_option maxRecDepth 1000000
set_option maxHeartbeats 4000000
def tlI (l : List Int) : List Int := l.drop (l.length - l.length % 64)
def bl7 (O : OS) (l : List Int) : List Int := tlI l ++ 128 :: List.replicate (adg l.length) 0 ++ O.be8 (8 * (l.length : Int))
abbrev v8 (x : Nat → Int) : Array Value := ⟨[.int .u32 (x 0), .int .u32 (x 1), .int .u32 (x 2), .int .u32 (x 3), .int .u32 (x 4), .int .u32 (x 5), .int .u32 (x 6), .int .u32 (x 7)]⟩
def bq5 (O : OS) (l : List Int) (e8 e1 : TypeId) : List Ann := [
 ⟨Nat, [0, 2], [(3, e1, .ints .u8 [])], fun B _ => [(3, .row B)], fun B j => [(B, .own e1 (.ints .u8 (tlI l ++ 128 :: List.replicate j 0)))], fun j => j ≤ adg l.length, fun j => adg l.length - j, 0⟩,
 ⟨Nat × (Nat → Int), [2, 3], [(4, e8, .ints .u32 []), (0, e1, .ints .u8 [])], fun B x => [(4, .ptr B 0), (0, .row (B+1))], fun B x => [(B, .arr e8 8 (v8 x.2)), (B+1, .ro (.ints .u8 (l.drop (64 * x.1))))], fun x => 64 * x.1 ≤ l.length ∧ w8 x.2 = stI O (O.pad l) x.1, fun x => l.length - x.1, 0⟩,
 ⟨Nat × (Nat → Int), [2], [(4, e8, .ints .u32 []), (3, e1, .ints .u8 [])], fun B x => [(4, .ptr B 0), (3, .row (B+1))], fun B x => [(B, .arr e8 8 (v8 x.2)), (B+1, .ro (.ints .u8 ((bl7 O l).drop (64 * x.1))))], fun x => 64 * x.1 ≤ (bl7 O l).length ∧ w8 x.2 = stI O (O.pad l) (l.length / 64 + x.1), fun x => (bl7 O l).length - x.1, 0⟩,
 Ann.walk 33]
def ah5 (s : Nat) (ps : List (List Int)) : Nat := ps.foldl (fun n p => n + (8 + p.length)) (8 + s)
theorem avp (ps : List (List Int)) : ∀ n, n + ps.length ≤ ps.foldl (fun n p => n + (8 + p.length)) n := by
 induction ps with
 | nil => intro n; simp
 | cons p ps ih => intro n; have := ih (n + (8 + p.length)); simp only [List.foldl_cons, List.length_cons]; omega
theorem beu (s : Nat) (ps : List (List Int)) : ps.length ≤ ah5 s ps := by have := avp ps (8 + s); unfold ah5; omega
theorem a8d (s : Nat) (ps : List (List Int)) (j : Nat) : ah5 s (ps.take j) ≤ ah5 s ps := by
 have e : ah5 s ps = (ps.drop j).foldl (fun n p => n + (8 + p.length)) (ah5 s (ps.take j)) := by
  unfold ah5; rw [← List.foldl_append, List.take_append_drop]
 have := avp (ps.drop j) (ah5 s (ps.take j))
 omega
theorem bdi (O : OS) (hb : ∀ n, (O.be8 n).length = 8) (ps : List (List Int)) : ∀ n, ps.foldl (fun n p => n + (8 + p.length)) n = n + (ps.flatMap fun p => O.be8 (p.length : Int) ++ p).length := by
 induction ps with
 | nil => intro n; simp
 | cons p ps ih => intro n; rw [List.foldl_cons, ih, List.flatMap_cons, zlA, zlA, hb]; omega
theorem bcg (O : OS) (hb : ∀ n, (O.be8 n).length = 8) (s : List Int) (ps : List (List Int)) : (acg O s ps).length = ah5 s.length ps := by
 unfold acg ah5
 rw [bdi O hb, zlA, zlA, hb]
theorem ari (O : OS) (s : List Int) (ps : List (List Int)) {j : Nat} (h : j < ps.length) : acg O s (ps.take (j + 1)) = acg O s (ps.take j) ++ O.be8 ((ps.getD j []).length : Int) ++ ps.getD j [] := by
 unfold acg
 rw [List.take_add_one, List.getElem?_eq_getElem h, List.getD_eq_getElem?_getD, List.getElem?_eq_getElem h, List.flatMap_append]
 simp only [Option.toList_some, Option.getD_some, List.flatMap_cons, List.flatMap_nil, List.append_nil, List.append_assoc]
def a1c (O : OS) (xs : List Arg) : Option (Bool × List Ret) := match xs with
 | [.v (.string s), .rows ps] => some (Nat.ble (ah5 s.size ps) 1099511627776, [.v (HV (O.tag s ps))])
 | _ => none
def bn5 (O : OS) (f : FuncId) : Option Sx.Spec := match f with
 | 121 => some (l7 [.ro .u8] (aq9 O))
 | 120 => some (l7 [.v] (apc O))
 | _ => none
def anT (O : OS) (s : List Int) (ps : List (List Int)) (i : Nat) (k : List Nat) (e1 : TypeId) : List Ann := [
 ⟨Nat, k, [(5, e1, .ints .u8 [])], fun B j => [(5, .row B), (i, .v (.int .i64 (j : Int)))], fun B j => [(B, .own e1 (.ints .u8 (acg O s (ps.take j))))], fun j => j ≤ ps.length, fun j => ps.length - j, 0⟩]
theorem bhv (O : OS) (s : ByteArray) (ps : List (List Int)) (out : List Int) (hn : ah5 s.size ps ≤ 1099511627776) (hb : ∀ n, (O.be8 n).length = 8) (ho : out = jo (O.sum (acg O (vg s) ps)) 32) :
 let T1 := O.be8 (IntKind.u64.wrap (iOf s.size)); If (true && s.size.ble 9223372036854775807) (If ((jd (ay T1.length (vg s).length) 1).ble 140737488355328 && (ay T1.length
  (vg s).length).ble 9223372036854775807) ((∃ (x : Nat), x ≤ ps.length ∧ (vI 0 = vI (iOf x) ∧ True) ∧ EqI (app T1 (vg s)) (acg O (vg s) (List.take x ps)) ∧ Array.mk [Value.int
  .u8 0, Value.int .u8 0, Value.int .u8 0, Value.int .u8 0, Value.int .u8 0, Value.int .u8 0, Value.int .u8 0, Value.int .u8 0, Value.int .u8 0, Value.int .u8 0, Value.int .u8 0,
  Value.int .u8 0, Value.int .u8 0, Value.int .u8 0, Value.int .u8 0, Value.int .u8 0, Value.int .u8 0, Value.int .u8 0, Value.int .u8 0, Value.int .u8 0, Value.int .u8 0, Value.int
  .u8 0, Value.int .u8 0, Value.int .u8 0, Value.int .u8 0, Value.int .u8 0, Value.int .u8 0, Value.int .u8 0, Value.int .u8 0, Value.int .u8 0, Value.int .u8 0, Value.int .u8 0] =
  Array.mk [Value.int .u8 0, Value.int .u8 0, Value.int .u8 0, Value.int .u8 0, Value.int .u8 0, Value.int .u8 0, Value.int .u8 0, Value.int .u8 0, Value.int .u8 0, Value.int .u8 0,
  Value.int .u8 0, Value.int .u8 0, Value.int .u8 0, Value.int .u8 0, Value.int .u8 0, Value.int .u8 0, Value.int .u8 0, Value.int .u8 0, Value.int .u8 0, Value.int .u8 0, Value.int
  .u8 0, Value.int .u8 0, Value.int .u8 0, Value.int .u8 0, Value.int .u8 0, Value.int .u8 0, Value.int .u8 0, Value.int .u8 0, Value.int .u8 0, Value.int .u8 0, Value.int .u8 0,
  Value.int .u8 0] ∧ Res.ros ps = Res.ros ps ∧ True) ∧ ∀ (x : Nat), let T2 := O.be8 (IntKind.u64.wrap (iOf (ps.getD (iOf x).toNat []).length)); let T3 := ay (app (acg O (vg s) (List.take x ps)) T2).length (ps.getD (iOf x).toNat []).length;
  let T4 := true && !false && Nat.beq 1 1 && Nat.beq 0 0 && (iOf x).toNat.blt ps.length; let T5 := ay (acg O (vg s) (List.take x ps)).length T2.length; let T6 := iLe 0 (iOf x) && (iOf x).toNat.blt ps.length;
  x ≤ ps.length → If (iLt (iOf x) (iOf ps.length)) (If T6 (If T4 (If ((jd T5 1).ble 140737488355328 && T5.ble 9223372036854775807) (If T6 (If T4 (If ((jd T3 1).ble 140737488355328
  && T3.ble 9223372036854775807) (∃ (x' : Nat), x' ≤ ps.length ∧ (iy ps.length x').succ ≤ iy ps.length x ∧ (vI (IntKind.i64.wrap (dh (iOf x) 1)) = vI (iOf x') ∧ True) ∧ EqI (app
  (app (acg O (vg s) (List.take x ps)) T2) (ps.getD (iOf x).toNat [])) (acg O (vg s) (List.take x' ps)) ∧ Array.mk [Value.int .u8 0, Value.int .u8 0, Value.int .u8 0, Value.int
  .u8 0, Value.int .u8 0, Value.int .u8 0, Value.int .u8 0, Value.int .u8 0, Value.int .u8 0, Value.int .u8 0, Value.int .u8 0, Value.int .u8 0, Value.int .u8 0, Value.int .u8 0,
  Value.int .u8 0, Value.int .u8 0, Value.int .u8 0, Value.int .u8 0, Value.int .u8 0, Value.int .u8 0, Value.int .u8 0, Value.int .u8 0, Value.int .u8 0, Value.int .u8 0, Value.int
  .u8 0, Value.int .u8 0, Value.int .u8 0, Value.int .u8 0, Value.int .u8 0, Value.int .u8 0, Value.int .u8 0, Value.int .u8 0] = Array.mk [Value.int .u8 0, Value.int .u8 0, Value.int
  .u8 0, Value.int .u8 0, Value.int .u8 0, Value.int .u8 0, Value.int .u8 0, Value.int .u8 0, Value.int .u8 0, Value.int .u8 0, Value.int .u8 0, Value.int .u8 0, Value.int .u8 0,
  Value.int .u8 0, Value.int .u8 0, Value.int .u8 0, Value.int .u8 0, Value.int .u8 0, Value.int .u8 0, Value.int .u8 0, Value.int .u8 0, Value.int .u8 0, Value.int .u8 0, Value.int
  .u8 0, Value.int .u8 0, Value.int .u8 0, Value.int .u8 0, Value.int .u8 0, Value.int .u8 0, Value.int .u8 0, Value.int .u8 0, Value.int .u8 0] ∧ Res.ros ps = Res.ros ps ∧ True)
  False) False) False) False) False) False) (If ((acg O (vg s) (List.take x ps)).length.ble 1099511627776) (Value.agg (Array.mk (List.map (Value.int .u8) (jo (O.sum (acg O (vg
  s) (List.take x ps))) 32))) = Value.agg (Array.mk (List.map (Value.int .u8) out)) ∧ True) False)) False) False := by
 conv => zeta
 have hs : (vg s).length = s.size := ab3 s
 have hL : ∀ j, (acg O (vg s) (ps.take j)).length ≤ 1099511627776 := fun j => by rw [bcg O hb, hs]; exact Nat.le_trans (a8d _ _ _) hn
 have hps : ps.length ≤ 1099511627776 := Nat.le_trans (beu _ _) hn
 have hsz : 8 + s.size ≤ 1099511627776 := by have := avp ps (8 + s.size); unfold ah5 at hn; omega
 have w0 : ∀ n : Nat, n ≤ 1099511627776 → IntKind.u64.wrap (n : Int) = (n : Int) := fun n h => by rw [IntKind.wrap_u64]; omega
 simp only [zUn, ztN, w0 s.size (by omega)]
 refine ziT (by simp only [Bool.true_and, Nat.ble_eq]; omega) (ziT (by simp only [zaT, Nat.ble_eq, zlA, List.length_nil, hb, hs]; omega) ⟨⟨0, Nat.zero_le _, ⟨rfl, trivial⟩, ?_, (by first | rfl | trivial), (by first | rfl | trivial), trivial⟩, fun x hx => ae (fun h => ?_) (fun h => ?_)⟩)
 ·simp [acg, hs]
 ·simp only [Bz, Sx.af.n] at h
  have hlt : x < ps.length := by omega
  have hbl : x.blt ps.length = true := by rw [Nat.blt_eq]; exact hlt
  have h1 := hL (x + 1)
  rw [ari O _ ps hlt] at h1
  simp only [zlA, hb] at h1
  have wx : IntKind.i64.wrap ((x : Int) + 1) = ((x + 1 : Nat) : Int) := by rw [IntWalk.i64_in _ (by omega)]; omega
  rw [w0 (ps.getD x []).length (by omega)]
  refine ziT (by simp only [Bz, Sx.af.n, hbl, and_true]; omega) (ziT hbl (ziT (by simp only [zaT, Nat.ble_eq, zlA, hb]; omega) (ziT (by simp only [Bz, Sx.af.n, hbl, and_true]; omega) (ziT hbl (ziT (by simp only [zaT, Nat.ble_eq, zlA, hb]; omega) ⟨x + 1, hlt, by omega, ⟨by rw [wx], trivial⟩, ?_, (by first | rfl | trivial), (by first | rfl | trivial), trivial⟩)))))
  rw [ari O _ ps hlt]
 ·simp only [Bz, Sx.af.n] at h
  have hx2 : x = ps.length := by omega
  subst hx2
  refine ziT (by simp only [Nat.ble_eq]; exact hL _) ⟨?_, trivial⟩
  rw [ho, List.take_of_length_le (Nat.le_refl _)]
theorem bck (O : OS) (s : ByteArray) (ps : List (List Int)) (out : List Int) (hn : ah5 s.size ps ≤ 1099511627776) (hb : ∀ n, (O.be8 n).length = 8) (ho : out = jo (O.sum (acg O (vg s) ps)) 32) : wpc Tryz.prog (bn5 O) Tryz.f113.ntmps (anT O (vg s) ps 6 [1, 4] 5) (wu Tryz.f113) 0 64 (ae5 [.v, .ros] [.v (.string s), .rows ps] 0) (afm [.v, .ros] [.v (.string s), .rows ps] 0) (aph Tryz.prog Tryz.f113.results.toList [.v (cellsOf .u8 out)]) :=
 Eq.mpr (by kernel_rfl) (bhv O s ps out hn hb ho)
theorem bm7 : os.be8 = ao6 := by kernel_rfl
theorem bew (l : List Int) : os.sum l = fun i => (an7 l).getD i 0 := by kernel_rfl
theorem bcb (s : ByteArray) (ps : List (List Int)) : os.tag s ps = fun i => (an7 (acg os0 (vg s) ps)).getD i 0 := by kernel_rfl
theorem bko (n : Int) : (os.be8 n).length = 8 := by rw [bm7]; exact a1m n
theorem bi8 (I : Sx.Interp) (O : OS) (hO : O = os) : ∀ f s, bn5 O f = some s → ag I Tryz.prog f s := by
 intro f s h
 unfold bn5 at h
 split at h
 · cases h; exact a3o I O hO
 · cases h; exact a1y I O hO
 ·cases h
theorem bf9 (s : List Int) (ps : List (List Int)) : acg os s ps = acg os0 s ps := by unfold acg; rw [show os.be8 = os0.be8 by kernel_rfl]
theorem boo (s : ByteArray) (ps : List (List Int)) : HV (os.tag s ps) = cellsOf .u8 (jo (os.sum (acg os (vg s) ps)) 32) := by
 unfold HV; rw [bcb, bew, bf9]
theorem bjp (I : Sx.Interp) (O : OS) (hO : O = os) : ag I Tryz.prog 113 (l7 [.v, .ros] (a1c O)) := by
 refine aeg (bi8 I O hO) (by kernel_rfl) (fun xs => match xs with | [.v (.string s), .rows ps] => anT O (vg s) ps 6 [1, 4] 5 | _ => []) Tryz.func113 (by kernel_rfl) (by kernel_rfl) rfl Tryz.ntmps113 (by decide) ?_ ?_
 ·intro xs p rs h; unfold a1c at h; split at h <;> first | (simp only [zsI, zpI] at h; rw [← h.2]; simp) | cases h
 ·intro xs rs hl h
  unfold a1c at h
  split at h
  ·rename_i s ps
   simp only [zsI, zpI] at h
   obtain ⟨hc, rfl⟩ := h
   have := bck O s ps _ (zbL hc) (by subst hO; exact bko) rfl
   subst hO
   rw [boo]
   exact this
  ·cases h
end Go.Proofs.YtgekiddgdjeaiaaGreat
