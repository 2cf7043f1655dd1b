/- SHA-256 of bytes by the symbolic machine: the program's sum, and the sums of a name and parts (VCs printed by VcTool, proofs by hand). -/
import Derived.Test.YtcdmmfelagbpdaaGreatHi4
namespace Go.Proofs.YtcdmmfelagbpdaaGreat
open Go.RowKit Go.Lib Sx
set_option linter.unusedVariables false
set_option linter.unusedSimpArgs false
set_option maxRecDepth 1000000
def tlI (l : List Int) : List Int := l.drop (l.length - l.length % 64)
def endI (O : OS) (l : List Int) : List Int := tlI l ++ 128 :: List.replicate (zerI l.length) 0 ++ O.be8 (8 * (l.length : Int))
abbrev v8 (x : Nat → Int) : Array Value := ⟨[.int .u32 (x 0), .int .u32 (x 1), .int .u32 (x 2), .int .u32 (x 3), .int .u32 (x 4), .int .u32 (x 5), .int .u32 (x 6), .int .u32 (x 7)]⟩
def anP4 (O : OS) (l : List Int) (e8 e1 : TypeId) : List Ann := [
 ⟨Nat, [0, 2], [(3, e1, .ints .u8 [])], fun B _ => [(3, .row B)], fun B j => [(B, .own e1 (.ints .u8 (tlI l ++ 128 :: List.replicate j 0)))], fun j => j ≤ zerI l.length, fun j => zerI l.length - j, 0⟩,
 ⟨Nat × (Nat → Int), [2, 3], [(4, e8, .ints .u32 []), (0, e1, .ints .u8 [])], fun B x => [(4, .ptr B 0), (0, .row (B+1))], fun B x => [(B, .arr e8 8 (v8 x.2)), (B+1, .ro (.ints .u8 (l.drop (64 * x.1))))], fun x => 64 * x.1 ≤ l.length ∧ w8 x.2 = stI O (O.pad l) x.1, fun x => l.length - x.1, 0⟩,
 ⟨Nat × (Nat → Int), [2], [(4, e8, .ints .u32 []), (3, e1, .ints .u8 [])], fun B x => [(4, .ptr B 0), (3, .row (B+1))], fun B x => [(B, .arr e8 8 (v8 x.2)), (B+1, .ro (.ints .u8 ((endI O l).drop (64 * x.1))))], fun x => 64 * x.1 ≤ (endI O l).length ∧ w8 x.2 = stI O (O.pad l) (l.length / 64 + x.1), fun x => (endI O l).length - x.1, 0⟩,
 Ann.walk 33]
def tagN (s : Nat) (ps : List (List Int)) : Nat := ps.foldl (fun n p => n + (8 + p.length)) (8 + s)
theorem tagN_ge (ps : List (List Int)) : ∀ n, n + ps.length ≤ ps.foldl (fun n p => n + (8 + p.length)) n := by
 induction ps with
 | nil => intro n; simp
 | cons p ps ih => intro n; have := ih (n + (8 + p.length)); simp only [List.foldl_cons, List.length_cons]; omega
theorem tagN_len (s : Nat) (ps : List (List Int)) : ps.length ≤ tagN s ps := by have := tagN_ge ps (8 + s); unfold tagN; omega
theorem tagN_take (s : Nat) (ps : List (List Int)) (j : Nat) : tagN s (ps.take j) ≤ tagN s ps := by
 have e : tagN s ps = (ps.drop j).foldl (fun n p => n + (8 + p.length)) (tagN s (ps.take j)) := by
  unfold tagN; rw [← List.foldl_append, List.take_append_drop]
 have := tagN_ge (ps.drop j) (tagN s (ps.take j))
 omega
theorem tagB_sum (O : OS) (hb : ∀ n, (O.be8 n).length = 8) (ps : List (List Int)) : ∀ n, ps.foldl (fun n p => n + (8 + p.length)) n = n + (ps.flatMap fun p => O.be8 (p.length : Int) ++ p).length := by
 induction ps with
 | nil => intro n; simp
 | cons p ps ih => intro n; rw [List.foldl_cons, ih, List.flatMap_cons, List.length_append, List.length_append, hb]; omega
theorem tagB_len (O : OS) (hb : ∀ n, (O.be8 n).length = 8) (s : List Int) (ps : List (List Int)) : (tagB O s ps).length = tagN s.length ps := by
 unfold tagB tagN
 rw [tagB_sum O hb, List.length_append, List.length_append, hb]
theorem tagB_snoc (O : OS) (s : List Int) (ps : List (List Int)) {j : Nat} (h : j < ps.length) : tagB O s (ps.take (j + 1)) = tagB O s (ps.take j) ++ O.be8 ((ps.getD j []).length : Int) ++ ps.getD j [] := by
 unfold tagB
 rw [List.take_add_one, List.getElem?_eq_getElem h, List.getD_eq_getElem?_getD, List.getElem?_eq_getElem h, List.flatMap_append]
 simp only [Option.toList_some, Option.getD_some, List.flatMap_cons, List.flatMap_nil, List.append_nil, List.append_assoc]
def g_tag (O : OS) (xs : List Arg) : Option (Bool × List Ret) := match xs with
 | [.v (.string s), .rows ps] => some (Nat.ble (tagN s.size ps) 1099511627776, [.v (HV (O.tag s ps))])
 | _ => none
def spP5 (O : OS) (f : FuncId) : Option Sx.Spec := match f with
 | 96 => some (gspec [.ro .u8] (g_sum O))
 | 95 => some (gspec [.v] (g_Long O))
 | _ => none
def anT (O : OS) (s : List Int) (ps : List (List Int)) (i : Nat) (k : List Nat) (e1 : TypeId) : List Ann := [
 ⟨Nat, k, [(5, e1, .ints .u8 [])], fun B j => [(5, .row B), (i, .v (.int .i64 (j : Int)))], fun B j => [(B, .own e1 (.ints .u8 (tagB O s (ps.take j))))], fun j => j ≤ ps.length, fun j => ps.length - j, 0⟩]
set_option maxHeartbeats 4000000 in
theorem vc_rtag (O : OS) (s : ByteArray) (ps : List (List Int)) (out : List Int) (hn : tagN s.size ps ≤ 1099511627776) (hb : ∀ n, (O.be8 n).length = 8) (ho : out = tabI (O.sum (tagB O (strI s) ps)) 32) :
 If (true && s.size.ble 9223372036854775807) (If ((nMul (nAdd (O.be8 (IntKind.u64.wrap (iOf s.size))).length (strI s).length) 1).ble 140737488355328 && (nAdd (O.be8 (IntKind.u64.wrap
  (iOf s.size))).length (strI s).length).ble 9223372036854775807) ((∃ (x : Nat), x ≤ ps.length ∧ (Value.int .i64 0 = Value.int .i64 (iOf x) ∧ True) ∧ EqI (app (O.be8 (IntKind.u64.wrap
  (iOf s.size))) (strI s)) (tagB O (strI s) (List.take x ps)) ∧ Array.mk [Value.int .u8 0, Value.int .u8 0, Value.int .u8 0, Value.int .u8 0, Value.int .u8 0, Value.int .u8 0,
  Value.int .u8 0, Value.int .u8 0, Value.int .u8 0, Value.int .u8 0, Value.int .u8 0, Value.int .u8 0, Value.int .u8 0, Value.int .u8 0, Value.int .u8 0, Value.int .u8 0, Value.int
  .u8 0, Value.int .u8 0, Value.int .u8 0, Value.int .u8 0, Value.int .u8 0, Value.int .u8 0, Value.int .u8 0, Value.int .u8 0, Value.int .u8 0, Value.int .u8 0, Value.int .u8 0,
  Value.int .u8 0, Value.int .u8 0, Value.int .u8 0, Value.int .u8 0, Value.int .u8 0] = Array.mk [Value.int .u8 0, Value.int .u8 0, Value.int .u8 0, Value.int .u8 0, Value.int .u8 0,
  Value.int .u8 0, Value.int .u8 0, Value.int .u8 0, Value.int .u8 0, Value.int .u8 0, Value.int .u8 0, Value.int .u8 0, Value.int .u8 0, Value.int .u8 0, Value.int .u8 0, Value.int
  .u8 0, Value.int .u8 0, Value.int .u8 0, Value.int .u8 0, Value.int .u8 0, Value.int .u8 0, Value.int .u8 0, Value.int .u8 0, Value.int .u8 0, Value.int .u8 0, Value.int .u8 0,
  Value.int .u8 0, Value.int .u8 0, Value.int .u8 0, Value.int .u8 0, Value.int .u8 0, Value.int .u8 0] ∧ Res.ros ps = Res.ros ps ∧ True) ∧ ∀ (x : Nat), x ≤ ps.length → If (iLt (iOf
  x) (iOf ps.length)) (If (iLe 0 (iOf x) && (iOf x).toNat.blt ps.length) (If (true && !false && Nat.beq 1 1 && Nat.beq 0 0 && (iOf x).toNat.blt ps.length) (If ((nMul (nAdd (tagB O
  (strI s) (List.take x ps)).length (O.be8 (IntKind.u64.wrap (iOf (ps.getD (iOf x).toNat []).length))).length) 1).ble 140737488355328 && (nAdd (tagB O (strI s) (List.take x
  ps)).length (O.be8 (IntKind.u64.wrap (iOf (ps.getD (iOf x).toNat []).length))).length).ble 9223372036854775807) (If (iLe 0 (iOf x) && (iOf x).toNat.blt ps.length) (If (true &&
  !false && Nat.beq 1 1 && Nat.beq 0 0 && (iOf x).toNat.blt ps.length) (If ((nMul (nAdd (app (tagB O (strI s) (List.take x ps)) (O.be8 (IntKind.u64.wrap (iOf (ps.getD (iOf x).toNat
  []).length)))).length (ps.getD (iOf x).toNat []).length) 1).ble 140737488355328 && (nAdd (app (tagB O (strI s) (List.take x ps)) (O.be8 (IntKind.u64.wrap (iOf (ps.getD (iOf x).toNat
  []).length)))).length (ps.getD (iOf x).toNat []).length).ble 9223372036854775807) (∃ (x' : Nat), x' ≤ ps.length ∧ (nSub ps.length x').succ ≤ nSub ps.length x ∧ (Value.int .i64
  (IntKind.i64.wrap (iAdd (iOf x) 1)) = Value.int .i64 (iOf x') ∧ True) ∧ EqI (app (app (tagB O (strI s) (List.take x ps)) (O.be8 (IntKind.u64.wrap (iOf (ps.getD (iOf x).toNat
  []).length)))) (ps.getD (iOf x).toNat [])) (tagB O (strI s) (List.take x' ps)) ∧ Array.mk [Value.int .u8 0, Value.int .u8 0, Value.int .u8 0, Value.int .u8 0, Value.int .u8 0,
  Value.int .u8 0, Value.int .u8 0, Value.int .u8 0, Value.int .u8 0, Value.int .u8 0, Value.int .u8 0, Value.int .u8 0, Value.int .u8 0, Value.int .u8 0, Value.int .u8 0, Value.int
  .u8 0, Value.int .u8 0, Value.int .u8 0, Value.int .u8 0, Value.int .u8 0, Value.int .u8 0, Value.int .u8 0, Value.int .u8 0, Value.int .u8 0, Value.int .u8 0, Value.int .u8 0,
  Value.int .u8 0, Value.int .u8 0, Value.int .u8 0, Value.int .u8 0, Value.int .u8 0, Value.int .u8 0] = Array.mk [Value.int .u8 0, Value.int .u8 0, Value.int .u8 0, Value.int .u8 0,
  Value.int .u8 0, Value.int .u8 0, Value.int .u8 0, Value.int .u8 0, Value.int .u8 0, Value.int .u8 0, Value.int .u8 0, Value.int .u8 0, Value.int .u8 0, Value.int .u8 0, Value.int
  .u8 0, Value.int .u8 0, Value.int .u8 0, Value.int .u8 0, Value.int .u8 0, Value.int .u8 0, Value.int .u8 0, Value.int .u8 0, Value.int .u8 0, Value.int .u8 0, Value.int .u8 0,
  Value.int .u8 0, Value.int .u8 0, Value.int .u8 0, Value.int .u8 0, Value.int .u8 0, Value.int .u8 0, Value.int .u8 0] ∧ Res.ros ps = Res.ros ps ∧ True) False) False) False) False)
  False) False) (If ((tagB O (strI s) (List.take x ps)).length.ble 1099511627776) (Value.agg (Array.mk (List.map (Value.int .u8) (tabI (O.sum (tagB O (strI s) (List.take x ps))) 32)))
  = Value.agg (Array.mk (List.map (Value.int .u8) out)) ∧ True) False)) False) False := by
 have hs : (strI s).length = s.size := strI_len s
 have hL : ∀ j, (tagB O (strI s) (ps.take j)).length ≤ 1099511627776 := fun j => by rw [tagB_len O hb, hs]; exact Nat.le_trans (tagN_take _ _ _) hn
 have hps : ps.length ≤ 1099511627776 := Nat.le_trans (tagN_len _ _) hn
 have hsz : 8 + s.size ≤ 1099511627776 := by have := tagN_ge ps (8 + s.size); unfold tagN at hn; omega
 have w0 : ∀ n : Nat, n ≤ 1099511627776 → IntKind.u64.wrap (n : Int) = (n : Int) := fun n h => by rw [IntKind.wrap_u64]; omega
 simp only [Sx.app, Sx.nAdd, Sx.nSub, Sx.nMul, Sx.nPow, Sx.nDiv, Sx.nMod, Sx.iAdd, Sx.iSub, Sx.iMul, Sx.iNeg, Sx.iPow, Sx.iOf, Int.toNat_natCast, w0 s.size (by omega)]
 refine Sx.if_true (by simp only [Bool.true_and, Nat.ble_eq]; omega) (Sx.if_true (by simp only [Bool.and_eq_true, Nat.ble_eq, List.length_append, List.length_nil, hb, hs]; omega) ⟨⟨0, Nat.zero_le _, ⟨rfl, trivial⟩, ?_, (by first | rfl | trivial), (by first | rfl | trivial), trivial⟩, fun x hx => Sx.if_both (fun h => ?_) (fun h => ?_)⟩)
 ·simp [tagB, hs]
 ·simp only [Sx.Bz, Sx.Cont.n] at h
  have hlt : x < ps.length := by omega
  have hbl : x.blt ps.length = true := by rw [Nat.blt_eq]; exact hlt
  have h1 := hL (x + 1)
  rw [tagB_snoc O _ ps hlt] at h1
  simp only [List.length_append, hb] at h1
  have wx : IntKind.i64.wrap ((x : Int) + 1) = ((x + 1 : Nat) : Int) := by rw [IntWalk.i64_in _ (by omega)]; omega
  rw [w0 (ps.getD x []).length (by omega)]
  refine Sx.if_true (by simp only [Sx.Bz, Sx.Cont.n, hbl, and_true]; omega) (Sx.if_true hbl (Sx.if_true (by simp only [Bool.and_eq_true, Nat.ble_eq, List.length_append, hb]; omega) (Sx.if_true (by simp only [Sx.Bz, Sx.Cont.n, hbl, and_true]; omega) (Sx.if_true hbl (Sx.if_true (by simp only [Bool.and_eq_true, Nat.ble_eq, List.length_append, hb]; omega) ⟨x + 1, hlt, by omega, ⟨by rw [wx], trivial⟩, ?_, (by first | rfl | trivial), (by first | rfl | trivial), trivial⟩)))))
  rw [tagB_snoc O _ ps hlt]
 ·simp only [Sx.Bz, Sx.Cont.n] at h
  have hx2 : x = ps.length := by omega
  subst hx2
  refine Sx.if_true (by simp only [Nat.ble_eq]; exact hL _) ⟨?_, trivial⟩
  rw [ho, List.take_of_length_le (Nat.le_refl _)]
theorem wpc_rtag (O : OS) (s : ByteArray) (ps : List (List Int)) (out : List Int) (hn : tagN s.size ps ≤ 1099511627776) (hb : ∀ n, (O.be8 n).length = 8) (ho : out = tabI (O.sum (tagB O (strI s) ps)) 32) : wpc Tryz.prog (spP5 O) Tryz.f74.ntmps (anT O (strI s) ps 6 [1, 4] 5) (bodyOf Tryz.f74) 0 64 (envA [.v, .ros] [.v (.string s), .rows ps] 0) (memA [.v, .ros] [.v (.string s), .rows ps] 0) (retG Tryz.prog Tryz.f74.results.toList [.v (cellsOf .u8 out)]) :=
 Eq.mpr (by kernel_rfl) (vc_rtag O s ps out hn hb ho)
theorem os_be8 : os.be8 = be8Z := by kernel_rfl
theorem os_sum (l : List Int) : os.sum l = fun i => (sumI l).getD i 0 := by kernel_rfl
theorem os_tag (s : ByteArray) (ps : List (List Int)) : os.tag s ps = fun i => (sumI (tagB os0 (strI s) ps)).getD i 0 := by kernel_rfl
theorem os_b8 (n : Int) : (os.be8 n).length = 8 := by rw [os_be8]; exact be8_len n
theorem spP5_ok (I : Sx.Interp) (O : OS) (hO : O = os) : ∀ f s, spP5 O f = some s → Sx.SpecOK I Tryz.prog f s := by
 intro f s h
 unfold spP5 at h
 split at h
 · cases h; exact ok_rsum I O hO
 · cases h; exact ok_Long I O hO
 ·cases h
theorem tagB_os (s : List Int) (ps : List (List Int)) : tagB os s ps = tagB os0 s ps := by unfold tagB; rw [show os.be8 = os0.be8 by kernel_rfl]
theorem HV_tag (s : ByteArray) (ps : List (List Int)) : HV (os.tag s ps) = cellsOf .u8 (tabI (os.sum (tagB os (strI s) ps)) 32) := by
 unfold HV; rw [os_tag, os_sum, tagB_os]
theorem ok_rtag (I : Sx.Interp) (O : OS) (hO : O = os) : Sx.SpecOK I Tryz.prog 74 (gspec [.v, .ros] (g_tag O)) := by
 refine spec_genA (spP5_ok I O hO) (by kernel_rfl) (fun xs => match xs with | [.v (.string s), .rows ps] => anT O (strI s) ps 6 [1, 4] 5 | _ => []) Tryz.func74 (by kernel_rfl) (by kernel_rfl) rfl Tryz.ntmps74 (by decide) ?_ ?_
 ·intro xs p rs h; unfold g_tag at h; split at h <;> first | (simp only [Option.some.injEq, Prod.mk.injEq] at h; rw [← h.2]; simp) | cases h
 ·intro xs rs hl h
  unfold g_tag at h
  split at h
  ·rename_i s ps
   simp only [Option.some.injEq, Prod.mk.injEq] at h
   obtain ⟨hc, rfl⟩ := h
   have := wpc_rtag O s ps _ (Nat.le_of_ble_eq_true hc) (by subst hO; exact os_b8) rfl
   subst hO
   rw [HV_tag]
   exact this
  ·cases h
end Go.Proofs.YtcdmmfelagbpdaaGreat
