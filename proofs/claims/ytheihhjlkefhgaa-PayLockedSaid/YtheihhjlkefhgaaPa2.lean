/- Pay: Locks, New, Parts of the program and of the document, by the symbolic machine (printed by genpa.py; VCs by VcTool). -/
import Derived.Test.YtheihhjlkefhgaaPa1
namespace Go.Proofs.Ytheihhjlkefhgaa
open Go.RowKit Go.Lib Ckp Cfd Cpd Sx
set_option linter.unusedVariables false
set_option linter.unusedSimpArgs false
set_option maxRecDepth 1000000
theorem spec_patI {I : Sx.Interp} {P : Program} {sp : FuncId → Option Sx.Spec} (hsp : ∀ f s, sp f = some s → Sx.SpecOK I P f s) (hm : P.follows .mixedOrders = true) (an : List Dt → List Ann) {f : FuncId} {fn : Func} {c : Code} {N : Nat}
    (hf : P.funcs[f]? = some fn) (hname : (fn.name == "runtime.NumGoroutine") = false) (hb' : fn.body.isSome = true) (hc : bodyOf fn = c) (hN : fn.ntmps = N) {ps : List Pat} {al : Bool} {g : List Dt → Option (Bool × List Bool × (List Bool → Post))} (hn : ps.length ≤ N ∧ Pat.sizes ps ≤ 64)
    (hpo : ∀ ds p bs F, g ds = some (p, bs, F) → postOk ps al (F bs) = true)
    (h : ∀ ds bs F, ds.length = ps.length → g ds = some (true, bs, F) → wpcI P sp N (an ds) c 0 64 (envP (mks ps ds 0).1 0) (mks ps ds 0).2 (retP P fn.results.toList (Pat.sizes ps) (F bs))) : Sx.SpecOK I P f (pspec ps al g) :=
  spec_pat hsp hm an hf hname hb' hc hN hn hpo fun ds bs F hl hg => wpcI_of (h ds bs F hl hg)
theorem drawsO_len (O : OO) (s : ByteArray) (b : List Int) (n : Nat) : (drawsO O s b n).length = n := by unfold drawsO; rw [List.length_map, List.length_range]
theorem drawsO_succ (O : OO) (s : ByteArray) (b : List Int) (n : Nat) : drawsO O s b (n + 1) = drawsO O s b n ++ [drawO O s b (n : Int)] := by unfold drawsO; rw [List.range_succ, List.map_append]; rfl
theorem drawsO_in {O : OO} (F : FO O) (s : ByteArray) (b : List Int) (n : Nat) : inUs 18446744073709551616 (drawsO O s b n) = true := by
  unfold drawsO inUs
  rw [List.all_eq_true]
  intro x hx
  obtain ⟨i, _, rfl⟩ := List.mem_map.1 hx
  exact F.ffrom _
theorem frB_of {O : OO} {q n : Int} (h : O.pright q = true) (hn : n < 8) : frB O q n = false := by
  unfold frB
  rw [h]
  simp only [Bool.not_true, cond_false, Bool.and_eq_true, Bool.or_eq_true, Sx.iLt_t, Sx.iLt_f, Sx.iLe_t, Sx.iLe_f, Sx.iEq_t, Sx.iEq_f, Sx.iBeq_t, Sx.iBeq_f, Sx.iBne_t, Sx.iBne_f, Nat.ble_eq, Nat.beq_eq, Sx.Cont.n]
  omega
theorem newB_no {O : OO} {q n : Int} (h : newB O q n = false) : O.pright q = true ∧ iBeq q 1 = false ∧ iLt n 1 = false ∧ iLt 8 n = false ∧ 1 ≤ n ∧ n ≤ 8 := by
  unfold newB at h
  cases e1 : O.pright q <;> rw [e1] at h
  · cases h
  cases e2 : iBeq q 1 <;> rw [e2] at h
  · cases e3 : iLt n 1 <;> rw [e3] at h
    · have h' : iLt 8 n = false := h
      have e3' := e3
      have h'' := h'
      simp only [Bool.and_eq_true, Bool.or_eq_true, Sx.iLt_t, Sx.iLt_f, Sx.iLe_t, Sx.iLe_f, Sx.iEq_t, Sx.iEq_f, Sx.iBeq_t, Sx.iBeq_f, Sx.iBne_t, Sx.iBne_f, Nat.ble_eq, Nat.beq_eq, Sx.Cont.n] at e3' h''
      exact ⟨rfl, rfl, rfl, h', by omega, by omega⟩
    · cases h
  · cases h
theorem prtB_no {n : Int} (h : prtB n = false) : iLt n 1 = false ∧ iLt 8 n = false ∧ 1 ≤ n ∧ n ≤ 8 := by
  unfold prtB at h
  cases e3 : iLt n 1 <;> rw [e3] at h
  · have h' : iLt 8 n = false := h
    have e3' := e3
    have h'' := h'
    simp only [Bool.and_eq_true, Bool.or_eq_true, Sx.iLt_t, Sx.iLt_f, Sx.iLe_t, Sx.iLe_f, Sx.iEq_t, Sx.iEq_f, Sx.iBeq_t, Sx.iBeq_f, Sx.iBne_t, Sx.iBne_f, Nat.ble_eq, Nat.beq_eq, Sx.Cont.n] at e3' h''
    exact ⟨rfl, h', by omega, by omega⟩
  · cases h
theorem mul8 (n : Int) : ((8 : Nat) : Int) * n = 8 * n := rfl
def spP1 (O : OO) (Y : OY) (f : FuncId) : Option Sx.Spec := match f with
  | 28 => some (gspec [.ro .u64] (g_pwhole O Y))
  | 22 => some (gspec [.v, .ro .u64] (g_pproof O Y))
  | 23 => some (gspec [.v, .ro .u64] (g_rproof O Y))
  | 30 => some (Sx.vspec (g_pback O Y))
  | 31 => some (Sx.vspec (g_rback O Y))
  | 24 => some (Sx.vspec (g_pshows O Y))
  | 25 => some (Sx.vspec (g_rshows O Y))
  | 16 => some (gspec [.ro .u64, .ro .u64] (g_points O Y))
  | 17 => some (gspec [.ro .u64, .ro .u64] (g_scalars O Y))
  | 20 => some (pspec [.v, .ro .u64] false (g_pfrom O Y))
  | 21 => some (pspec [.v, .ro .u64] false (g_rfrom O Y))
  | f => spP0 O Y f
theorem spP1_ok (I : Sx.Interp) (O : OO) (hO : O = oo) (Y : OY) (hY : Y = yO O) : ∀ f s, spP1 O Y f = some s → Sx.SpecOK I Try.prog f s := by
  intro f s h
  unfold spP1 at h
  split at h
  · cases h; exact ok_pwhole I O hO Y hY
  · cases h; exact ok_pproof I O hO Y hY
  · cases h; exact ok_rproof I O hO Y hY
  · cases h; exact ok_pback I O hO Y hY
  · cases h; exact ok_rback I O hO Y hY
  · cases h; exact ok_pshows I O hO Y hY
  · cases h; exact ok_rshows I O hO Y hY
  · cases h; exact ok_points I O hO Y hY
  · cases h; exact ok_scalars I O hO Y hY
  · cases h; exact ok_pfrom I O hO Y hY
  · cases h; exact ok_rfrom I O hO Y hY
  · exact spP0_ok I O hO Y hY _ s h
def p_plocks (O : OO) (Y : OY) (a : Int) (l : List Int) (bs : List Bool) : Post := match bs with
  | [true] => ⟨[.v (.slice none 0 0)], []⟩
  | _ => ⟨[.row 1], [(1, .own 25 (.ints .u64 (fromO O (O.pbase a) l)))]⟩
def g_plocks (O : OO) (Y : OY) (ds : List Dt) : Option (Bool × List Bool × (List Bool → Post)) := match ds with
  | [.v (.int .u64 a), .ints l] => some ((inU a 18446744073709551616) && (inUs 18446744073709551616 l) && (Nat.ble l.length 1000), [frB O (O.pbase a) l.length], p_plocks O Y a l)
  | _ => none
set_option maxHeartbeats 4000000 in
theorem vc_plocks_t (O : OO) (Y : OY) (a : Int) (l : List Int) (F : FO O) (hy : Y = yO O) (h2 : inU a 18446744073709551616 = true) (h0 : inUs 18446744073709551616 l = true) (h1 : Nat.ble l.length 1000 = true) (hb : (frB O (O.pbase a) l.length) = true) :
  If (inU a 18446744073709551616) (If (inU (O.pbase a) 18446744073709551616 && inUs 18446744073709551616 l && l.length.ble 1000) (If (frB O (O.pbase a) (iOf l.length)) (True ∧ True) False) False) False := by
  exact Sx.if_true h2 (Sx.if_true (by rw [F.pbase, h0, h1]; rfl) (Sx.if_true hb ⟨trivial, trivial⟩))
theorem wpc_plocks_t (O : OO) (Y : OY) (a : Int) (l : List Int) (F : FO O) (hy : Y = yO O) (h2 : inU a 18446744073709551616 = true) (h0 : inUs 18446744073709551616 l = true) (h1 : Nat.ble l.length 1000 = true) (hb : (frB O (O.pbase a) l.length) = true) : wpcI Try.prog (spP1 O Y) Try.f18.ntmps [] (bodyOf Try.f18) 0 64 (envP (mks [.v, .ro .u64] [.v (.int .u64 a), .ints l] 0).1 0) (mks [.v, .ro .u64] [.v (.int .u64 a), .ints l] 0).2 (retP Try.prog Try.f18.results.toList 1 (p_plocks O Y a l [true])) :=
  Eq.mpr (by kernel_rfl) (vc_plocks_t O Y a l F hy h2 h0 h1 hb)
set_option maxHeartbeats 4000000 in
theorem vc_plocks_f (O : OO) (Y : OY) (a : Int) (l : List Int) (F : FO O) (hy : Y = yO O) (h2 : inU a 18446744073709551616 = true) (h0 : inUs 18446744073709551616 l = true) (h1 : Nat.ble l.length 1000 = true) (hb : (frB O (O.pbase a) l.length) = false) :
  If (inU a 18446744073709551616)
    (If (inU (O.pbase a) 18446744073709551616 && inUs 18446744073709551616 l && l.length.ble 1000)
      (If (frB O (O.pbase a) (iOf l.length)) (SV.v (Value.slice none 0 0) = SV.row 1 ∧ True ∧ False) (True ∧ EqI (fromO O (O.pbase a) l) (fromO O (O.pbase a) l) ∧ True)) False)
    False := by
  exact Sx.if_true h2 (Sx.if_true (by rw [F.pbase, h0, h1]; rfl) (Sx.if_false hb ⟨trivial, rfl, trivial⟩))
theorem wpc_plocks_f (O : OO) (Y : OY) (a : Int) (l : List Int) (F : FO O) (hy : Y = yO O) (h2 : inU a 18446744073709551616 = true) (h0 : inUs 18446744073709551616 l = true) (h1 : Nat.ble l.length 1000 = true) (hb : (frB O (O.pbase a) l.length) = false) : wpcI Try.prog (spP1 O Y) Try.f18.ntmps [] (bodyOf Try.f18) 0 64 (envP (mks [.v, .ro .u64] [.v (.int .u64 a), .ints l] 0).1 0) (mks [.v, .ro .u64] [.v (.int .u64 a), .ints l] 0).2 (retP Try.prog Try.f18.results.toList 1 (p_plocks O Y a l [false])) :=
  Eq.mpr (by kernel_rfl) (vc_plocks_f O Y a l F hy h2 h0 h1 hb)
theorem ok_plocks (I : Sx.Interp) (O : OO) (hO : O = oo) (Y : OY) (hY : Y = yO O) : Sx.SpecOK I Try.prog 18 (pspec [.v, .ro .u64] false (g_plocks O Y)) := by
  refine spec_patI (spP1_ok I O hO Y hY) (by kernel_rfl) (fun ds => match ds with | [.v (.int .u64 a), .ints l] => [] | _ => []) Try.func18 (by kernel_rfl) (by kernel_rfl) rfl Try.ntmps18 (by decide) ?_ ?_
  · intro ds p bs F h
    unfold g_plocks at h
    split at h
    · rename_i a l
      simp only [Option.some.injEq, Prod.mk.injEq] at h
      obtain ⟨_, rfl, rfl⟩ := h
      generalize (frB O (O.pbase a) l.length) = t
      cases t <;> kernel_rfl
    · cases h
  · intro ds bs F hl h
    unfold g_plocks at h
    split at h
    · rename_i a l
      simp only [Option.some.injEq, Prod.mk.injEq, Bool.and_eq_true] at h
      obtain ⟨⟨⟨h2, h0⟩, h1⟩, rfl, rfl⟩ := h
      cases hb : (frB O (O.pbase a) l.length) with
      | true => exact (wpc_plocks_t O Y a l (fo_oo O hO) hY h2 h0 h1 hb)
      | false => exact (wpc_plocks_f O Y a l (fo_oo O hO) hY h2 h0 h1 hb)
    · cases h
def p_rlocks (O : OO) (Y : OY) (a : Int) (l : List Int) (bs : List Bool) : Post := match bs with
  | [true] => ⟨[.v (.slice none 0 0)], []⟩
  | _ => ⟨[.row 1], [(1, .own 25 (.ints .u64 (rfromO O (O.pbase a) l (l.length + 1))))]⟩
def g_rlocks (O : OO) (Y : OY) (ds : List Dt) : Option (Bool × List Bool × (List Bool → Post)) := match ds with
  | [.v (.int .u64 a), .ints l] => some ((inU a 18446744073709551616) && (inUs 18446744073709551616 l) && (Nat.ble l.length 1000), [frB O (O.pbase a) l.length], p_rlocks O Y a l)
  | _ => none
set_option maxHeartbeats 4000000 in
theorem vc_rlocks_t (O : OO) (Y : OY) (a : Int) (l : List Int) (F : FO O) (hy : Y = yO O) (h2 : inU a 18446744073709551616 = true) (h0 : inUs 18446744073709551616 l = true) (h1 : Nat.ble l.length 1000 = true) (hb : (frB O (O.pbase a) l.length) = true) :
  If (inU a 18446744073709551616) (If (inU (O.pbase a) 18446744073709551616 && inUs 18446744073709551616 l && l.length.ble 1000) (If (frB O (O.pbase a) (iOf l.length)) (True ∧ True) False) False) False := by
  exact Sx.if_true h2 (Sx.if_true (by rw [F.pbase, h0, h1]; rfl) (Sx.if_true hb ⟨trivial, trivial⟩))
theorem wpc_rlocks_t (O : OO) (Y : OY) (a : Int) (l : List Int) (F : FO O) (hy : Y = yO O) (h2 : inU a 18446744073709551616 = true) (h0 : inUs 18446744073709551616 l = true) (h1 : Nat.ble l.length 1000 = true) (hb : (frB O (O.pbase a) l.length) = true) : wpcI Try.prog (spP1 O Y) Try.f19.ntmps [] (bodyOf Try.f19) 0 64 (envP (mks [.v, .ro .u64] [.v (.int .u64 a), .ints l] 0).1 0) (mks [.v, .ro .u64] [.v (.int .u64 a), .ints l] 0).2 (retP Try.prog Try.f19.results.toList 1 (p_rlocks O Y a l [true])) :=
  Eq.mpr (by kernel_rfl) (vc_rlocks_t O Y a l F hy h2 h0 h1 hb)
set_option maxHeartbeats 4000000 in
theorem vc_rlocks_f (O : OO) (Y : OY) (a : Int) (l : List Int) (F : FO O) (hy : Y = yO O) (h2 : inU a 18446744073709551616 = true) (h0 : inUs 18446744073709551616 l = true) (h1 : Nat.ble l.length 1000 = true) (hb : (frB O (O.pbase a) l.length) = false) :
  If (inU a 18446744073709551616)
    (If (inU (O.pbase a) 18446744073709551616 && inUs 18446744073709551616 l && l.length.ble 1000)
      (If (frB O (O.pbase a) (iOf l.length)) (SV.v (Value.slice none 0 0) = SV.row 1 ∧ True ∧ False)
        (True ∧ EqI (rfromO O (O.pbase a) l (nAdd l.length 1)) (rfromO O (O.pbase a) l (nAdd l.length 1)) ∧ True))
      False)
    False := by
  exact Sx.if_true h2 (Sx.if_true (by rw [F.pbase, h0, h1]; rfl) (Sx.if_false hb ⟨trivial, rfl, trivial⟩))
theorem wpc_rlocks_f (O : OO) (Y : OY) (a : Int) (l : List Int) (F : FO O) (hy : Y = yO O) (h2 : inU a 18446744073709551616 = true) (h0 : inUs 18446744073709551616 l = true) (h1 : Nat.ble l.length 1000 = true) (hb : (frB O (O.pbase a) l.length) = false) : wpcI Try.prog (spP1 O Y) Try.f19.ntmps [] (bodyOf Try.f19) 0 64 (envP (mks [.v, .ro .u64] [.v (.int .u64 a), .ints l] 0).1 0) (mks [.v, .ro .u64] [.v (.int .u64 a), .ints l] 0).2 (retP Try.prog Try.f19.results.toList 1 (p_rlocks O Y a l [false])) :=
  Eq.mpr (by kernel_rfl) (vc_rlocks_f O Y a l F hy h2 h0 h1 hb)
theorem ok_rlocks (I : Sx.Interp) (O : OO) (hO : O = oo) (Y : OY) (hY : Y = yO O) : Sx.SpecOK I Try.prog 19 (pspec [.v, .ro .u64] false (g_rlocks O Y)) := by
  refine spec_patI (spP1_ok I O hO Y hY) (by kernel_rfl) (fun ds => match ds with | [.v (.int .u64 a), .ints l] => [] | _ => []) Try.func19 (by kernel_rfl) (by kernel_rfl) rfl Try.ntmps19 (by decide) ?_ ?_
  · intro ds p bs F h
    unfold g_rlocks at h
    split at h
    · rename_i a l
      simp only [Option.some.injEq, Prod.mk.injEq] at h
      obtain ⟨_, rfl, rfl⟩ := h
      generalize (frB O (O.pbase a) l.length) = t
      cases t <;> kernel_rfl
    · cases h
  · intro ds bs F hl h
    unfold g_rlocks at h
    split at h
    · rename_i a l
      simp only [Option.some.injEq, Prod.mk.injEq, Bool.and_eq_true] at h
      obtain ⟨⟨⟨h2, h0⟩, h1⟩, rfl, rfl⟩ := h
      cases hb : (frB O (O.pbase a) l.length) with
      | true => exact (wpc_rlocks_t O Y a l (fo_oo O hO) hY h2 h0 h1 hb)
      | false => exact (wpc_rlocks_f O Y a l (fo_oo O hO) hY h2 h0 h1 hb)
    · cases h
def p_pnew (O : OO) (Y : OY) (q : Int) (b : Array Value) (n : Int) (bs : List Bool) : Post := match bs with
  | [true] => ⟨[.v (.agg ⟨[.slice none 0 0, .slice none 0 0]⟩), .v (.bool false)], []⟩
  | _ => ⟨[.agg [.row 0, .row 1], .v (.bool true)], [(0, .own 25 (.ints .u64 (fromO O q (blindsO O b n)))), (1, .own 23 (.ints .u64 (blindsO O b n)))]⟩
def g_pnew (O : OO) (Y : OY) (ds : List Dt) : Option (Bool × List Bool × (List Bool → Post)) := match ds with
  | [.v (.int .u64 q), .v (.agg b), .v (.int .i64 n)] => some ((inU q 18446744073709551616) && (O.isH b), [newB O q n], p_pnew O Y q b n)
  | _ => none
set_option maxHeartbeats 4000000 in
theorem vc_pnew_t (O : OO) (Y : OY) (q : Int) (m : Nat → Int) (n : Int) (F : FO O) (hy : Y = yO O) (h2 : inU q 18446744073709551616 = true) (h3 : O.isH (AV m) = true) (hb : (newB O q n) = true) :
  If (inU q 18446744073709551616)
    (If (!O.pright q)
      ((Value.agg (Array.mk [Value.slice none 0 0, Value.slice none 0 0]) = Value.agg (Array.mk [Value.slice none 0 0, Value.slice none 0 0]) ∧ Value.bool false = Value.bool false) ∧ True ∧ True)
      (If (iBeq q 1)
        ((Value.agg (Array.mk [Value.slice none 0 0, Value.slice none 0 0]) = Value.agg (Array.mk [Value.slice none 0 0, Value.slice none 0 0]) ∧ Value.bool false = Value.bool false) ∧ True ∧ True)
        (If (iLt n 1)
          ((Value.agg (Array.mk [Value.slice none 0 0, Value.slice none 0 0]) = Value.agg (Array.mk [Value.slice none 0 0, Value.slice none 0 0]) ∧ Value.bool false = Value.bool false) ∧ True ∧ True)
          (If (iLt 8 n)
            ((Value.agg (Array.mk [Value.slice none 0 0, Value.slice none 0 0]) = Value.agg (Array.mk [Value.slice none 0 0, Value.slice none 0 0]) ∧ Value.bool false = Value.bool false) ∧ True ∧ True)
            ((∃ (x : Nat),
                x ≤ (iSub n 1).toNat ∧
                  (Value.int IntKind.i64 0 = Value.int IntKind.i64 (iOf x) ∧
                      Value.int IntKind.u64 q = Value.int IntKind.u64 q ∧ Value.int IntKind.i64 (IntKind.i64.wrap (iSub n 1)) = Value.int IntKind.i64 (IntKind.i64.wrap (iSub n 1)) ∧ True) ∧
                    EqI [] (drawsO O (ByteArray.mk (Array.mk [98, 108, 105, 110, 100])) (intsA (Array.mk (List.map (Value.int IntKind.u8) (tabI m 32)))) x) ∧
                      Array.mk [Value.slice none 0 0, Value.slice none 0 0] = Array.mk [Value.slice none 0 0, Value.slice none 0 0] ∧
                        Array.mk (List.map (Value.int IntKind.u8) (tabI m 32)) = Array.mk (List.map (Value.int IntKind.u8) (tabI m 32)) ∧ True) ∧
              ∀ (x : Nat),
                x ≤ (iSub n 1).toNat →
                  If (iLt (iOf x) (IntKind.i64.wrap (iSub n 1)))
                    (If
                      ((nMul
                              (nAdd (drawsO O (ByteArray.mk (Array.mk [98, 108, 105, 110, 100])) (intsA (Array.mk (List.map (Value.int IntKind.u8) (tabI m 32)))) x).length
                                [drawO O (ByteArray.mk (Array.mk [98, 108, 105, 110, 100]))
                                      [m 0, m 1, m 2, m 3, m 4, m 5, m 6, m 7, m 8, m 9, m 10, m 11, m 12, m 13, m 14, m 15, m 16, m 17, m 18, m 19, m 20, m 21, m 22, m 23, m 24, m 25, m 26, m 27, m 28,
                                        m 29, m 30, m 31]
                                      (iOf x)].length)
                              8).ble
                          140737488355328 &&
                        (nAdd (drawsO O (ByteArray.mk (Array.mk [98, 108, 105, 110, 100])) (intsA (Array.mk (List.map (Value.int IntKind.u8) (tabI m 32)))) x).length
                              [drawO O (ByteArray.mk (Array.mk [98, 108, 105, 110, 100]))
                                    [m 0, m 1, m 2, m 3, m 4, m 5, m 6, m 7, m 8, m 9, m 10, m 11, m 12, m 13, m 14, m 15, m 16, m 17, m 18, m 19, m 20, m 21, m 22, m 23, m 24, m 25, m 26, m 27, m 28,
                                      m 29, m 30, m 31]
                                    (iOf x)].length).ble
                          9223372036854775807)
                      (∃ (x' : Nat),
                        x' ≤ (iSub n 1).toNat ∧
                          (nSub (iSub n 1).toNat x').succ ≤ nSub (iSub n 1).toNat x ∧
                            (Value.int IntKind.i64 (IntKind.i64.wrap (iAdd (iOf x) 1)) = Value.int IntKind.i64 (iOf x') ∧
                                Value.int IntKind.u64 q = Value.int IntKind.u64 q ∧ Value.int IntKind.i64 (IntKind.i64.wrap (iSub n 1)) = Value.int IntKind.i64 (IntKind.i64.wrap (iSub n 1)) ∧ True) ∧
                              EqI
                                  (app (drawsO O (ByteArray.mk (Array.mk [98, 108, 105, 110, 100])) (intsA (Array.mk (List.map (Value.int IntKind.u8) (tabI m 32)))) x)
                                    [drawO O (ByteArray.mk (Array.mk [98, 108, 105, 110, 100]))
                                        [m 0, m 1, m 2, m 3, m 4, m 5, m 6, m 7, m 8, m 9, m 10, m 11, m 12, m 13, m 14, m 15, m 16, m 17, m 18, m 19, m 20, m 21, m 22, m 23, m 24, m 25, m 26, m 27,
                                          m 28, m 29, m 30, m 31]
                                        (iOf x)])
                                  (drawsO O (ByteArray.mk (Array.mk [98, 108, 105, 110, 100])) (intsA (Array.mk (List.map (Value.int IntKind.u8) (tabI m 32)))) x') ∧
                                Array.mk [Value.slice none 0 0, Value.slice none 0 0] = Array.mk [Value.slice none 0 0, Value.slice none 0 0] ∧
                                  Array.mk (List.map (Value.int IntKind.u8) (tabI m 32)) = Array.mk (List.map (Value.int IntKind.u8) (tabI m 32)) ∧ True)
                      False)
                    (If
                      (inU q 18446744073709551616 &&
                          inUs 18446744073709551616 (drawsO O (ByteArray.mk (Array.mk [98, 108, 105, 110, 100])) (intsA (Array.mk (List.map (Value.int IntKind.u8) (tabI m 32)))) x) &&
                        (drawsO O (ByteArray.mk (Array.mk [98, 108, 105, 110, 100])) (intsA (Array.mk (List.map (Value.int IntKind.u8) (tabI m 32)))) x).length.ble 1000)
                      (If (frB O q (iOf (drawsO O (ByteArray.mk (Array.mk [98, 108, 105, 110, 100])) (intsA (Array.mk (List.map (Value.int IntKind.u8) (tabI m 32)))) x).length))
                        ((SV.agg (List.take 2 (List.drop 0 [SV.v (Value.slice none 0 0), SV.row (nAdd 1472 [(200008, 23, Cont.ints IntKind.u64 [])].length)])) =
                              SV.v (Value.agg (Array.mk [Value.slice none 0 0, Value.slice none 0 0])) ∧
                            Value.bool true = Value.bool false) ∧
                          True ∧ True)
                        ((SV.agg
                                (List.take 2
                                  (List.drop 0
                                    [SV.row (nAdd (nAdd (nAdd (nAdd (nAdd 1472 [(200008, 23, Cont.ints IntKind.u64 [])].length) [(200008, 23, Cont.ints IntKind.u64 [])].length) 64) 192) 0),
                                      SV.row (nAdd 1472 [(200008, 23, Cont.ints IntKind.u64 [])].length)])) =
                              SV.v (Value.agg (Array.mk [Value.slice none 0 0, Value.slice none 0 0])) ∧
                            Value.bool true = Value.bool false) ∧
                          True ∧ True))
                      False))))))
    False := by
  unfold newB at hb
  refine Sx.if_true h2 (Sx.if_both (fun _ => (by first | rfl | trivial)) (fun e1 => Sx.if_both (fun _ => (by first | rfl | trivial)) (fun e2 => Sx.if_both (fun _ => (by first | rfl | trivial)) (fun e3 => Sx.if_both (fun _ => (by first | rfl | trivial)) (fun e4 => ?_)))))
  rw [e1, e2, e3, e4] at hb
  exact absurd hb (by decide)
theorem wpc_pnew_t (O : OO) (Y : OY) (q : Int) (m : Nat → Int) (n : Int) (F : FO O) (hy : Y = yO O) (h2 : inU q 18446744073709551616 = true) (h3 : O.isH (AV m) = true) (hb : (newB O q n) = true) : wpcI Try.prog (spP1 O Y) Try.f14.ntmps [⟨Nat, [0, 4, 6, 8, 27], [(200008, 23, .ints .u64 [])], fun B j => [(28, .v (.int .i64 (j : Int)))], fun B j => [(B, .own 23 (.ints .u64 (drawsO O blindB (intsA (AV m)) j)))], fun j => j ≤ (n - 1).toNat, fun j => (n - 1).toNat - j, 0⟩] (bodyOf Try.f14) 0 64 (envP (mks [.v, .v, .v] [.v (.int .u64 q), .v (.agg (AV m)), .v (.int .i64 n)] 0).1 0) (mks [.v, .v, .v] [.v (.int .u64 q), .v (.agg (AV m)), .v (.int .i64 n)] 0).2 (retP Try.prog Try.f14.results.toList 0 (p_pnew O Y q (AV m) n [true])) :=
  Eq.mpr (by kernel_rfl) (vc_pnew_t O Y q m n F hy h2 h3 hb)
set_option maxHeartbeats 4000000 in
theorem vc_pnew_f (O : OO) (Y : OY) (q : Int) (m : Nat → Int) (n : Int) (F : FO O) (hy : Y = yO O) (h2 : inU q 18446744073709551616 = true) (h3 : O.isH (AV m) = true) (hb : (newB O q n) = false) :
  If (inU q 18446744073709551616)
    (If (!O.pright q) ((SV.v (Value.agg (Array.mk [Value.slice none 0 0, Value.slice none 0 0])) = SV.agg [SV.row 0, SV.row 1] ∧ Value.bool false = Value.bool true) ∧ True ∧ False)
      (If (iBeq q 1) ((SV.v (Value.agg (Array.mk [Value.slice none 0 0, Value.slice none 0 0])) = SV.agg [SV.row 0, SV.row 1] ∧ Value.bool false = Value.bool true) ∧ True ∧ False)
        (If (iLt n 1) ((SV.v (Value.agg (Array.mk [Value.slice none 0 0, Value.slice none 0 0])) = SV.agg [SV.row 0, SV.row 1] ∧ Value.bool false = Value.bool true) ∧ True ∧ False)
          (If (iLt 8 n) ((SV.v (Value.agg (Array.mk [Value.slice none 0 0, Value.slice none 0 0])) = SV.agg [SV.row 0, SV.row 1] ∧ Value.bool false = Value.bool true) ∧ True ∧ False)
            ((∃ (x : Nat),
                x ≤ (iSub n 1).toNat ∧
                  (Value.int IntKind.i64 0 = Value.int IntKind.i64 (iOf x) ∧
                      Value.int IntKind.u64 q = Value.int IntKind.u64 q ∧ Value.int IntKind.i64 (IntKind.i64.wrap (iSub n 1)) = Value.int IntKind.i64 (IntKind.i64.wrap (iSub n 1)) ∧ True) ∧
                    EqI [] (drawsO O (ByteArray.mk (Array.mk [98, 108, 105, 110, 100])) (intsA (Array.mk (List.map (Value.int IntKind.u8) (tabI m 32)))) x) ∧
                      Array.mk [Value.slice none 0 0, Value.slice none 0 0] = Array.mk [Value.slice none 0 0, Value.slice none 0 0] ∧
                        Array.mk (List.map (Value.int IntKind.u8) (tabI m 32)) = Array.mk (List.map (Value.int IntKind.u8) (tabI m 32)) ∧ True) ∧
              ∀ (x : Nat),
                x ≤ (iSub n 1).toNat →
                  If (iLt (iOf x) (IntKind.i64.wrap (iSub n 1)))
                    (If
                      ((nMul
                              (nAdd (drawsO O (ByteArray.mk (Array.mk [98, 108, 105, 110, 100])) (intsA (Array.mk (List.map (Value.int IntKind.u8) (tabI m 32)))) x).length
                                [drawO O (ByteArray.mk (Array.mk [98, 108, 105, 110, 100]))
                                      [m 0, m 1, m 2, m 3, m 4, m 5, m 6, m 7, m 8, m 9, m 10, m 11, m 12, m 13, m 14, m 15, m 16, m 17, m 18, m 19, m 20, m 21, m 22, m 23, m 24, m 25, m 26, m 27, m 28,
                                        m 29, m 30, m 31]
                                      (iOf x)].length)
                              8).ble
                          140737488355328 &&
                        (nAdd (drawsO O (ByteArray.mk (Array.mk [98, 108, 105, 110, 100])) (intsA (Array.mk (List.map (Value.int IntKind.u8) (tabI m 32)))) x).length
                              [drawO O (ByteArray.mk (Array.mk [98, 108, 105, 110, 100]))
                                    [m 0, m 1, m 2, m 3, m 4, m 5, m 6, m 7, m 8, m 9, m 10, m 11, m 12, m 13, m 14, m 15, m 16, m 17, m 18, m 19, m 20, m 21, m 22, m 23, m 24, m 25, m 26, m 27, m 28,
                                      m 29, m 30, m 31]
                                    (iOf x)].length).ble
                          9223372036854775807)
                      (∃ (x' : Nat),
                        x' ≤ (iSub n 1).toNat ∧
                          (nSub (iSub n 1).toNat x').succ ≤ nSub (iSub n 1).toNat x ∧
                            (Value.int IntKind.i64 (IntKind.i64.wrap (iAdd (iOf x) 1)) = Value.int IntKind.i64 (iOf x') ∧
                                Value.int IntKind.u64 q = Value.int IntKind.u64 q ∧ Value.int IntKind.i64 (IntKind.i64.wrap (iSub n 1)) = Value.int IntKind.i64 (IntKind.i64.wrap (iSub n 1)) ∧ True) ∧
                              EqI
                                  (app (drawsO O (ByteArray.mk (Array.mk [98, 108, 105, 110, 100])) (intsA (Array.mk (List.map (Value.int IntKind.u8) (tabI m 32)))) x)
                                    [drawO O (ByteArray.mk (Array.mk [98, 108, 105, 110, 100]))
                                        [m 0, m 1, m 2, m 3, m 4, m 5, m 6, m 7, m 8, m 9, m 10, m 11, m 12, m 13, m 14, m 15, m 16, m 17, m 18, m 19, m 20, m 21, m 22, m 23, m 24, m 25, m 26, m 27,
                                          m 28, m 29, m 30, m 31]
                                        (iOf x)])
                                  (drawsO O (ByteArray.mk (Array.mk [98, 108, 105, 110, 100])) (intsA (Array.mk (List.map (Value.int IntKind.u8) (tabI m 32)))) x') ∧
                                Array.mk [Value.slice none 0 0, Value.slice none 0 0] = Array.mk [Value.slice none 0 0, Value.slice none 0 0] ∧
                                  Array.mk (List.map (Value.int IntKind.u8) (tabI m 32)) = Array.mk (List.map (Value.int IntKind.u8) (tabI m 32)) ∧ True)
                      False)
                    (If
                      (inU q 18446744073709551616 &&
                          inUs 18446744073709551616 (drawsO O (ByteArray.mk (Array.mk [98, 108, 105, 110, 100])) (intsA (Array.mk (List.map (Value.int IntKind.u8) (tabI m 32)))) x) &&
                        (drawsO O (ByteArray.mk (Array.mk [98, 108, 105, 110, 100])) (intsA (Array.mk (List.map (Value.int IntKind.u8) (tabI m 32)))) x).length.ble 1000)
                      (If (frB O q (iOf (drawsO O (ByteArray.mk (Array.mk [98, 108, 105, 110, 100])) (intsA (Array.mk (List.map (Value.int IntKind.u8) (tabI m 32)))) x).length))
                        ((SV.v (Value.slice none 0 0) = SV.row 0 ∧ Value.bool true = Value.bool true) ∧ True ∧ False)
                        (Value.bool true = Value.bool true ∧
                          True ∧
                            EqI (fromO O q (drawsO O (ByteArray.mk (Array.mk [98, 108, 105, 110, 100])) (intsA (Array.mk (List.map (Value.int IntKind.u8) (tabI m 32)))) x))
                                (fromO O q (blindsO O (Array.mk (List.map (Value.int IntKind.u8) (tabI m 32))) n)) ∧
                              EqI (drawsO O (ByteArray.mk (Array.mk [98, 108, 105, 110, 100])) (intsA (Array.mk (List.map (Value.int IntKind.u8) (tabI m 32)))) x)
                                  (blindsO O (Array.mk (List.map (Value.int IntKind.u8) (tabI m 32))) n) ∧
                                True))
                      False))))))
    False := by
  simp only [Sx.app, Sx.nAdd, Sx.nSub, Sx.nMul, Sx.nPow, Sx.nDiv, Sx.nMod, Sx.iAdd, Sx.iSub, Sx.iMul, Sx.iNeg, Sx.iPow, Sx.iOf]
  obtain ⟨hq, hq1, hn1, hn8, k1, k8⟩ := newB_no hb
  have hw : IntKind.i64.wrap (n - 1) = n - 1 := IntWalk.i64_in _ (by omega)
  have eL : [m 0, m 1, m 2, m 3, m 4, m 5, m 6, m 7, m 8, m 9, m 10, m 11, m 12, m 13, m 14, m 15, m 16, m 17, m 18, m 19, m 20, m 21, m 22, m 23, m 24, m 25, m 26, m 27, m 28, m 29, m 30, m 31] = intsA (AV m) := by kernel_rfl
  have eA : Array.mk (List.map (Value.int IntKind.u8) (tabI m 32)) = AV m := rfl
  have eb : blindsO O (AV m) n = drawsO O blindB (intsA (AV m)) (n - 1).toNat := rfl
  have es : ByteArray.mk (Array.mk [98, 108, 105, 110, 100]) = blindB := rfl
  simp only [eA, hw, eL, eb, es]
  refine Sx.if_true h2 (Sx.if_false (by rw [hq]; rfl) (Sx.if_false hq1 (Sx.if_false hn1 (Sx.if_false hn8 ?_))))
  generalize intsA (AV m) = L
  refine ⟨⟨0, Nat.zero_le _, ⟨rfl, (by first | rfl | trivial)⟩, rfl, (by first | rfl | trivial)⟩, fun x hx => Sx.if_both (fun h => ?_) (fun h => ?_)⟩
  · simp only [Bool.and_eq_true, Bool.or_eq_true, Sx.iLt_t, Sx.iLt_f, Sx.iLe_t, Sx.iLe_f, Sx.iEq_t, Sx.iEq_f, Sx.iBeq_t, Sx.iBeq_f, Sx.iBne_t, Sx.iBne_f, Nat.ble_eq, Nat.beq_eq, Sx.Cont.n] at h
    have hlt : x < (n - 1).toNat := by omega
    exact Sx.if_true (by simp only [Bool.and_eq_true, Bool.or_eq_true, Sx.iLt_t, Sx.iLt_f, Sx.iLe_t, Sx.iLe_f, Sx.iEq_t, Sx.iEq_f, Sx.iBeq_t, Sx.iBeq_f, Sx.iBne_t, Sx.iBne_f, Nat.ble_eq, Nat.beq_eq, Sx.Cont.n, drawsO_len, List.length_cons, List.length_nil]; omega) ⟨x + 1, hlt, by omega, ⟨by rw [wrap_succ (by omega)], (by first | rfl | trivial)⟩, (drawsO_succ _ _ _ _).symm, (by first | rfl | trivial)⟩
  · simp only [Bool.and_eq_true, Bool.or_eq_true, Sx.iLt_t, Sx.iLt_f, Sx.iLe_t, Sx.iLe_f, Sx.iEq_t, Sx.iEq_f, Sx.iBeq_t, Sx.iBeq_f, Sx.iBne_t, Sx.iBne_f, Nat.ble_eq, Nat.beq_eq, Sx.Cont.n] at h
    have hx2 : x = (n - 1).toNat := by omega
    subst hx2
    exact Sx.if_true (by rw [h2, drawsO_in F, drawsO_len]; simp only [Bool.and_eq_true, Bool.or_eq_true, Sx.iLt_t, Sx.iLt_f, Sx.iLe_t, Sx.iLe_f, Sx.iEq_t, Sx.iEq_f, Sx.iBeq_t, Sx.iBeq_f, Sx.iBne_t, Sx.iBne_f, Nat.ble_eq, Nat.beq_eq, Sx.Cont.n, Bool.true_and]; omega) (Sx.if_false (frB_of hq (by rw [drawsO_len]; omega)) ⟨trivial, trivial, rfl, rfl, trivial⟩)
theorem wpc_pnew_f (O : OO) (Y : OY) (q : Int) (m : Nat → Int) (n : Int) (F : FO O) (hy : Y = yO O) (h2 : inU q 18446744073709551616 = true) (h3 : O.isH (AV m) = true) (hb : (newB O q n) = false) : wpcI Try.prog (spP1 O Y) Try.f14.ntmps [⟨Nat, [0, 4, 6, 8, 27], [(200008, 23, .ints .u64 [])], fun B j => [(28, .v (.int .i64 (j : Int)))], fun B j => [(B, .own 23 (.ints .u64 (drawsO O blindB (intsA (AV m)) j)))], fun j => j ≤ (n - 1).toNat, fun j => (n - 1).toNat - j, 0⟩] (bodyOf Try.f14) 0 64 (envP (mks [.v, .v, .v] [.v (.int .u64 q), .v (.agg (AV m)), .v (.int .i64 n)] 0).1 0) (mks [.v, .v, .v] [.v (.int .u64 q), .v (.agg (AV m)), .v (.int .i64 n)] 0).2 (retP Try.prog Try.f14.results.toList 0 (p_pnew O Y q (AV m) n [false])) :=
  Eq.mpr (by kernel_rfl) (vc_pnew_f O Y q m n F hy h2 h3 hb)
theorem ok_pnew (I : Sx.Interp) (O : OO) (hO : O = oo) (Y : OY) (hY : Y = yO O) : Sx.SpecOK I Try.prog 14 (pspec [.v, .v, .v] false (g_pnew O Y)) := by
  refine spec_patI (spP1_ok I O hO Y hY) (by kernel_rfl) (fun ds => match ds with | [.v (.int .u64 q), .v (.agg b), .v (.int .i64 n)] => [⟨Nat, [0, 4, 6, 8, 27], [(200008, 23, .ints .u64 [])], fun B j => [(28, .v (.int .i64 (j : Int)))], fun B j => [(B, .own 23 (.ints .u64 (drawsO O blindB (intsA b) j)))], fun j => j ≤ (n - 1).toNat, fun j => (n - 1).toNat - j, 0⟩] | _ => []) Try.func14 (by kernel_rfl) (by kernel_rfl) rfl Try.ntmps14 (by decide) ?_ ?_
  · intro ds p bs F h
    unfold g_pnew at h
    split at h
    · rename_i q b n
      simp only [Option.some.injEq, Prod.mk.injEq] at h
      obtain ⟨_, rfl, rfl⟩ := h
      generalize (newB O q n) = t
      cases t <;> kernel_rfl
    · cases h
  · intro ds bs F hl h
    unfold g_pnew at h
    split at h
    · rename_i q b n
      simp only [Option.some.injEq, Prod.mk.injEq, Bool.and_eq_true] at h
      obtain ⟨⟨h2, h3⟩, rfl, rfl⟩ := h
      obtain ⟨m, rfl⟩ := isH_AV (by subst hO; exact h3 : isHa b = true)
      cases hb : (newB O q n) with
      | true => exact (wpc_pnew_t O Y q m n (fo_oo O hO) hY h2 h3 hb)
      | false => exact (wpc_pnew_f O Y q m n (fo_oo O hO) hY h2 h3 hb)
    · cases h
def p_rnew (O : OO) (Y : OY) (q : Int) (b : Array Value) (n : Int) (bs : List Bool) : Post := match bs with
  | [true] => ⟨[.v (.agg ⟨[.slice none 0 0, .slice none 0 0]⟩), .v (.bool false)], []⟩
  | _ => ⟨[.agg [.row 0, .row 1], .v (.bool true)], [(0, .own 25 (.ints .u64 (rfromO O q (blindsO O b n) ((blindsO O b n).length + 1)))), (1, .own 23 (.ints .u64 (blindsO O b n)))]⟩
def g_rnew (O : OO) (Y : OY) (ds : List Dt) : Option (Bool × List Bool × (List Bool → Post)) := match ds with
  | [.v (.int .u64 q), .v (.agg b), .v (.int .i64 n)] => some ((inU q 18446744073709551616) && (O.isH b), [newB O q n], p_rnew O Y q b n)
  | _ => none
set_option maxHeartbeats 4000000 in
theorem vc_rnew_t (O : OO) (Y : OY) (q : Int) (m : Nat → Int) (n : Int) (F : FO O) (hy : Y = yO O) (h2 : inU q 18446744073709551616 = true) (h3 : O.isH (AV m) = true) (hb : (newB O q n) = true) :
  If (inU q 18446744073709551616)
    (If (!O.pright q)
      ((Value.agg (Array.mk [Value.slice none 0 0, Value.slice none 0 0]) = Value.agg (Array.mk [Value.slice none 0 0, Value.slice none 0 0]) ∧ Value.bool false = Value.bool false) ∧ True ∧ True)
      (If (iBeq q 1)
        ((Value.agg (Array.mk [Value.slice none 0 0, Value.slice none 0 0]) = Value.agg (Array.mk [Value.slice none 0 0, Value.slice none 0 0]) ∧ Value.bool false = Value.bool false) ∧ True ∧ True)
        (If (iLt n 1)
          ((Value.agg (Array.mk [Value.slice none 0 0, Value.slice none 0 0]) = Value.agg (Array.mk [Value.slice none 0 0, Value.slice none 0 0]) ∧ Value.bool false = Value.bool false) ∧ True ∧ True)
          (If (iLt 8 n)
            ((Value.agg (Array.mk [Value.slice none 0 0, Value.slice none 0 0]) = Value.agg (Array.mk [Value.slice none 0 0, Value.slice none 0 0]) ∧ Value.bool false = Value.bool false) ∧ True ∧ True)
            ((∃ (x : Nat),
                x ≤ (iSub n 1).toNat ∧
                  (Value.int IntKind.i64 0 = Value.int IntKind.i64 (iOf x) ∧ Value.int IntKind.u64 q = Value.int IntKind.u64 q ∧ Value.int IntKind.i64 n = Value.int IntKind.i64 n ∧ True) ∧
                    EqI [] (drawsO O (ByteArray.mk (Array.mk [98, 108, 105, 110, 100])) (intsA (Array.mk (List.map (Value.int IntKind.u8) (tabI m 32)))) x) ∧
                      Array.mk [Value.slice none 0 0, Value.slice none 0 0] = Array.mk [Value.slice none 0 0, Value.slice none 0 0] ∧
                        Array.mk (List.map (Value.int IntKind.u8) (tabI m 32)) = Array.mk (List.map (Value.int IntKind.u8) (tabI m 32)) ∧ True) ∧
              ∀ (x : Nat),
                x ≤ (iSub n 1).toNat →
                  If (iLt (iOf x) (IntKind.i64.wrap (iSub n 1)))
                    (If
                      (decide
                        (O.isH
                            (Array.mk
                              (List.map (Value.int IntKind.u8)
                                (tabI
                                  (O.tag (ByteArray.mk (Array.mk [98, 108, 105, 110, 100]))
                                    [[m 0, m 1, m 2, m 3, m 4, m 5, m 6, m 7, m 8, m 9, m 10, m 11, m 12, m 13, m 14, m 15, m 16, m 17, m 18, m 19, m 20, m 21, m 22, m 23, m 24, m 25, m 26, m 27, m 28,
                                        m 29, m 30, m 31],
                                      [IntKind.u8.wrap (iOf x)]])
                                  32))) =
                          true))
                      (If
                        ((nMul
                                (nAdd (drawsO O (ByteArray.mk (Array.mk [98, 108, 105, 110, 100])) (intsA (Array.mk (List.map (Value.int IntKind.u8) (tabI m 32)))) x).length
                                  [O.ffrom
                                        (Array.mk
                                          (List.map (Value.int IntKind.u8)
                                            (tabI
                                              (O.tag (ByteArray.mk (Array.mk [98, 108, 105, 110, 100]))
                                                [[m 0, m 1, m 2, m 3, m 4, m 5, m 6, m 7, m 8, m 9, m 10, m 11, m 12, m 13, m 14, m 15, m 16, m 17, m 18, m 19, m 20, m 21, m 22, m 23, m 24, m 25, m 26,
                                                    m 27, m 28, m 29, m 30, m 31],
                                                  [IntKind.u8.wrap (iOf x)]])
                                              32)))].length)
                                8).ble
                            140737488355328 &&
                          (nAdd (drawsO O (ByteArray.mk (Array.mk [98, 108, 105, 110, 100])) (intsA (Array.mk (List.map (Value.int IntKind.u8) (tabI m 32)))) x).length
                                [O.ffrom
                                      (Array.mk
                                        (List.map (Value.int IntKind.u8)
                                          (tabI
                                            (O.tag (ByteArray.mk (Array.mk [98, 108, 105, 110, 100]))
                                              [[m 0, m 1, m 2, m 3, m 4, m 5, m 6, m 7, m 8, m 9, m 10, m 11, m 12, m 13, m 14, m 15, m 16, m 17, m 18, m 19, m 20, m 21, m 22, m 23, m 24, m 25, m 26,
                                                  m 27, m 28, m 29, m 30, m 31],
                                                [IntKind.u8.wrap (iOf x)]])
                                            32)))].length).ble
                            9223372036854775807)
                        (∃ (x' : Nat),
                          x' ≤ (iSub n 1).toNat ∧
                            (nSub (iSub n 1).toNat x').succ ≤ nSub (iSub n 1).toNat x ∧
                              (Value.int IntKind.i64 (IntKind.i64.wrap (iAdd (iOf x) 1)) = Value.int IntKind.i64 (iOf x') ∧
                                  Value.int IntKind.u64 q = Value.int IntKind.u64 q ∧ Value.int IntKind.i64 n = Value.int IntKind.i64 n ∧ True) ∧
                                EqI
                                    (app (drawsO O (ByteArray.mk (Array.mk [98, 108, 105, 110, 100])) (intsA (Array.mk (List.map (Value.int IntKind.u8) (tabI m 32)))) x)
                                      [O.ffrom
                                          (Array.mk
                                            (List.map (Value.int IntKind.u8)
                                              (tabI
                                                (O.tag (ByteArray.mk (Array.mk [98, 108, 105, 110, 100]))
                                                  [[m 0, m 1, m 2, m 3, m 4, m 5, m 6, m 7, m 8, m 9, m 10, m 11, m 12, m 13, m 14, m 15, m 16, m 17, m 18, m 19, m 20, m 21, m 22, m 23, m 24, m 25,
                                                      m 26, m 27, m 28, m 29, m 30, m 31],
                                                    [IntKind.u8.wrap (iOf x)]])
                                                32)))])
                                    (drawsO O (ByteArray.mk (Array.mk [98, 108, 105, 110, 100])) (intsA (Array.mk (List.map (Value.int IntKind.u8) (tabI m 32)))) x') ∧
                                  Array.mk [Value.slice none 0 0, Value.slice none 0 0] = Array.mk [Value.slice none 0 0, Value.slice none 0 0] ∧
                                    Array.mk (List.map (Value.int IntKind.u8) (tabI m 32)) = Array.mk (List.map (Value.int IntKind.u8) (tabI m 32)) ∧ True)
                        False)
                      False)
                    (If
                      (inU q 18446744073709551616 &&
                          inUs 18446744073709551616 (drawsO O (ByteArray.mk (Array.mk [98, 108, 105, 110, 100])) (intsA (Array.mk (List.map (Value.int IntKind.u8) (tabI m 32)))) x) &&
                        (drawsO O (ByteArray.mk (Array.mk [98, 108, 105, 110, 100])) (intsA (Array.mk (List.map (Value.int IntKind.u8) (tabI m 32)))) x).length.ble 1000)
                      (If (frB O q (iOf (drawsO O (ByteArray.mk (Array.mk [98, 108, 105, 110, 100])) (intsA (Array.mk (List.map (Value.int IntKind.u8) (tabI m 32)))) x).length))
                        ((SV.agg (List.take 2 (List.drop 0 [SV.v (Value.slice none 0 0), SV.row (nAdd 1472 [(200009, 23, Cont.ints IntKind.u64 [])].length)])) =
                              SV.v (Value.agg (Array.mk [Value.slice none 0 0, Value.slice none 0 0])) ∧
                            Value.bool true = Value.bool false) ∧
                          True ∧ True)
                        ((SV.agg
                                (List.take 2
                                  (List.drop 0
                                    [SV.row (nAdd (nAdd (nAdd (nAdd (nAdd 1472 [(200009, 23, Cont.ints IntKind.u64 [])].length) [(200009, 23, Cont.ints IntKind.u64 [])].length) 256) 192) 0),
                                      SV.row (nAdd 1472 [(200009, 23, Cont.ints IntKind.u64 [])].length)])) =
                              SV.v (Value.agg (Array.mk [Value.slice none 0 0, Value.slice none 0 0])) ∧
                            Value.bool true = Value.bool false) ∧
                          True ∧ True))
                      False))))))
    False := by
  unfold newB at hb
  refine Sx.if_true h2 (Sx.if_both (fun _ => (by first | rfl | trivial)) (fun e1 => Sx.if_both (fun _ => (by first | rfl | trivial)) (fun e2 => Sx.if_both (fun _ => (by first | rfl | trivial)) (fun e3 => Sx.if_both (fun _ => (by first | rfl | trivial)) (fun e4 => ?_)))))
  rw [e1, e2, e3, e4] at hb
  exact absurd hb (by decide)
theorem wpc_rnew_t (O : OO) (Y : OY) (q : Int) (m : Nat → Int) (n : Int) (F : FO O) (hy : Y = yO O) (h2 : inU q 18446744073709551616 = true) (h3 : O.isH (AV m) = true) (hb : (newB O q n) = true) : wpcI Try.prog (spP1 O Y) Try.f15.ntmps [⟨Nat, [0, 2, 4, 6, 9], [(200009, 23, .ints .u64 [])], fun B j => [(10, .v (.int .i64 (j : Int)))], fun B j => [(B, .own 23 (.ints .u64 (drawsO O blindB (intsA (AV m)) j)))], fun j => j ≤ (n - 1).toNat, fun j => (n - 1).toNat - j, 0⟩] (bodyOf Try.f15) 0 64 (envP (mks [.v, .v, .v] [.v (.int .u64 q), .v (.agg (AV m)), .v (.int .i64 n)] 0).1 0) (mks [.v, .v, .v] [.v (.int .u64 q), .v (.agg (AV m)), .v (.int .i64 n)] 0).2 (retP Try.prog Try.f15.results.toList 0 (p_rnew O Y q (AV m) n [true])) :=
  Eq.mpr (by kernel_rfl) (vc_rnew_t O Y q m n F hy h2 h3 hb)
set_option maxHeartbeats 4000000 in
theorem vc_rnew_f (O : OO) (Y : OY) (q : Int) (m : Nat → Int) (n : Int) (F : FO O) (hy : Y = yO O) (h2 : inU q 18446744073709551616 = true) (h3 : O.isH (AV m) = true) (hb : (newB O q n) = false) :
  If (inU q 18446744073709551616)
    (If (!O.pright q) ((SV.v (Value.agg (Array.mk [Value.slice none 0 0, Value.slice none 0 0])) = SV.agg [SV.row 0, SV.row 1] ∧ Value.bool false = Value.bool true) ∧ True ∧ False)
      (If (iBeq q 1) ((SV.v (Value.agg (Array.mk [Value.slice none 0 0, Value.slice none 0 0])) = SV.agg [SV.row 0, SV.row 1] ∧ Value.bool false = Value.bool true) ∧ True ∧ False)
        (If (iLt n 1) ((SV.v (Value.agg (Array.mk [Value.slice none 0 0, Value.slice none 0 0])) = SV.agg [SV.row 0, SV.row 1] ∧ Value.bool false = Value.bool true) ∧ True ∧ False)
          (If (iLt 8 n) ((SV.v (Value.agg (Array.mk [Value.slice none 0 0, Value.slice none 0 0])) = SV.agg [SV.row 0, SV.row 1] ∧ Value.bool false = Value.bool true) ∧ True ∧ False)
            ((∃ (x : Nat),
                x ≤ (iSub n 1).toNat ∧
                  (Value.int IntKind.i64 0 = Value.int IntKind.i64 (iOf x) ∧ Value.int IntKind.u64 q = Value.int IntKind.u64 q ∧ Value.int IntKind.i64 n = Value.int IntKind.i64 n ∧ True) ∧
                    EqI [] (drawsO O (ByteArray.mk (Array.mk [98, 108, 105, 110, 100])) (intsA (Array.mk (List.map (Value.int IntKind.u8) (tabI m 32)))) x) ∧
                      Array.mk [Value.slice none 0 0, Value.slice none 0 0] = Array.mk [Value.slice none 0 0, Value.slice none 0 0] ∧
                        Array.mk (List.map (Value.int IntKind.u8) (tabI m 32)) = Array.mk (List.map (Value.int IntKind.u8) (tabI m 32)) ∧ True) ∧
              ∀ (x : Nat),
                x ≤ (iSub n 1).toNat →
                  If (iLt (iOf x) (IntKind.i64.wrap (iSub n 1)))
                    (If
                      (decide
                        (O.isH
                            (Array.mk
                              (List.map (Value.int IntKind.u8)
                                (tabI
                                  (O.tag (ByteArray.mk (Array.mk [98, 108, 105, 110, 100]))
                                    [[m 0, m 1, m 2, m 3, m 4, m 5, m 6, m 7, m 8, m 9, m 10, m 11, m 12, m 13, m 14, m 15, m 16, m 17, m 18, m 19, m 20, m 21, m 22, m 23, m 24, m 25, m 26, m 27, m 28,
                                        m 29, m 30, m 31],
                                      [IntKind.u8.wrap (iOf x)]])
                                  32))) =
                          true))
                      (If
                        ((nMul
                                (nAdd (drawsO O (ByteArray.mk (Array.mk [98, 108, 105, 110, 100])) (intsA (Array.mk (List.map (Value.int IntKind.u8) (tabI m 32)))) x).length
                                  [O.ffrom
                                        (Array.mk
                                          (List.map (Value.int IntKind.u8)
                                            (tabI
                                              (O.tag (ByteArray.mk (Array.mk [98, 108, 105, 110, 100]))
                                                [[m 0, m 1, m 2, m 3, m 4, m 5, m 6, m 7, m 8, m 9, m 10, m 11, m 12, m 13, m 14, m 15, m 16, m 17, m 18, m 19, m 20, m 21, m 22, m 23, m 24, m 25, m 26,
                                                    m 27, m 28, m 29, m 30, m 31],
                                                  [IntKind.u8.wrap (iOf x)]])
                                              32)))].length)
                                8).ble
                            140737488355328 &&
                          (nAdd (drawsO O (ByteArray.mk (Array.mk [98, 108, 105, 110, 100])) (intsA (Array.mk (List.map (Value.int IntKind.u8) (tabI m 32)))) x).length
                                [O.ffrom
                                      (Array.mk
                                        (List.map (Value.int IntKind.u8)
                                          (tabI
                                            (O.tag (ByteArray.mk (Array.mk [98, 108, 105, 110, 100]))
                                              [[m 0, m 1, m 2, m 3, m 4, m 5, m 6, m 7, m 8, m 9, m 10, m 11, m 12, m 13, m 14, m 15, m 16, m 17, m 18, m 19, m 20, m 21, m 22, m 23, m 24, m 25, m 26,
                                                  m 27, m 28, m 29, m 30, m 31],
                                                [IntKind.u8.wrap (iOf x)]])
                                            32)))].length).ble
                            9223372036854775807)
                        (∃ (x' : Nat),
                          x' ≤ (iSub n 1).toNat ∧
                            (nSub (iSub n 1).toNat x').succ ≤ nSub (iSub n 1).toNat x ∧
                              (Value.int IntKind.i64 (IntKind.i64.wrap (iAdd (iOf x) 1)) = Value.int IntKind.i64 (iOf x') ∧
                                  Value.int IntKind.u64 q = Value.int IntKind.u64 q ∧ Value.int IntKind.i64 n = Value.int IntKind.i64 n ∧ True) ∧
                                EqI
                                    (app (drawsO O (ByteArray.mk (Array.mk [98, 108, 105, 110, 100])) (intsA (Array.mk (List.map (Value.int IntKind.u8) (tabI m 32)))) x)
                                      [O.ffrom
                                          (Array.mk
                                            (List.map (Value.int IntKind.u8)
                                              (tabI
                                                (O.tag (ByteArray.mk (Array.mk [98, 108, 105, 110, 100]))
                                                  [[m 0, m 1, m 2, m 3, m 4, m 5, m 6, m 7, m 8, m 9, m 10, m 11, m 12, m 13, m 14, m 15, m 16, m 17, m 18, m 19, m 20, m 21, m 22, m 23, m 24, m 25,
                                                      m 26, m 27, m 28, m 29, m 30, m 31],
                                                    [IntKind.u8.wrap (iOf x)]])
                                                32)))])
                                    (drawsO O (ByteArray.mk (Array.mk [98, 108, 105, 110, 100])) (intsA (Array.mk (List.map (Value.int IntKind.u8) (tabI m 32)))) x') ∧
                                  Array.mk [Value.slice none 0 0, Value.slice none 0 0] = Array.mk [Value.slice none 0 0, Value.slice none 0 0] ∧
                                    Array.mk (List.map (Value.int IntKind.u8) (tabI m 32)) = Array.mk (List.map (Value.int IntKind.u8) (tabI m 32)) ∧ True)
                        False)
                      False)
                    (If
                      (inU q 18446744073709551616 &&
                          inUs 18446744073709551616 (drawsO O (ByteArray.mk (Array.mk [98, 108, 105, 110, 100])) (intsA (Array.mk (List.map (Value.int IntKind.u8) (tabI m 32)))) x) &&
                        (drawsO O (ByteArray.mk (Array.mk [98, 108, 105, 110, 100])) (intsA (Array.mk (List.map (Value.int IntKind.u8) (tabI m 32)))) x).length.ble 1000)
                      (If (frB O q (iOf (drawsO O (ByteArray.mk (Array.mk [98, 108, 105, 110, 100])) (intsA (Array.mk (List.map (Value.int IntKind.u8) (tabI m 32)))) x).length))
                        ((SV.v (Value.slice none 0 0) = SV.row 0 ∧ Value.bool true = Value.bool true) ∧ True ∧ False)
                        (Value.bool true = Value.bool true ∧
                          True ∧
                            EqI
                                (rfromO O q (drawsO O (ByteArray.mk (Array.mk [98, 108, 105, 110, 100])) (intsA (Array.mk (List.map (Value.int IntKind.u8) (tabI m 32)))) x)
                                  (nAdd (drawsO O (ByteArray.mk (Array.mk [98, 108, 105, 110, 100])) (intsA (Array.mk (List.map (Value.int IntKind.u8) (tabI m 32)))) x).length 1))
                                (rfromO O q (blindsO O (Array.mk (List.map (Value.int IntKind.u8) (tabI m 32))) n)
                                  (nAdd (blindsO O (Array.mk (List.map (Value.int IntKind.u8) (tabI m 32))) n).length 1)) ∧
                              EqI (drawsO O (ByteArray.mk (Array.mk [98, 108, 105, 110, 100])) (intsA (Array.mk (List.map (Value.int IntKind.u8) (tabI m 32)))) x)
                                  (blindsO O (Array.mk (List.map (Value.int IntKind.u8) (tabI m 32))) n) ∧
                                True))
                      False))))))
    False := by
  simp only [Sx.app, Sx.nAdd, Sx.nSub, Sx.nMul, Sx.nPow, Sx.nDiv, Sx.nMod, Sx.iAdd, Sx.iSub, Sx.iMul, Sx.iNeg, Sx.iPow, Sx.iOf]
  obtain ⟨hq, hq1, hn1, hn8, k1, k8⟩ := newB_no hb
  have hw : IntKind.i64.wrap (n - 1) = n - 1 := IntWalk.i64_in _ (by omega)
  have eL : [m 0, m 1, m 2, m 3, m 4, m 5, m 6, m 7, m 8, m 9, m 10, m 11, m 12, m 13, m 14, m 15, m 16, m 17, m 18, m 19, m 20, m 21, m 22, m 23, m 24, m 25, m 26, m 27, m 28, m 29, m 30, m 31] = intsA (AV m) := by kernel_rfl
  have eA : Array.mk (List.map (Value.int IntKind.u8) (tabI m 32)) = AV m := rfl
  have eb : blindsO O (AV m) n = drawsO O blindB (intsA (AV m)) (n - 1).toNat := rfl
  have es : ByteArray.mk (Array.mk [98, 108, 105, 110, 100]) = blindB := rfl
  simp only [eA, hw, eL, eb, es]
  refine Sx.if_true h2 (Sx.if_false (by rw [hq]; rfl) (Sx.if_false hq1 (Sx.if_false hn1 (Sx.if_false hn8 ?_))))
  generalize intsA (AV m) = L
  refine ⟨⟨0, Nat.zero_le _, ⟨rfl, (by first | rfl | trivial)⟩, rfl, (by first | rfl | trivial)⟩, fun x hx => Sx.if_both (fun h => ?_) (fun h => ?_)⟩
  · simp only [Bool.and_eq_true, Bool.or_eq_true, Sx.iLt_t, Sx.iLt_f, Sx.iLe_t, Sx.iLe_f, Sx.iEq_t, Sx.iEq_f, Sx.iBeq_t, Sx.iBeq_f, Sx.iBne_t, Sx.iBne_f, Nat.ble_eq, Nat.beq_eq, Sx.Cont.n] at h
    have hlt : x < (n - 1).toNat := by omega
    exact Sx.if_true (by rw [decide_eq_true_eq]; exact F.tH _ _) (Sx.if_true (by simp only [Bool.and_eq_true, Bool.or_eq_true, Sx.iLt_t, Sx.iLt_f, Sx.iLe_t, Sx.iLe_f, Sx.iEq_t, Sx.iEq_f, Sx.iBeq_t, Sx.iBeq_f, Sx.iBne_t, Sx.iBne_f, Nat.ble_eq, Nat.beq_eq, Sx.Cont.n, drawsO_len, List.length_cons, List.length_nil]; omega) ⟨x + 1, hlt, by omega, ⟨by rw [wrap_succ (by omega)], (by first | rfl | trivial)⟩, (drawsO_succ _ _ _ _).symm, (by first | rfl | trivial)⟩)
  · simp only [Bool.and_eq_true, Bool.or_eq_true, Sx.iLt_t, Sx.iLt_f, Sx.iLe_t, Sx.iLe_f, Sx.iEq_t, Sx.iEq_f, Sx.iBeq_t, Sx.iBeq_f, Sx.iBne_t, Sx.iBne_f, Nat.ble_eq, Nat.beq_eq, Sx.Cont.n] at h
    have hx2 : x = (n - 1).toNat := by omega
    subst hx2
    exact Sx.if_true (by rw [h2, drawsO_in F, drawsO_len]; simp only [Bool.and_eq_true, Bool.or_eq_true, Sx.iLt_t, Sx.iLt_f, Sx.iLe_t, Sx.iLe_f, Sx.iEq_t, Sx.iEq_f, Sx.iBeq_t, Sx.iBeq_f, Sx.iBne_t, Sx.iBne_f, Nat.ble_eq, Nat.beq_eq, Sx.Cont.n, Bool.true_and]; omega) (Sx.if_false (frB_of hq (by rw [drawsO_len]; omega)) ⟨trivial, trivial, rfl, rfl, trivial⟩)
theorem wpc_rnew_f (O : OO) (Y : OY) (q : Int) (m : Nat → Int) (n : Int) (F : FO O) (hy : Y = yO O) (h2 : inU q 18446744073709551616 = true) (h3 : O.isH (AV m) = true) (hb : (newB O q n) = false) : wpcI Try.prog (spP1 O Y) Try.f15.ntmps [⟨Nat, [0, 2, 4, 6, 9], [(200009, 23, .ints .u64 [])], fun B j => [(10, .v (.int .i64 (j : Int)))], fun B j => [(B, .own 23 (.ints .u64 (drawsO O blindB (intsA (AV m)) j)))], fun j => j ≤ (n - 1).toNat, fun j => (n - 1).toNat - j, 0⟩] (bodyOf Try.f15) 0 64 (envP (mks [.v, .v, .v] [.v (.int .u64 q), .v (.agg (AV m)), .v (.int .i64 n)] 0).1 0) (mks [.v, .v, .v] [.v (.int .u64 q), .v (.agg (AV m)), .v (.int .i64 n)] 0).2 (retP Try.prog Try.f15.results.toList 0 (p_rnew O Y q (AV m) n [false])) :=
  Eq.mpr (by kernel_rfl) (vc_rnew_f O Y q m n F hy h2 h3 hb)
theorem ok_rnew (I : Sx.Interp) (O : OO) (hO : O = oo) (Y : OY) (hY : Y = yO O) : Sx.SpecOK I Try.prog 15 (pspec [.v, .v, .v] false (g_rnew O Y)) := by
  refine spec_patI (spP1_ok I O hO Y hY) (by kernel_rfl) (fun ds => match ds with | [.v (.int .u64 q), .v (.agg b), .v (.int .i64 n)] => [⟨Nat, [0, 2, 4, 6, 9], [(200009, 23, .ints .u64 [])], fun B j => [(10, .v (.int .i64 (j : Int)))], fun B j => [(B, .own 23 (.ints .u64 (drawsO O blindB (intsA b) j)))], fun j => j ≤ (n - 1).toNat, fun j => (n - 1).toNat - j, 0⟩] | _ => []) Try.func15 (by kernel_rfl) (by kernel_rfl) rfl Try.ntmps15 (by decide) ?_ ?_
  · intro ds p bs F h
    unfold g_rnew at h
    split at h
    · rename_i q b n
      simp only [Option.some.injEq, Prod.mk.injEq] at h
      obtain ⟨_, rfl, rfl⟩ := h
      generalize (newB O q n) = t
      cases t <;> kernel_rfl
    · cases h
  · intro ds bs F hl h
    unfold g_rnew at h
    split at h
    · rename_i q b n
      simp only [Option.some.injEq, Prod.mk.injEq, Bool.and_eq_true] at h
      obtain ⟨⟨h2, h3⟩, rfl, rfl⟩ := h
      obtain ⟨m, rfl⟩ := isH_AV (by subst hO; exact h3 : isHa b = true)
      cases hb : (newB O q n) with
      | true => exact (wpc_rnew_t O Y q m n (fo_oo O hO) hY h2 h3 hb)
      | false => exact (wpc_rnew_f O Y q m n (fo_oo O hO) hY h2 h3 hb)
    · cases h
def p_pparts (O : OO) (Y : OY) (a n : Int) (bs : List Bool) : Post := match bs with
  | [true] => ⟨[.v (.slice none 0 0)], []⟩
  | _ => ⟨[.row 0], [(0, .own 23 (.ints .u64 (partsO O (b8 (O.fadd 0 a)) a n)))]⟩
def g_pparts (O : OO) (Y : OY) (ds : List Dt) : Option (Bool × List Bool × (List Bool → Post)) := match ds with
  | [.v (.int .u64 a), .v (.int .i64 n)] => some ((inU a 18446744073709551616), [prtB n], p_pparts O Y a n)
  | _ => none
set_option maxHeartbeats 4000000 in
theorem vc_pparts_t (O : OO) (Y : OY) (a n : Int) (F : FO O) (hy : Y = yO O) (h2 : inU a 18446744073709551616 = true) (hb : (prtB n) = true) :
  If (iLt n 1) (True ∧ True)
    (If (iLt 8 n) (True ∧ True)
      (If (inUs 18446744073709551616 [a] && [a].length.ble 1000)
        (If (Nat.beq 1 1 && (iLe 0 0 && iLe 0 n && iLe (iMul (iOf 8) n) 281474976710656 && iLe n 9223372036854775807))
          ((∃ (x : Nat),
              x ≤ (iSub n 1).toNat ∧
                (Value.int IntKind.i64 0 = Value.int IntKind.i64 (iOf x) ∧
                    Value.int IntKind.u64 a = Value.int IntKind.u64 a ∧ Value.int IntKind.i64 (IntKind.i64.wrap (iSub n 1)) = Value.int IntKind.i64 (IntKind.i64.wrap (iSub n 1)) ∧ True) ∧
                  EqI (List.replicate 0 0) (drawsO O (ByteArray.mk (Array.mk [112, 97, 114, 116])) (b8 (O.fadd 0 a)) x) ∧
                    Array.mk
                          ([Value.int IntKind.u8 (IntKind.u8.wrap ((sumO O [a]).fdiv (iPow 2 56))), Value.int IntKind.u8 (IntKind.u8.wrap ((sumO O [a]).fdiv (iPow 2 48))),
                                Value.int IntKind.u8 (IntKind.u8.wrap ((sumO O [a]).fdiv (iPow 2 40))), Value.int IntKind.u8 (IntKind.u8.wrap ((sumO O [a]).fdiv (iPow 2 32))),
                                Value.int IntKind.u8 (IntKind.u8.wrap ((sumO O [a]).fdiv (iPow 2 24))), Value.int IntKind.u8 (IntKind.u8.wrap ((sumO O [a]).fdiv (iPow 2 16))),
                                Value.int IntKind.u8 (IntKind.u8.wrap ((sumO O [a]).fdiv (iPow 2 8))), Value.int IntKind.u8 0].set
                            7 (Value.int IntKind.u8 (IntKind.u8.wrap ((sumO O [a]).fdiv (iPow 2 0))))) =
                        Array.mk
                          ([Value.int IntKind.u8 (IntKind.u8.wrap ((sumO O [a]).fdiv (iPow 2 56))), Value.int IntKind.u8 (IntKind.u8.wrap ((sumO O [a]).fdiv (iPow 2 48))),
                                Value.int IntKind.u8 (IntKind.u8.wrap ((sumO O [a]).fdiv (iPow 2 40))), Value.int IntKind.u8 (IntKind.u8.wrap ((sumO O [a]).fdiv (iPow 2 32))),
                                Value.int IntKind.u8 (IntKind.u8.wrap ((sumO O [a]).fdiv (iPow 2 24))), Value.int IntKind.u8 (IntKind.u8.wrap ((sumO O [a]).fdiv (iPow 2 16))),
                                Value.int IntKind.u8 (IntKind.u8.wrap ((sumO O [a]).fdiv (iPow 2 8))), Value.int IntKind.u8 0].set
                            7 (Value.int IntKind.u8 (IntKind.u8.wrap ((sumO O [a]).fdiv (iPow 2 0))))) ∧
                      True) ∧
            ∀ (x : Nat),
              x ≤ (iSub n 1).toNat →
                If (iLt (iOf x) (IntKind.i64.wrap (iSub n 1)))
                  (If
                    ((nMul
                            (nAdd (drawsO O (ByteArray.mk (Array.mk [112, 97, 114, 116])) (b8 (O.fadd 0 a)) x).length
                              [drawO O (ByteArray.mk (Array.mk [112, 97, 114, 116]))
                                    [IntKind.u8.wrap ((sumO O [a]).fdiv (iPow 2 56)), IntKind.u8.wrap ((sumO O [a]).fdiv (iPow 2 48)), IntKind.u8.wrap ((sumO O [a]).fdiv (iPow 2 40)),
                                      IntKind.u8.wrap ((sumO O [a]).fdiv (iPow 2 32)), IntKind.u8.wrap ((sumO O [a]).fdiv (iPow 2 24)), IntKind.u8.wrap ((sumO O [a]).fdiv (iPow 2 16)),
                                      IntKind.u8.wrap ((sumO O [a]).fdiv (iPow 2 8)), IntKind.u8.wrap ((sumO O [a]).fdiv (iPow 2 0))]
                                    (iOf x)].length)
                            8).ble
                        140737488355328 &&
                      (nAdd (drawsO O (ByteArray.mk (Array.mk [112, 97, 114, 116])) (b8 (O.fadd 0 a)) x).length
                            [drawO O (ByteArray.mk (Array.mk [112, 97, 114, 116]))
                                  [IntKind.u8.wrap ((sumO O [a]).fdiv (iPow 2 56)), IntKind.u8.wrap ((sumO O [a]).fdiv (iPow 2 48)), IntKind.u8.wrap ((sumO O [a]).fdiv (iPow 2 40)),
                                    IntKind.u8.wrap ((sumO O [a]).fdiv (iPow 2 32)), IntKind.u8.wrap ((sumO O [a]).fdiv (iPow 2 24)), IntKind.u8.wrap ((sumO O [a]).fdiv (iPow 2 16)),
                                    IntKind.u8.wrap ((sumO O [a]).fdiv (iPow 2 8)), IntKind.u8.wrap ((sumO O [a]).fdiv (iPow 2 0))]
                                  (iOf x)].length).ble
                        9223372036854775807)
                    (∃ (x' : Nat),
                      x' ≤ (iSub n 1).toNat ∧
                        (nSub (iSub n 1).toNat x').succ ≤ nSub (iSub n 1).toNat x ∧
                          (Value.int IntKind.i64 (IntKind.i64.wrap (iAdd (iOf x) 1)) = Value.int IntKind.i64 (iOf x') ∧
                              Value.int IntKind.u64 a = Value.int IntKind.u64 a ∧ Value.int IntKind.i64 (IntKind.i64.wrap (iSub n 1)) = Value.int IntKind.i64 (IntKind.i64.wrap (iSub n 1)) ∧ True) ∧
                            EqI
                                (app (drawsO O (ByteArray.mk (Array.mk [112, 97, 114, 116])) (b8 (O.fadd 0 a)) x)
                                  [drawO O (ByteArray.mk (Array.mk [112, 97, 114, 116]))
                                      [IntKind.u8.wrap ((sumO O [a]).fdiv (iPow 2 56)), IntKind.u8.wrap ((sumO O [a]).fdiv (iPow 2 48)), IntKind.u8.wrap ((sumO O [a]).fdiv (iPow 2 40)),
                                        IntKind.u8.wrap ((sumO O [a]).fdiv (iPow 2 32)), IntKind.u8.wrap ((sumO O [a]).fdiv (iPow 2 24)), IntKind.u8.wrap ((sumO O [a]).fdiv (iPow 2 16)),
                                        IntKind.u8.wrap ((sumO O [a]).fdiv (iPow 2 8)), IntKind.u8.wrap ((sumO O [a]).fdiv (iPow 2 0))]
                                      (iOf x)])
                                (drawsO O (ByteArray.mk (Array.mk [112, 97, 114, 116])) (b8 (O.fadd 0 a)) x') ∧
                              Array.mk
                                    ([Value.int IntKind.u8 (IntKind.u8.wrap ((sumO O [a]).fdiv (iPow 2 56))), Value.int IntKind.u8 (IntKind.u8.wrap ((sumO O [a]).fdiv (iPow 2 48))),
                                          Value.int IntKind.u8 (IntKind.u8.wrap ((sumO O [a]).fdiv (iPow 2 40))), Value.int IntKind.u8 (IntKind.u8.wrap ((sumO O [a]).fdiv (iPow 2 32))),
                                          Value.int IntKind.u8 (IntKind.u8.wrap ((sumO O [a]).fdiv (iPow 2 24))), Value.int IntKind.u8 (IntKind.u8.wrap ((sumO O [a]).fdiv (iPow 2 16))),
                                          Value.int IntKind.u8 (IntKind.u8.wrap ((sumO O [a]).fdiv (iPow 2 8))), Value.int IntKind.u8 0].set
                                      7 (Value.int IntKind.u8 (IntKind.u8.wrap ((sumO O [a]).fdiv (iPow 2 0))))) =
                                  Array.mk
                                    ([Value.int IntKind.u8 (IntKind.u8.wrap ((sumO O [a]).fdiv (iPow 2 56))), Value.int IntKind.u8 (IntKind.u8.wrap ((sumO O [a]).fdiv (iPow 2 48))),
                                          Value.int IntKind.u8 (IntKind.u8.wrap ((sumO O [a]).fdiv (iPow 2 40))), Value.int IntKind.u8 (IntKind.u8.wrap ((sumO O [a]).fdiv (iPow 2 32))),
                                          Value.int IntKind.u8 (IntKind.u8.wrap ((sumO O [a]).fdiv (iPow 2 24))), Value.int IntKind.u8 (IntKind.u8.wrap ((sumO O [a]).fdiv (iPow 2 16))),
                                          Value.int IntKind.u8 (IntKind.u8.wrap ((sumO O [a]).fdiv (iPow 2 8))), Value.int IntKind.u8 0].set
                                      7 (Value.int IntKind.u8 (IntKind.u8.wrap ((sumO O [a]).fdiv (iPow 2 0))))) ∧
                                True)
                    False)
                  (If
                    (inUs 18446744073709551616 (drawsO O (ByteArray.mk (Array.mk [112, 97, 114, 116])) (b8 (O.fadd 0 a)) x) &&
                      (drawsO O (ByteArray.mk (Array.mk [112, 97, 114, 116])) (b8 (O.fadd 0 a)) x).length.ble 1000)
                    (If (inU a 18446744073709551616 && inU (sumO O (drawsO O (ByteArray.mk (Array.mk [112, 97, 114, 116])) (b8 (O.fadd 0 a)) x)) 18446744073709551616)
                      (If
                        ((nMul
                                (nAdd (drawsO O (ByteArray.mk (Array.mk [112, 97, 114, 116])) (b8 (O.fadd 0 a)) x).length
                                  [O.fsub a (sumO O (drawsO O (ByteArray.mk (Array.mk [112, 97, 114, 116])) (b8 (O.fadd 0 a)) x))].length)
                                8).ble
                            140737488355328 &&
                          (nAdd (drawsO O (ByteArray.mk (Array.mk [112, 97, 114, 116])) (b8 (O.fadd 0 a)) x).length
                                [O.fsub a (sumO O (drawsO O (ByteArray.mk (Array.mk [112, 97, 114, 116])) (b8 (O.fadd 0 a)) x))].length).ble
                            9223372036854775807)
                        False False)
                      False)
                    False))
          False)
        False)) := by
  unfold prtB at hb
  refine Sx.if_both (fun _ => (by first | rfl | trivial)) (fun e1 => Sx.if_both (fun _ => (by first | rfl | trivial)) (fun e2 => ?_))
  rw [e1, e2] at hb
  exact absurd hb (by decide)
theorem wpc_pparts_t (O : OO) (Y : OY) (a n : Int) (F : FO O) (hy : Y = yO O) (h2 : inU a 18446744073709551616 = true) (hb : (prtB n) = true) : wpcI Try.prog (spP1 O Y) Try.f26.ntmps [Ann.walk 9, ⟨Nat, [0, 5, 34], [(8, 23, .ints .u64 [])], fun B j => [(8, .row B), (35, .v (.int .i64 (j : Int)))], fun B j => [(B, .own 23 (.ints .u64 (drawsO O partB (b8 (O.fadd 0 a)) j)))], fun j => j ≤ (n - 1).toNat, fun j => (n - 1).toNat - j, 0⟩] (bodyOf Try.f26) 0 64 (envP (mks [.v, .v] [.v (.int .u64 a), .v (.int .i64 n)] 0).1 0) (mks [.v, .v] [.v (.int .u64 a), .v (.int .i64 n)] 0).2 (retP Try.prog Try.f26.results.toList 0 (p_pparts O Y a n [true])) :=
  Eq.mpr (by kernel_rfl) (vc_pparts_t O Y a n F hy h2 hb)
set_option maxHeartbeats 4000000 in
theorem vc_pparts_f (O : OO) (Y : OY) (a n : Int) (F : FO O) (hy : Y = yO O) (h2 : inU a 18446744073709551616 = true) (hb : (prtB n) = false) :
  If (iLt n 1) (SV.v (Value.slice none 0 0) = SV.row 0 ∧ True ∧ False)
    (If (iLt 8 n) (SV.v (Value.slice none 0 0) = SV.row 0 ∧ True ∧ False)
      (If (inUs 18446744073709551616 [a] && [a].length.ble 1000)
        (If (Nat.beq 1 1 && (iLe 0 0 && iLe 0 n && iLe (iMul (iOf 8) n) 281474976710656 && iLe n 9223372036854775807))
          ((∃ (x : Nat),
              x ≤ (iSub n 1).toNat ∧
                (Value.int IntKind.i64 0 = Value.int IntKind.i64 (iOf x) ∧
                    Value.int IntKind.u64 a = Value.int IntKind.u64 a ∧ Value.int IntKind.i64 (IntKind.i64.wrap (iSub n 1)) = Value.int IntKind.i64 (IntKind.i64.wrap (iSub n 1)) ∧ True) ∧
                  EqI (List.replicate 0 0) (drawsO O (ByteArray.mk (Array.mk [112, 97, 114, 116])) (b8 (O.fadd 0 a)) x) ∧
                    Array.mk
                          ([Value.int IntKind.u8 (IntKind.u8.wrap ((sumO O [a]).fdiv (iPow 2 56))), Value.int IntKind.u8 (IntKind.u8.wrap ((sumO O [a]).fdiv (iPow 2 48))),
                                Value.int IntKind.u8 (IntKind.u8.wrap ((sumO O [a]).fdiv (iPow 2 40))), Value.int IntKind.u8 (IntKind.u8.wrap ((sumO O [a]).fdiv (iPow 2 32))),
                                Value.int IntKind.u8 (IntKind.u8.wrap ((sumO O [a]).fdiv (iPow 2 24))), Value.int IntKind.u8 (IntKind.u8.wrap ((sumO O [a]).fdiv (iPow 2 16))),
                                Value.int IntKind.u8 (IntKind.u8.wrap ((sumO O [a]).fdiv (iPow 2 8))), Value.int IntKind.u8 0].set
                            7 (Value.int IntKind.u8 (IntKind.u8.wrap ((sumO O [a]).fdiv (iPow 2 0))))) =
                        Array.mk
                          ([Value.int IntKind.u8 (IntKind.u8.wrap ((sumO O [a]).fdiv (iPow 2 56))), Value.int IntKind.u8 (IntKind.u8.wrap ((sumO O [a]).fdiv (iPow 2 48))),
                                Value.int IntKind.u8 (IntKind.u8.wrap ((sumO O [a]).fdiv (iPow 2 40))), Value.int IntKind.u8 (IntKind.u8.wrap ((sumO O [a]).fdiv (iPow 2 32))),
                                Value.int IntKind.u8 (IntKind.u8.wrap ((sumO O [a]).fdiv (iPow 2 24))), Value.int IntKind.u8 (IntKind.u8.wrap ((sumO O [a]).fdiv (iPow 2 16))),
                                Value.int IntKind.u8 (IntKind.u8.wrap ((sumO O [a]).fdiv (iPow 2 8))), Value.int IntKind.u8 0].set
                            7 (Value.int IntKind.u8 (IntKind.u8.wrap ((sumO O [a]).fdiv (iPow 2 0))))) ∧
                      True) ∧
            ∀ (x : Nat),
              x ≤ (iSub n 1).toNat →
                If (iLt (iOf x) (IntKind.i64.wrap (iSub n 1)))
                  (If
                    ((nMul
                            (nAdd (drawsO O (ByteArray.mk (Array.mk [112, 97, 114, 116])) (b8 (O.fadd 0 a)) x).length
                              [drawO O (ByteArray.mk (Array.mk [112, 97, 114, 116]))
                                    [IntKind.u8.wrap ((sumO O [a]).fdiv (iPow 2 56)), IntKind.u8.wrap ((sumO O [a]).fdiv (iPow 2 48)), IntKind.u8.wrap ((sumO O [a]).fdiv (iPow 2 40)),
                                      IntKind.u8.wrap ((sumO O [a]).fdiv (iPow 2 32)), IntKind.u8.wrap ((sumO O [a]).fdiv (iPow 2 24)), IntKind.u8.wrap ((sumO O [a]).fdiv (iPow 2 16)),
                                      IntKind.u8.wrap ((sumO O [a]).fdiv (iPow 2 8)), IntKind.u8.wrap ((sumO O [a]).fdiv (iPow 2 0))]
                                    (iOf x)].length)
                            8).ble
                        140737488355328 &&
                      (nAdd (drawsO O (ByteArray.mk (Array.mk [112, 97, 114, 116])) (b8 (O.fadd 0 a)) x).length
                            [drawO O (ByteArray.mk (Array.mk [112, 97, 114, 116]))
                                  [IntKind.u8.wrap ((sumO O [a]).fdiv (iPow 2 56)), IntKind.u8.wrap ((sumO O [a]).fdiv (iPow 2 48)), IntKind.u8.wrap ((sumO O [a]).fdiv (iPow 2 40)),
                                    IntKind.u8.wrap ((sumO O [a]).fdiv (iPow 2 32)), IntKind.u8.wrap ((sumO O [a]).fdiv (iPow 2 24)), IntKind.u8.wrap ((sumO O [a]).fdiv (iPow 2 16)),
                                    IntKind.u8.wrap ((sumO O [a]).fdiv (iPow 2 8)), IntKind.u8.wrap ((sumO O [a]).fdiv (iPow 2 0))]
                                  (iOf x)].length).ble
                        9223372036854775807)
                    (∃ (x' : Nat),
                      x' ≤ (iSub n 1).toNat ∧
                        (nSub (iSub n 1).toNat x').succ ≤ nSub (iSub n 1).toNat x ∧
                          (Value.int IntKind.i64 (IntKind.i64.wrap (iAdd (iOf x) 1)) = Value.int IntKind.i64 (iOf x') ∧
                              Value.int IntKind.u64 a = Value.int IntKind.u64 a ∧ Value.int IntKind.i64 (IntKind.i64.wrap (iSub n 1)) = Value.int IntKind.i64 (IntKind.i64.wrap (iSub n 1)) ∧ True) ∧
                            EqI
                                (app (drawsO O (ByteArray.mk (Array.mk [112, 97, 114, 116])) (b8 (O.fadd 0 a)) x)
                                  [drawO O (ByteArray.mk (Array.mk [112, 97, 114, 116]))
                                      [IntKind.u8.wrap ((sumO O [a]).fdiv (iPow 2 56)), IntKind.u8.wrap ((sumO O [a]).fdiv (iPow 2 48)), IntKind.u8.wrap ((sumO O [a]).fdiv (iPow 2 40)),
                                        IntKind.u8.wrap ((sumO O [a]).fdiv (iPow 2 32)), IntKind.u8.wrap ((sumO O [a]).fdiv (iPow 2 24)), IntKind.u8.wrap ((sumO O [a]).fdiv (iPow 2 16)),
                                        IntKind.u8.wrap ((sumO O [a]).fdiv (iPow 2 8)), IntKind.u8.wrap ((sumO O [a]).fdiv (iPow 2 0))]
                                      (iOf x)])
                                (drawsO O (ByteArray.mk (Array.mk [112, 97, 114, 116])) (b8 (O.fadd 0 a)) x') ∧
                              Array.mk
                                    ([Value.int IntKind.u8 (IntKind.u8.wrap ((sumO O [a]).fdiv (iPow 2 56))), Value.int IntKind.u8 (IntKind.u8.wrap ((sumO O [a]).fdiv (iPow 2 48))),
                                          Value.int IntKind.u8 (IntKind.u8.wrap ((sumO O [a]).fdiv (iPow 2 40))), Value.int IntKind.u8 (IntKind.u8.wrap ((sumO O [a]).fdiv (iPow 2 32))),
                                          Value.int IntKind.u8 (IntKind.u8.wrap ((sumO O [a]).fdiv (iPow 2 24))), Value.int IntKind.u8 (IntKind.u8.wrap ((sumO O [a]).fdiv (iPow 2 16))),
                                          Value.int IntKind.u8 (IntKind.u8.wrap ((sumO O [a]).fdiv (iPow 2 8))), Value.int IntKind.u8 0].set
                                      7 (Value.int IntKind.u8 (IntKind.u8.wrap ((sumO O [a]).fdiv (iPow 2 0))))) =
                                  Array.mk
                                    ([Value.int IntKind.u8 (IntKind.u8.wrap ((sumO O [a]).fdiv (iPow 2 56))), Value.int IntKind.u8 (IntKind.u8.wrap ((sumO O [a]).fdiv (iPow 2 48))),
                                          Value.int IntKind.u8 (IntKind.u8.wrap ((sumO O [a]).fdiv (iPow 2 40))), Value.int IntKind.u8 (IntKind.u8.wrap ((sumO O [a]).fdiv (iPow 2 32))),
                                          Value.int IntKind.u8 (IntKind.u8.wrap ((sumO O [a]).fdiv (iPow 2 24))), Value.int IntKind.u8 (IntKind.u8.wrap ((sumO O [a]).fdiv (iPow 2 16))),
                                          Value.int IntKind.u8 (IntKind.u8.wrap ((sumO O [a]).fdiv (iPow 2 8))), Value.int IntKind.u8 0].set
                                      7 (Value.int IntKind.u8 (IntKind.u8.wrap ((sumO O [a]).fdiv (iPow 2 0))))) ∧
                                True)
                    False)
                  (If
                    (inUs 18446744073709551616 (drawsO O (ByteArray.mk (Array.mk [112, 97, 114, 116])) (b8 (O.fadd 0 a)) x) &&
                      (drawsO O (ByteArray.mk (Array.mk [112, 97, 114, 116])) (b8 (O.fadd 0 a)) x).length.ble 1000)
                    (If (inU a 18446744073709551616 && inU (sumO O (drawsO O (ByteArray.mk (Array.mk [112, 97, 114, 116])) (b8 (O.fadd 0 a)) x)) 18446744073709551616)
                      (If
                        ((nMul
                                (nAdd (drawsO O (ByteArray.mk (Array.mk [112, 97, 114, 116])) (b8 (O.fadd 0 a)) x).length
                                  [O.fsub a (sumO O (drawsO O (ByteArray.mk (Array.mk [112, 97, 114, 116])) (b8 (O.fadd 0 a)) x))].length)
                                8).ble
                            140737488355328 &&
                          (nAdd (drawsO O (ByteArray.mk (Array.mk [112, 97, 114, 116])) (b8 (O.fadd 0 a)) x).length
                                [O.fsub a (sumO O (drawsO O (ByteArray.mk (Array.mk [112, 97, 114, 116])) (b8 (O.fadd 0 a)) x))].length).ble
                            9223372036854775807)
                        (True ∧
                          EqI
                              (app (drawsO O (ByteArray.mk (Array.mk [112, 97, 114, 116])) (b8 (O.fadd 0 a)) x)
                                [O.fsub a (sumO O (drawsO O (ByteArray.mk (Array.mk [112, 97, 114, 116])) (b8 (O.fadd 0 a)) x))])
                              (partsO O (b8 (O.fadd 0 a)) a n) ∧
                            True)
                        False)
                      False)
                    False))
          False)
        False)) := by
  simp only [Sx.app, Sx.nAdd, Sx.nSub, Sx.nMul, Sx.nPow, Sx.nDiv, Sx.nMod, Sx.iAdd, Sx.iSub, Sx.iMul, Sx.iNeg, Sx.iPow, Sx.iOf]
  obtain ⟨hn1, hn8, k1, k8⟩ := prtB_no hb
  have hw : IntKind.i64.wrap (n - 1) = n - 1 := IntWalk.i64_in _ (by omega)
  have e1 : sumO O [a] = O.fadd 0 a := rfl
  have eL : [IntKind.u8.wrap ((O.fadd 0 a).fdiv (2 ^ 56)), IntKind.u8.wrap ((O.fadd 0 a).fdiv (2 ^ 48)), IntKind.u8.wrap ((O.fadd 0 a).fdiv (2 ^ 40)), IntKind.u8.wrap ((O.fadd 0 a).fdiv (2 ^ 32)), IntKind.u8.wrap ((O.fadd 0 a).fdiv (2 ^ 24)), IntKind.u8.wrap ((O.fadd 0 a).fdiv (2 ^ 16)), IntKind.u8.wrap ((O.fadd 0 a).fdiv (2 ^ 8)), IntKind.u8.wrap ((O.fadd 0 a).fdiv (2 ^ 0))] = b8 (O.fadd 0 a) := rfl
  have es : ByteArray.mk (Array.mk [112, 97, 114, 116]) = partB := rfl
  simp only [e1, hw, eL, es]
  refine Sx.if_false hn1 (Sx.if_false hn8 (Sx.if_true (by rw [show inUs 18446744073709551616 [a] = true by simp only [inUs, List.all_cons, List.all_nil, h2]; rfl]; rfl) (Sx.if_true (by simp only [Bool.and_eq_true, Bool.or_eq_true, Sx.iLt_t, Sx.iLt_f, Sx.iLe_t, Sx.iLe_f, Sx.iEq_t, Sx.iEq_f, Sx.iBeq_t, Sx.iBeq_f, Sx.iBne_t, Sx.iBne_f, Nat.ble_eq, Nat.beq_eq, Sx.Cont.n, mul8, true_and, and_true]; omega) ?_)))
  generalize b8 (O.fadd 0 a) = L
  refine ⟨⟨0, Nat.zero_le _, ⟨rfl, (by first | rfl | trivial)⟩, rfl, (by first | rfl | trivial)⟩, fun x hx => Sx.if_both (fun h => ?_) (fun h => ?_)⟩
  · simp only [Bool.and_eq_true, Bool.or_eq_true, Sx.iLt_t, Sx.iLt_f, Sx.iLe_t, Sx.iLe_f, Sx.iEq_t, Sx.iEq_f, Sx.iBeq_t, Sx.iBeq_f, Sx.iBne_t, Sx.iBne_f, Nat.ble_eq, Nat.beq_eq, Sx.Cont.n] at h
    have hlt : x < (n - 1).toNat := by omega
    exact Sx.if_true (by simp only [Bool.and_eq_true, Bool.or_eq_true, Sx.iLt_t, Sx.iLt_f, Sx.iLe_t, Sx.iLe_f, Sx.iEq_t, Sx.iEq_f, Sx.iBeq_t, Sx.iBeq_f, Sx.iBne_t, Sx.iBne_f, Nat.ble_eq, Nat.beq_eq, Sx.Cont.n, drawsO_len, List.length_cons, List.length_nil]; omega) ⟨x + 1, hlt, by omega, ⟨by rw [wrap_succ (by omega)], (by first | rfl | trivial)⟩, (drawsO_succ _ _ _ _).symm, (by first | rfl | trivial)⟩
  · simp only [Bool.and_eq_true, Bool.or_eq_true, Sx.iLt_t, Sx.iLt_f, Sx.iLe_t, Sx.iLe_f, Sx.iEq_t, Sx.iEq_f, Sx.iBeq_t, Sx.iBeq_f, Sx.iBne_t, Sx.iBne_f, Nat.ble_eq, Nat.beq_eq, Sx.Cont.n] at h
    have hx2 : x = (n - 1).toNat := by omega
    subst hx2
    exact Sx.if_true (by rw [drawsO_in F, drawsO_len]; simp only [Bool.and_eq_true, Bool.or_eq_true, Sx.iLt_t, Sx.iLt_f, Sx.iLe_t, Sx.iLe_f, Sx.iEq_t, Sx.iEq_f, Sx.iBeq_t, Sx.iBeq_f, Sx.iBne_t, Sx.iBne_f, Nat.ble_eq, Nat.beq_eq, Sx.Cont.n, Bool.true_and]; omega) (Sx.if_true (by rw [h2, sum_in F]; rfl) (Sx.if_true (by simp only [Bool.and_eq_true, Bool.or_eq_true, Sx.iLt_t, Sx.iLt_f, Sx.iLe_t, Sx.iLe_f, Sx.iEq_t, Sx.iEq_f, Sx.iBeq_t, Sx.iBeq_f, Sx.iBne_t, Sx.iBne_f, Nat.ble_eq, Nat.beq_eq, Sx.Cont.n, drawsO_len, List.length_cons, List.length_nil]; omega) (by first | exact ⟨trivial, rfl, trivial⟩ | trivial)))
theorem wpc_pparts_f (O : OO) (Y : OY) (a n : Int) (F : FO O) (hy : Y = yO O) (h2 : inU a 18446744073709551616 = true) (hb : (prtB n) = false) : wpcI Try.prog (spP1 O Y) Try.f26.ntmps [Ann.walk 9, ⟨Nat, [0, 5, 34], [(8, 23, .ints .u64 [])], fun B j => [(8, .row B), (35, .v (.int .i64 (j : Int)))], fun B j => [(B, .own 23 (.ints .u64 (drawsO O partB (b8 (O.fadd 0 a)) j)))], fun j => j ≤ (n - 1).toNat, fun j => (n - 1).toNat - j, 0⟩] (bodyOf Try.f26) 0 64 (envP (mks [.v, .v] [.v (.int .u64 a), .v (.int .i64 n)] 0).1 0) (mks [.v, .v] [.v (.int .u64 a), .v (.int .i64 n)] 0).2 (retP Try.prog Try.f26.results.toList 0 (p_pparts O Y a n [false])) :=
  Eq.mpr (by kernel_rfl) (vc_pparts_f O Y a n F hy h2 hb)
theorem ok_pparts (I : Sx.Interp) (O : OO) (hO : O = oo) (Y : OY) (hY : Y = yO O) : Sx.SpecOK I Try.prog 26 (pspec [.v, .v] false (g_pparts O Y)) := by
  refine spec_patI (spP1_ok I O hO Y hY) (by kernel_rfl) (fun ds => match ds with | [.v (.int .u64 a), .v (.int .i64 n)] => [Ann.walk 9, ⟨Nat, [0, 5, 34], [(8, 23, .ints .u64 [])], fun B j => [(8, .row B), (35, .v (.int .i64 (j : Int)))], fun B j => [(B, .own 23 (.ints .u64 (drawsO O partB (b8 (O.fadd 0 a)) j)))], fun j => j ≤ (n - 1).toNat, fun j => (n - 1).toNat - j, 0⟩] | _ => []) Try.func26 (by kernel_rfl) (by kernel_rfl) rfl Try.ntmps26 (by decide) ?_ ?_
  · intro ds p bs F h
    unfold g_pparts at h
    split at h
    · rename_i a n
      simp only [Option.some.injEq, Prod.mk.injEq] at h
      obtain ⟨_, rfl, rfl⟩ := h
      generalize (prtB n) = t
      cases t <;> kernel_rfl
    · cases h
  · intro ds bs F hl h
    unfold g_pparts at h
    split at h
    · rename_i a n
      simp only [Option.some.injEq, Prod.mk.injEq, Bool.and_eq_true] at h
      obtain ⟨h2, rfl, rfl⟩ := h
      cases hb : (prtB n) with
      | true => exact (wpc_pparts_t O Y a n (fo_oo O hO) hY h2 hb)
      | false => exact (wpc_pparts_f O Y a n (fo_oo O hO) hY h2 hb)
    · cases h
def p_rparts (O : OO) (Y : OY) (a n : Int) (bs : List Bool) : Post := match bs with
  | [true] => ⟨[.v (.slice none 0 0)], []⟩
  | _ => ⟨[.row 0], [(0, .own 23 (.ints .u64 (partsO O (b8 (O.fadd a 0)) a n)))]⟩
def g_rparts (O : OO) (Y : OY) (ds : List Dt) : Option (Bool × List Bool × (List Bool → Post)) := match ds with
  | [.v (.int .u64 a), .v (.int .i64 n)] => some ((inU a 18446744073709551616), [prtB n], p_rparts O Y a n)
  | _ => none
set_option maxHeartbeats 4000000 in
theorem vc_rparts_t (O : OO) (Y : OY) (a n : Int) (F : FO O) (hy : Y = yO O) (h2 : inU a 18446744073709551616 = true) (hb : (prtB n) = true) :
  If (iLt n 1) (True ∧ True)
    (If (iLt 8 n) (True ∧ True)
      (If (inU a 18446744073709551616 && inU 0 18446744073709551616)
        ((∃ (x : Nat),
            x ≤ (iSub n 1).toNat ∧
              (Value.int IntKind.i64 0 = Value.int IntKind.i64 (iOf x) ∧ Value.int IntKind.u64 a = Value.int IntKind.u64 a ∧ Value.int IntKind.i64 n = Value.int IntKind.i64 n ∧ True) ∧
                EqI [] (drawsO O (ByteArray.mk (Array.mk [112, 97, 114, 116])) (b8 (O.fadd a 0)) x) ∧
                  EqI
                      (app
                        (app
                          (app
                            (app
                              (app (app (app [IntKind.u8.wrap ((O.fadd a 0).fdiv (iPow 2 56))] [IntKind.u8.wrap ((O.fadd a 0).fdiv (iPow 2 48))]) [IntKind.u8.wrap ((O.fadd a 0).fdiv (iPow 2 40))])
                                [IntKind.u8.wrap ((O.fadd a 0).fdiv (iPow 2 32))])
                              [IntKind.u8.wrap ((O.fadd a 0).fdiv (iPow 2 24))])
                            [IntKind.u8.wrap ((O.fadd a 0).fdiv (iPow 2 16))])
                          [IntKind.u8.wrap ((O.fadd a 0).fdiv (iPow 2 8))])
                        [IntKind.u8.wrap ((O.fadd a 0).fdiv (iPow 2 0))])
                      (app
                        (app
                          (app
                            (app
                              (app (app (app [IntKind.u8.wrap ((O.fadd a 0).fdiv (iPow 2 56))] [IntKind.u8.wrap ((O.fadd a 0).fdiv (iPow 2 48))]) [IntKind.u8.wrap ((O.fadd a 0).fdiv (iPow 2 40))])
                                [IntKind.u8.wrap ((O.fadd a 0).fdiv (iPow 2 32))])
                              [IntKind.u8.wrap ((O.fadd a 0).fdiv (iPow 2 24))])
                            [IntKind.u8.wrap ((O.fadd a 0).fdiv (iPow 2 16))])
                          [IntKind.u8.wrap ((O.fadd a 0).fdiv (iPow 2 8))])
                        [IntKind.u8.wrap ((O.fadd a 0).fdiv (iPow 2 0))]) ∧
                    True) ∧
          ∀ (x : Nat),
            x ≤ (iSub n 1).toNat →
              If (iLt (iOf x) (IntKind.i64.wrap (iSub n 1)))
                (If
                  (decide
                    (O.isH
                        (Array.mk
                          (List.map (Value.int IntKind.u8)
                            (tabI
                              (O.tag (ByteArray.mk (Array.mk [112, 97, 114, 116]))
                                [app
                                    (app
                                      (app
                                        (app
                                          (app
                                            (app
                                              (app
                                                [IntKind.u8.wrap ((O.fadd a 0).fdiv (iPow 2 (min (IntKind.u64.wrap (IntKind.i64.wrap (iSub 56 (IntKind.i64.wrap (iMul 8 0))))).toNat IntKind.u64.bits)))]
                                                [IntKind.u8.wrap
                                                    ((O.fadd a 0).fdiv
                                                      (iPow 2 (min (IntKind.u64.wrap (IntKind.i64.wrap (iSub 56 (IntKind.i64.wrap (iMul 8 (IntKind.i64.wrap (iAdd 0 1))))))).toNat IntKind.u64.bits)))])
                                              [IntKind.u8.wrap
                                                  ((O.fadd a 0).fdiv
                                                    (iPow 2
                                                      (min (IntKind.u64.wrap (IntKind.i64.wrap (iSub 56 (IntKind.i64.wrap (iMul 8 (IntKind.i64.wrap (iAdd (IntKind.i64.wrap (iAdd 0 1)) 1))))))).toNat
                                                        IntKind.u64.bits)))])
                                            [IntKind.u8.wrap
                                                ((O.fadd a 0).fdiv
                                                  (iPow 2
                                                    (min
                                                      (IntKind.u64.wrap
                                                          (IntKind.i64.wrap
                                                            (iSub 56 (IntKind.i64.wrap (iMul 8 (IntKind.i64.wrap (iAdd (IntKind.i64.wrap (iAdd (IntKind.i64.wrap (iAdd 0 1)) 1)) 1))))))).toNat
                                                      IntKind.u64.bits)))])
                                          [IntKind.u8.wrap
                                              ((O.fadd a 0).fdiv
                                                (iPow 2
                                                  (min
                                                    (IntKind.u64.wrap
                                                        (IntKind.i64.wrap
                                                          (iSub 56
                                                            (IntKind.i64.wrap
                                                              (iMul 8 (IntKind.i64.wrap (iAdd (IntKind.i64.wrap (iAdd (IntKind.i64.wrap (iAdd (IntKind.i64.wrap (iAdd 0 1)) 1)) 1)) 1))))))).toNat
                                                    IntKind.u64.bits)))])
                                        [IntKind.u8.wrap
                                            ((O.fadd a 0).fdiv
                                              (iPow 2
                                                (min
                                                  (IntKind.u64.wrap
                                                      (IntKind.i64.wrap
                                                        (iSub 56
                                                          (IntKind.i64.wrap
                                                            (iMul 8
                                                              (IntKind.i64.wrap
                                                                (iAdd (IntKind.i64.wrap (iAdd (IntKind.i64.wrap (iAdd (IntKind.i64.wrap (iAdd (IntKind.i64.wrap (iAdd 0 1)) 1)) 1)) 1)) 1))))))).toNat
                                                  IntKind.u64.bits)))])
                                      [IntKind.u8.wrap
                                          ((O.fadd a 0).fdiv
                                            (iPow 2
                                              (min
                                                (IntKind.u64.wrap
                                                    (IntKind.i64.wrap
                                                      (iSub 56
                                                        (IntKind.i64.wrap
                                                          (iMul 8
                                                            (IntKind.i64.wrap
                                                              (iAdd
                                                                (IntKind.i64.wrap
                                                                  (iAdd (IntKind.i64.wrap (iAdd (IntKind.i64.wrap (iAdd (IntKind.i64.wrap (iAdd (IntKind.i64.wrap (iAdd 0 1)) 1)) 1)) 1)) 1))
                                                                1))))))).toNat
                                                IntKind.u64.bits)))])
                                    [IntKind.u8.wrap
                                        ((O.fadd a 0).fdiv
                                          (iPow 2
                                            (min
                                              (IntKind.u64.wrap
                                                  (IntKind.i64.wrap
                                                    (iSub 56
                                                      (IntKind.i64.wrap
                                                        (iMul 8
                                                          (IntKind.i64.wrap
                                                            (iAdd
                                                              (IntKind.i64.wrap
                                                                (iAdd
                                                                  (IntKind.i64.wrap
                                                                    (iAdd (IntKind.i64.wrap (iAdd (IntKind.i64.wrap (iAdd (IntKind.i64.wrap (iAdd (IntKind.i64.wrap (iAdd 0 1)) 1)) 1)) 1)) 1))
                                                                  1))
                                                              1))))))).toNat
                                              IntKind.u64.bits)))],
                                  [IntKind.u8.wrap (iOf x)]])
                              32))) =
                      true))
                  (If
                    ((nMul
                            (nAdd (drawsO O (ByteArray.mk (Array.mk [112, 97, 114, 116])) (b8 (O.fadd a 0)) x).length
                              [O.ffrom
                                    (Array.mk
                                      (List.map (Value.int IntKind.u8)
                                        (tabI
                                          (O.tag (ByteArray.mk (Array.mk [112, 97, 114, 116]))
                                            [app
                                                (app
                                                  (app
                                                    (app
                                                      (app
                                                        (app (app [IntKind.u8.wrap ((O.fadd a 0).fdiv (iPow 2 56))] [IntKind.u8.wrap ((O.fadd a 0).fdiv (iPow 2 48))])
                                                          [IntKind.u8.wrap ((O.fadd a 0).fdiv (iPow 2 40))])
                                                        [IntKind.u8.wrap ((O.fadd a 0).fdiv (iPow 2 32))])
                                                      [IntKind.u8.wrap ((O.fadd a 0).fdiv (iPow 2 24))])
                                                    [IntKind.u8.wrap ((O.fadd a 0).fdiv (iPow 2 16))])
                                                  [IntKind.u8.wrap ((O.fadd a 0).fdiv (iPow 2 8))])
                                                [IntKind.u8.wrap ((O.fadd a 0).fdiv (iPow 2 0))],
                                              [IntKind.u8.wrap (iOf x)]])
                                          32)))].length)
                            8).ble
                        140737488355328 &&
                      (nAdd (drawsO O (ByteArray.mk (Array.mk [112, 97, 114, 116])) (b8 (O.fadd a 0)) x).length
                            [O.ffrom
                                  (Array.mk
                                    (List.map (Value.int IntKind.u8)
                                      (tabI
                                        (O.tag (ByteArray.mk (Array.mk [112, 97, 114, 116]))
                                          [app
                                              (app
                                                (app
                                                  (app
                                                    (app
                                                      (app (app [IntKind.u8.wrap ((O.fadd a 0).fdiv (iPow 2 56))] [IntKind.u8.wrap ((O.fadd a 0).fdiv (iPow 2 48))])
                                                        [IntKind.u8.wrap ((O.fadd a 0).fdiv (iPow 2 40))])
                                                      [IntKind.u8.wrap ((O.fadd a 0).fdiv (iPow 2 32))])
                                                    [IntKind.u8.wrap ((O.fadd a 0).fdiv (iPow 2 24))])
                                                  [IntKind.u8.wrap ((O.fadd a 0).fdiv (iPow 2 16))])
                                                [IntKind.u8.wrap ((O.fadd a 0).fdiv (iPow 2 8))])
                                              [IntKind.u8.wrap ((O.fadd a 0).fdiv (iPow 2 0))],
                                            [IntKind.u8.wrap (iOf x)]])
                                        32)))].length).ble
                        9223372036854775807)
                    (∃ (x' : Nat),
                      x' ≤ (iSub n 1).toNat ∧
                        (nSub (iSub n 1).toNat x').succ ≤ nSub (iSub n 1).toNat x ∧
                          (Value.int IntKind.i64 (IntKind.i64.wrap (iAdd (iOf x) 1)) = Value.int IntKind.i64 (iOf x') ∧
                              Value.int IntKind.u64 a = Value.int IntKind.u64 a ∧ Value.int IntKind.i64 n = Value.int IntKind.i64 n ∧ True) ∧
                            EqI
                                (app (drawsO O (ByteArray.mk (Array.mk [112, 97, 114, 116])) (b8 (O.fadd a 0)) x)
                                  [O.ffrom
                                      (Array.mk
                                        (List.map (Value.int IntKind.u8)
                                          (tabI
                                            (O.tag (ByteArray.mk (Array.mk [112, 97, 114, 116]))
                                              [app
                                                  (app
                                                    (app
                                                      (app
                                                        (app
                                                          (app (app [IntKind.u8.wrap ((O.fadd a 0).fdiv (iPow 2 56))] [IntKind.u8.wrap ((O.fadd a 0).fdiv (iPow 2 48))])
                                                            [IntKind.u8.wrap ((O.fadd a 0).fdiv (iPow 2 40))])
                                                          [IntKind.u8.wrap ((O.fadd a 0).fdiv (iPow 2 32))])
                                                        [IntKind.u8.wrap ((O.fadd a 0).fdiv (iPow 2 24))])
                                                      [IntKind.u8.wrap ((O.fadd a 0).fdiv (iPow 2 16))])
                                                    [IntKind.u8.wrap ((O.fadd a 0).fdiv (iPow 2 8))])
                                                  [IntKind.u8.wrap ((O.fadd a 0).fdiv (iPow 2 0))],
                                                [IntKind.u8.wrap (iOf x)]])
                                            32)))])
                                (drawsO O (ByteArray.mk (Array.mk [112, 97, 114, 116])) (b8 (O.fadd a 0)) x') ∧
                              EqI
                                  (app
                                    (app
                                      (app
                                        (app
                                          (app
                                            (app (app [IntKind.u8.wrap ((O.fadd a 0).fdiv (iPow 2 56))] [IntKind.u8.wrap ((O.fadd a 0).fdiv (iPow 2 48))])
                                              [IntKind.u8.wrap ((O.fadd a 0).fdiv (iPow 2 40))])
                                            [IntKind.u8.wrap ((O.fadd a 0).fdiv (iPow 2 32))])
                                          [IntKind.u8.wrap ((O.fadd a 0).fdiv (iPow 2 24))])
                                        [IntKind.u8.wrap ((O.fadd a 0).fdiv (iPow 2 16))])
                                      [IntKind.u8.wrap ((O.fadd a 0).fdiv (iPow 2 8))])
                                    [IntKind.u8.wrap ((O.fadd a 0).fdiv (iPow 2 0))])
                                  (app
                                    (app
                                      (app
                                        (app
                                          (app
                                            (app (app [IntKind.u8.wrap ((O.fadd a 0).fdiv (iPow 2 56))] [IntKind.u8.wrap ((O.fadd a 0).fdiv (iPow 2 48))])
                                              [IntKind.u8.wrap ((O.fadd a 0).fdiv (iPow 2 40))])
                                            [IntKind.u8.wrap ((O.fadd a 0).fdiv (iPow 2 32))])
                                          [IntKind.u8.wrap ((O.fadd a 0).fdiv (iPow 2 24))])
                                        [IntKind.u8.wrap ((O.fadd a 0).fdiv (iPow 2 16))])
                                      [IntKind.u8.wrap ((O.fadd a 0).fdiv (iPow 2 8))])
                                    [IntKind.u8.wrap ((O.fadd a 0).fdiv (iPow 2 0))]) ∧
                                True)
                    False)
                  False)
                (If
                  (inUs 18446744073709551616 (drawsO O (ByteArray.mk (Array.mk [112, 97, 114, 116])) (b8 (O.fadd a 0)) x) &&
                    (drawsO O (ByteArray.mk (Array.mk [112, 97, 114, 116])) (b8 (O.fadd a 0)) x).length.ble 1000)
                  (If (inU a 18446744073709551616 && inU (sumO O (drawsO O (ByteArray.mk (Array.mk [112, 97, 114, 116])) (b8 (O.fadd a 0)) x)) 18446744073709551616)
                    (If
                      ((nMul
                              (nAdd (drawsO O (ByteArray.mk (Array.mk [112, 97, 114, 116])) (b8 (O.fadd a 0)) x).length
                                [O.fsub a (sumO O (drawsO O (ByteArray.mk (Array.mk [112, 97, 114, 116])) (b8 (O.fadd a 0)) x))].length)
                              8).ble
                          140737488355328 &&
                        (nAdd (drawsO O (ByteArray.mk (Array.mk [112, 97, 114, 116])) (b8 (O.fadd a 0)) x).length
                              [O.fsub a (sumO O (drawsO O (ByteArray.mk (Array.mk [112, 97, 114, 116])) (b8 (O.fadd a 0)) x))].length).ble
                          9223372036854775807)
                      False False)
                    False)
                  False))
        False)) := by
  unfold prtB at hb
  refine Sx.if_both (fun _ => (by first | rfl | trivial)) (fun e1 => Sx.if_both (fun _ => (by first | rfl | trivial)) (fun e2 => ?_))
  rw [e1, e2] at hb
  exact absurd hb (by decide)
theorem wpc_rparts_t (O : OO) (Y : OY) (a n : Int) (F : FO O) (hy : Y = yO O) (h2 : inU a 18446744073709551616 = true) (hb : (prtB n) = true) : wpcI Try.prog (spP1 O Y) Try.f27.ntmps [Ann.walk 9, ⟨Nat, [0, 1, 6], [(8, 23, .ints .u64 [])], fun B j => [(8, .row B), (9, .v (.int .i64 (j : Int)))], fun B j => [(B, .own 23 (.ints .u64 (drawsO O partB (b8 (O.fadd a 0)) j)))], fun j => j ≤ (n - 1).toNat, fun j => (n - 1).toNat - j, 0⟩] (bodyOf Try.f27) 0 64 (envP (mks [.v, .v] [.v (.int .u64 a), .v (.int .i64 n)] 0).1 0) (mks [.v, .v] [.v (.int .u64 a), .v (.int .i64 n)] 0).2 (retP Try.prog Try.f27.results.toList 0 (p_rparts O Y a n [true])) :=
  Eq.mpr (by kernel_rfl) (vc_rparts_t O Y a n F hy h2 hb)
set_option maxHeartbeats 4000000 in
theorem vc_rparts_f (O : OO) (Y : OY) (a n : Int) (F : FO O) (hy : Y = yO O) (h2 : inU a 18446744073709551616 = true) (hb : (prtB n) = false) :
  If (iLt n 1) (SV.v (Value.slice none 0 0) = SV.row 0 ∧ True ∧ False)
    (If (iLt 8 n) (SV.v (Value.slice none 0 0) = SV.row 0 ∧ True ∧ False)
      (If (inU a 18446744073709551616 && inU 0 18446744073709551616)
        ((∃ (x : Nat),
            x ≤ (iSub n 1).toNat ∧
              (Value.int IntKind.i64 0 = Value.int IntKind.i64 (iOf x) ∧ Value.int IntKind.u64 a = Value.int IntKind.u64 a ∧ Value.int IntKind.i64 n = Value.int IntKind.i64 n ∧ True) ∧
                EqI [] (drawsO O (ByteArray.mk (Array.mk [112, 97, 114, 116])) (b8 (O.fadd a 0)) x) ∧
                  EqI
                      (app
                        (app
                          (app
                            (app
                              (app (app (app [IntKind.u8.wrap ((O.fadd a 0).fdiv (iPow 2 56))] [IntKind.u8.wrap ((O.fadd a 0).fdiv (iPow 2 48))]) [IntKind.u8.wrap ((O.fadd a 0).fdiv (iPow 2 40))])
                                [IntKind.u8.wrap ((O.fadd a 0).fdiv (iPow 2 32))])
                              [IntKind.u8.wrap ((O.fadd a 0).fdiv (iPow 2 24))])
                            [IntKind.u8.wrap ((O.fadd a 0).fdiv (iPow 2 16))])
                          [IntKind.u8.wrap ((O.fadd a 0).fdiv (iPow 2 8))])
                        [IntKind.u8.wrap ((O.fadd a 0).fdiv (iPow 2 0))])
                      (app
                        (app
                          (app
                            (app
                              (app (app (app [IntKind.u8.wrap ((O.fadd a 0).fdiv (iPow 2 56))] [IntKind.u8.wrap ((O.fadd a 0).fdiv (iPow 2 48))]) [IntKind.u8.wrap ((O.fadd a 0).fdiv (iPow 2 40))])
                                [IntKind.u8.wrap ((O.fadd a 0).fdiv (iPow 2 32))])
                              [IntKind.u8.wrap ((O.fadd a 0).fdiv (iPow 2 24))])
                            [IntKind.u8.wrap ((O.fadd a 0).fdiv (iPow 2 16))])
                          [IntKind.u8.wrap ((O.fadd a 0).fdiv (iPow 2 8))])
                        [IntKind.u8.wrap ((O.fadd a 0).fdiv (iPow 2 0))]) ∧
                    True) ∧
          ∀ (x : Nat),
            x ≤ (iSub n 1).toNat →
              If (iLt (iOf x) (IntKind.i64.wrap (iSub n 1)))
                (If
                  (decide
                    (O.isH
                        (Array.mk
                          (List.map (Value.int IntKind.u8)
                            (tabI
                              (O.tag (ByteArray.mk (Array.mk [112, 97, 114, 116]))
                                [app
                                    (app
                                      (app
                                        (app
                                          (app
                                            (app
                                              (app
                                                [IntKind.u8.wrap ((O.fadd a 0).fdiv (iPow 2 (min (IntKind.u64.wrap (IntKind.i64.wrap (iSub 56 (IntKind.i64.wrap (iMul 8 0))))).toNat IntKind.u64.bits)))]
                                                [IntKind.u8.wrap
                                                    ((O.fadd a 0).fdiv
                                                      (iPow 2 (min (IntKind.u64.wrap (IntKind.i64.wrap (iSub 56 (IntKind.i64.wrap (iMul 8 (IntKind.i64.wrap (iAdd 0 1))))))).toNat IntKind.u64.bits)))])
                                              [IntKind.u8.wrap
                                                  ((O.fadd a 0).fdiv
                                                    (iPow 2
                                                      (min (IntKind.u64.wrap (IntKind.i64.wrap (iSub 56 (IntKind.i64.wrap (iMul 8 (IntKind.i64.wrap (iAdd (IntKind.i64.wrap (iAdd 0 1)) 1))))))).toNat
                                                        IntKind.u64.bits)))])
                                            [IntKind.u8.wrap
                                                ((O.fadd a 0).fdiv
                                                  (iPow 2
                                                    (min
                                                      (IntKind.u64.wrap
                                                          (IntKind.i64.wrap
                                                            (iSub 56 (IntKind.i64.wrap (iMul 8 (IntKind.i64.wrap (iAdd (IntKind.i64.wrap (iAdd (IntKind.i64.wrap (iAdd 0 1)) 1)) 1))))))).toNat
                                                      IntKind.u64.bits)))])
                                          [IntKind.u8.wrap
                                              ((O.fadd a 0).fdiv
                                                (iPow 2
                                                  (min
                                                    (IntKind.u64.wrap
                                                        (IntKind.i64.wrap
                                                          (iSub 56
                                                            (IntKind.i64.wrap
                                                              (iMul 8 (IntKind.i64.wrap (iAdd (IntKind.i64.wrap (iAdd (IntKind.i64.wrap (iAdd (IntKind.i64.wrap (iAdd 0 1)) 1)) 1)) 1))))))).toNat
                                                    IntKind.u64.bits)))])
                                        [IntKind.u8.wrap
                                            ((O.fadd a 0).fdiv
                                              (iPow 2
                                                (min
                                                  (IntKind.u64.wrap
                                                      (IntKind.i64.wrap
                                                        (iSub 56
                                                          (IntKind.i64.wrap
                                                            (iMul 8
                                                              (IntKind.i64.wrap
                                                                (iAdd (IntKind.i64.wrap (iAdd (IntKind.i64.wrap (iAdd (IntKind.i64.wrap (iAdd (IntKind.i64.wrap (iAdd 0 1)) 1)) 1)) 1)) 1))))))).toNat
                                                  IntKind.u64.bits)))])
                                      [IntKind.u8.wrap
                                          ((O.fadd a 0).fdiv
                                            (iPow 2
                                              (min
                                                (IntKind.u64.wrap
                                                    (IntKind.i64.wrap
                                                      (iSub 56
                                                        (IntKind.i64.wrap
                                                          (iMul 8
                                                            (IntKind.i64.wrap
                                                              (iAdd
                                                                (IntKind.i64.wrap
                                                                  (iAdd (IntKind.i64.wrap (iAdd (IntKind.i64.wrap (iAdd (IntKind.i64.wrap (iAdd (IntKind.i64.wrap (iAdd 0 1)) 1)) 1)) 1)) 1))
                                                                1))))))).toNat
                                                IntKind.u64.bits)))])
                                    [IntKind.u8.wrap
                                        ((O.fadd a 0).fdiv
                                          (iPow 2
                                            (min
                                              (IntKind.u64.wrap
                                                  (IntKind.i64.wrap
                                                    (iSub 56
                                                      (IntKind.i64.wrap
                                                        (iMul 8
                                                          (IntKind.i64.wrap
                                                            (iAdd
                                                              (IntKind.i64.wrap
                                                                (iAdd
                                                                  (IntKind.i64.wrap
                                                                    (iAdd (IntKind.i64.wrap (iAdd (IntKind.i64.wrap (iAdd (IntKind.i64.wrap (iAdd (IntKind.i64.wrap (iAdd 0 1)) 1)) 1)) 1)) 1))
                                                                  1))
                                                              1))))))).toNat
                                              IntKind.u64.bits)))],
                                  [IntKind.u8.wrap (iOf x)]])
                              32))) =
                      true))
                  (If
                    ((nMul
                            (nAdd (drawsO O (ByteArray.mk (Array.mk [112, 97, 114, 116])) (b8 (O.fadd a 0)) x).length
                              [O.ffrom
                                    (Array.mk
                                      (List.map (Value.int IntKind.u8)
                                        (tabI
                                          (O.tag (ByteArray.mk (Array.mk [112, 97, 114, 116]))
                                            [app
                                                (app
                                                  (app
                                                    (app
                                                      (app
                                                        (app (app [IntKind.u8.wrap ((O.fadd a 0).fdiv (iPow 2 56))] [IntKind.u8.wrap ((O.fadd a 0).fdiv (iPow 2 48))])
                                                          [IntKind.u8.wrap ((O.fadd a 0).fdiv (iPow 2 40))])
                                                        [IntKind.u8.wrap ((O.fadd a 0).fdiv (iPow 2 32))])
                                                      [IntKind.u8.wrap ((O.fadd a 0).fdiv (iPow 2 24))])
                                                    [IntKind.u8.wrap ((O.fadd a 0).fdiv (iPow 2 16))])
                                                  [IntKind.u8.wrap ((O.fadd a 0).fdiv (iPow 2 8))])
                                                [IntKind.u8.wrap ((O.fadd a 0).fdiv (iPow 2 0))],
                                              [IntKind.u8.wrap (iOf x)]])
                                          32)))].length)
                            8).ble
                        140737488355328 &&
                      (nAdd (drawsO O (ByteArray.mk (Array.mk [112, 97, 114, 116])) (b8 (O.fadd a 0)) x).length
                            [O.ffrom
                                  (Array.mk
                                    (List.map (Value.int IntKind.u8)
                                      (tabI
                                        (O.tag (ByteArray.mk (Array.mk [112, 97, 114, 116]))
                                          [app
                                              (app
                                                (app
                                                  (app
                                                    (app
                                                      (app (app [IntKind.u8.wrap ((O.fadd a 0).fdiv (iPow 2 56))] [IntKind.u8.wrap ((O.fadd a 0).fdiv (iPow 2 48))])
                                                        [IntKind.u8.wrap ((O.fadd a 0).fdiv (iPow 2 40))])
                                                      [IntKind.u8.wrap ((O.fadd a 0).fdiv (iPow 2 32))])
                                                    [IntKind.u8.wrap ((O.fadd a 0).fdiv (iPow 2 24))])
                                                  [IntKind.u8.wrap ((O.fadd a 0).fdiv (iPow 2 16))])
                                                [IntKind.u8.wrap ((O.fadd a 0).fdiv (iPow 2 8))])
                                              [IntKind.u8.wrap ((O.fadd a 0).fdiv (iPow 2 0))],
                                            [IntKind.u8.wrap (iOf x)]])
                                        32)))].length).ble
                        9223372036854775807)
                    (∃ (x' : Nat),
                      x' ≤ (iSub n 1).toNat ∧
                        (nSub (iSub n 1).toNat x').succ ≤ nSub (iSub n 1).toNat x ∧
                          (Value.int IntKind.i64 (IntKind.i64.wrap (iAdd (iOf x) 1)) = Value.int IntKind.i64 (iOf x') ∧
                              Value.int IntKind.u64 a = Value.int IntKind.u64 a ∧ Value.int IntKind.i64 n = Value.int IntKind.i64 n ∧ True) ∧
                            EqI
                                (app (drawsO O (ByteArray.mk (Array.mk [112, 97, 114, 116])) (b8 (O.fadd a 0)) x)
                                  [O.ffrom
                                      (Array.mk
                                        (List.map (Value.int IntKind.u8)
                                          (tabI
                                            (O.tag (ByteArray.mk (Array.mk [112, 97, 114, 116]))
                                              [app
                                                  (app
                                                    (app
                                                      (app
                                                        (app
                                                          (app (app [IntKind.u8.wrap ((O.fadd a 0).fdiv (iPow 2 56))] [IntKind.u8.wrap ((O.fadd a 0).fdiv (iPow 2 48))])
                                                            [IntKind.u8.wrap ((O.fadd a 0).fdiv (iPow 2 40))])
                                                          [IntKind.u8.wrap ((O.fadd a 0).fdiv (iPow 2 32))])
                                                        [IntKind.u8.wrap ((O.fadd a 0).fdiv (iPow 2 24))])
                                                      [IntKind.u8.wrap ((O.fadd a 0).fdiv (iPow 2 16))])
                                                    [IntKind.u8.wrap ((O.fadd a 0).fdiv (iPow 2 8))])
                                                  [IntKind.u8.wrap ((O.fadd a 0).fdiv (iPow 2 0))],
                                                [IntKind.u8.wrap (iOf x)]])
                                            32)))])
                                (drawsO O (ByteArray.mk (Array.mk [112, 97, 114, 116])) (b8 (O.fadd a 0)) x') ∧
                              EqI
                                  (app
                                    (app
                                      (app
                                        (app
                                          (app
                                            (app (app [IntKind.u8.wrap ((O.fadd a 0).fdiv (iPow 2 56))] [IntKind.u8.wrap ((O.fadd a 0).fdiv (iPow 2 48))])
                                              [IntKind.u8.wrap ((O.fadd a 0).fdiv (iPow 2 40))])
                                            [IntKind.u8.wrap ((O.fadd a 0).fdiv (iPow 2 32))])
                                          [IntKind.u8.wrap ((O.fadd a 0).fdiv (iPow 2 24))])
                                        [IntKind.u8.wrap ((O.fadd a 0).fdiv (iPow 2 16))])
                                      [IntKind.u8.wrap ((O.fadd a 0).fdiv (iPow 2 8))])
                                    [IntKind.u8.wrap ((O.fadd a 0).fdiv (iPow 2 0))])
                                  (app
                                    (app
                                      (app
                                        (app
                                          (app
                                            (app (app [IntKind.u8.wrap ((O.fadd a 0).fdiv (iPow 2 56))] [IntKind.u8.wrap ((O.fadd a 0).fdiv (iPow 2 48))])
                                              [IntKind.u8.wrap ((O.fadd a 0).fdiv (iPow 2 40))])
                                            [IntKind.u8.wrap ((O.fadd a 0).fdiv (iPow 2 32))])
                                          [IntKind.u8.wrap ((O.fadd a 0).fdiv (iPow 2 24))])
                                        [IntKind.u8.wrap ((O.fadd a 0).fdiv (iPow 2 16))])
                                      [IntKind.u8.wrap ((O.fadd a 0).fdiv (iPow 2 8))])
                                    [IntKind.u8.wrap ((O.fadd a 0).fdiv (iPow 2 0))]) ∧
                                True)
                    False)
                  False)
                (If
                  (inUs 18446744073709551616 (drawsO O (ByteArray.mk (Array.mk [112, 97, 114, 116])) (b8 (O.fadd a 0)) x) &&
                    (drawsO O (ByteArray.mk (Array.mk [112, 97, 114, 116])) (b8 (O.fadd a 0)) x).length.ble 1000)
                  (If (inU a 18446744073709551616 && inU (sumO O (drawsO O (ByteArray.mk (Array.mk [112, 97, 114, 116])) (b8 (O.fadd a 0)) x)) 18446744073709551616)
                    (If
                      ((nMul
                              (nAdd (drawsO O (ByteArray.mk (Array.mk [112, 97, 114, 116])) (b8 (O.fadd a 0)) x).length
                                [O.fsub a (sumO O (drawsO O (ByteArray.mk (Array.mk [112, 97, 114, 116])) (b8 (O.fadd a 0)) x))].length)
                              8).ble
                          140737488355328 &&
                        (nAdd (drawsO O (ByteArray.mk (Array.mk [112, 97, 114, 116])) (b8 (O.fadd a 0)) x).length
                              [O.fsub a (sumO O (drawsO O (ByteArray.mk (Array.mk [112, 97, 114, 116])) (b8 (O.fadd a 0)) x))].length).ble
                          9223372036854775807)
                      (True ∧
                        EqI
                            (app (drawsO O (ByteArray.mk (Array.mk [112, 97, 114, 116])) (b8 (O.fadd a 0)) x)
                              [O.fsub a (sumO O (drawsO O (ByteArray.mk (Array.mk [112, 97, 114, 116])) (b8 (O.fadd a 0)) x))])
                            (partsO O (b8 (O.fadd a 0)) a n) ∧
                          True)
                      False)
                    False)
                  False))
        False)) := by
  simp only [Sx.app, Sx.nAdd, Sx.nSub, Sx.nMul, Sx.nPow, Sx.nDiv, Sx.nMod, Sx.iAdd, Sx.iSub, Sx.iMul, Sx.iNeg, Sx.iPow, Sx.iOf]
  obtain ⟨hn1, hn8, k1, k8⟩ := prtB_no hb
  have hw : IntKind.i64.wrap (n - 1) = n - 1 := IntWalk.i64_in _ (by omega)
  have e1 : sumO O [a] = O.fadd 0 a := rfl
  have eL : [IntKind.u8.wrap ((O.fadd a 0).fdiv (2 ^ 56))] ++ [IntKind.u8.wrap ((O.fadd a 0).fdiv (2 ^ 48))] ++ [IntKind.u8.wrap ((O.fadd a 0).fdiv (2 ^ 40))] ++ [IntKind.u8.wrap ((O.fadd a 0).fdiv (2 ^ 32))] ++ [IntKind.u8.wrap ((O.fadd a 0).fdiv (2 ^ 24))] ++ [IntKind.u8.wrap ((O.fadd a 0).fdiv (2 ^ 16))] ++ [IntKind.u8.wrap ((O.fadd a 0).fdiv (2 ^ 8))] ++ [IntKind.u8.wrap ((O.fadd a 0).fdiv (2 ^ 0))] = b8 (O.fadd a 0) := rfl
  have es : ByteArray.mk (Array.mk [112, 97, 114, 116]) = partB := rfl
  simp only [e1, hw, eL, es]
  refine Sx.if_false hn1 (Sx.if_false hn8 (Sx.if_true (by rw [h2]; rfl) ?_))
  generalize b8 (O.fadd a 0) = L
  refine ⟨⟨0, Nat.zero_le _, ⟨rfl, (by first | rfl | trivial)⟩, rfl, (by first | rfl | trivial)⟩, fun x hx => Sx.if_both (fun h => ?_) (fun h => ?_)⟩
  · simp only [Bool.and_eq_true, Bool.or_eq_true, Sx.iLt_t, Sx.iLt_f, Sx.iLe_t, Sx.iLe_f, Sx.iEq_t, Sx.iEq_f, Sx.iBeq_t, Sx.iBeq_f, Sx.iBne_t, Sx.iBne_f, Nat.ble_eq, Nat.beq_eq, Sx.Cont.n] at h
    have hlt : x < (n - 1).toNat := by omega
    exact Sx.if_true (by rw [decide_eq_true_eq]; exact F.tH _ _) (Sx.if_true (by simp only [Bool.and_eq_true, Bool.or_eq_true, Sx.iLt_t, Sx.iLt_f, Sx.iLe_t, Sx.iLe_f, Sx.iEq_t, Sx.iEq_f, Sx.iBeq_t, Sx.iBeq_f, Sx.iBne_t, Sx.iBne_f, Nat.ble_eq, Nat.beq_eq, Sx.Cont.n, drawsO_len, List.length_cons, List.length_nil]; omega) ⟨x + 1, hlt, by omega, ⟨by rw [wrap_succ (by omega)], (by first | rfl | trivial)⟩, (drawsO_succ _ _ _ _).symm, (by first | rfl | trivial)⟩)
  · simp only [Bool.and_eq_true, Bool.or_eq_true, Sx.iLt_t, Sx.iLt_f, Sx.iLe_t, Sx.iLe_f, Sx.iEq_t, Sx.iEq_f, Sx.iBeq_t, Sx.iBeq_f, Sx.iBne_t, Sx.iBne_f, Nat.ble_eq, Nat.beq_eq, Sx.Cont.n] at h
    have hx2 : x = (n - 1).toNat := by omega
    subst hx2
    exact Sx.if_true (by rw [drawsO_in F, drawsO_len]; simp only [Bool.and_eq_true, Bool.or_eq_true, Sx.iLt_t, Sx.iLt_f, Sx.iLe_t, Sx.iLe_f, Sx.iEq_t, Sx.iEq_f, Sx.iBeq_t, Sx.iBeq_f, Sx.iBne_t, Sx.iBne_f, Nat.ble_eq, Nat.beq_eq, Sx.Cont.n, Bool.true_and]; omega) (Sx.if_true (by rw [h2, sum_in F]; rfl) (Sx.if_true (by simp only [Bool.and_eq_true, Bool.or_eq_true, Sx.iLt_t, Sx.iLt_f, Sx.iLe_t, Sx.iLe_f, Sx.iEq_t, Sx.iEq_f, Sx.iBeq_t, Sx.iBeq_f, Sx.iBne_t, Sx.iBne_f, Nat.ble_eq, Nat.beq_eq, Sx.Cont.n, drawsO_len, List.length_cons, List.length_nil]; omega) (by first | exact ⟨trivial, rfl, trivial⟩ | trivial)))
theorem wpc_rparts_f (O : OO) (Y : OY) (a n : Int) (F : FO O) (hy : Y = yO O) (h2 : inU a 18446744073709551616 = true) (hb : (prtB n) = false) : wpcI Try.prog (spP1 O Y) Try.f27.ntmps [Ann.walk 9, ⟨Nat, [0, 1, 6], [(8, 23, .ints .u64 [])], fun B j => [(8, .row B), (9, .v (.int .i64 (j : Int)))], fun B j => [(B, .own 23 (.ints .u64 (drawsO O partB (b8 (O.fadd a 0)) j)))], fun j => j ≤ (n - 1).toNat, fun j => (n - 1).toNat - j, 0⟩] (bodyOf Try.f27) 0 64 (envP (mks [.v, .v] [.v (.int .u64 a), .v (.int .i64 n)] 0).1 0) (mks [.v, .v] [.v (.int .u64 a), .v (.int .i64 n)] 0).2 (retP Try.prog Try.f27.results.toList 0 (p_rparts O Y a n [false])) :=
  Eq.mpr (by kernel_rfl) (vc_rparts_f O Y a n F hy h2 hb)
theorem ok_rparts (I : Sx.Interp) (O : OO) (hO : O = oo) (Y : OY) (hY : Y = yO O) : Sx.SpecOK I Try.prog 27 (pspec [.v, .v] false (g_rparts O Y)) := by
  refine spec_patI (spP1_ok I O hO Y hY) (by kernel_rfl) (fun ds => match ds with | [.v (.int .u64 a), .v (.int .i64 n)] => [Ann.walk 9, ⟨Nat, [0, 1, 6], [(8, 23, .ints .u64 [])], fun B j => [(8, .row B), (9, .v (.int .i64 (j : Int)))], fun B j => [(B, .own 23 (.ints .u64 (drawsO O partB (b8 (O.fadd a 0)) j)))], fun j => j ≤ (n - 1).toNat, fun j => (n - 1).toNat - j, 0⟩] | _ => []) Try.func27 (by kernel_rfl) (by kernel_rfl) rfl Try.ntmps27 (by decide) ?_ ?_
  · intro ds p bs F h
    unfold g_rparts at h
    split at h
    · rename_i a n
      simp only [Option.some.injEq, Prod.mk.injEq] at h
      obtain ⟨_, rfl, rfl⟩ := h
      generalize (prtB n) = t
      cases t <;> kernel_rfl
    · cases h
  · intro ds bs F hl h
    unfold g_rparts at h
    split at h
    · rename_i a n
      simp only [Option.some.injEq, Prod.mk.injEq, Bool.and_eq_true] at h
      obtain ⟨h2, rfl, rfl⟩ := h
      cases hb : (prtB n) with
      | true => exact (wpc_rparts_t O Y a n (fo_oo O hO) hY h2 hb)
      | false => exact (wpc_rparts_f O Y a n (fo_oo O hO) hY h2 hb)
    · cases h
end Go.Proofs.Ytheihhjlkefhgaa
