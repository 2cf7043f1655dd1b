/- HopRow: the walk, by the symbolic machine (printed by genhx4.py; VC by VcTool). -/
import Derived.Test.YtcdmmfelagbpdaaHx2
import Derived.Test.YtcdmmfelagbpdaaRowS
import Derived.Test.YtcdmmfelagbpdaaVn
namespace Go.Proofs.Ytcdmmfelagbpdaa
open Go.RowKit Go.Lib Ckp Cfd Cpd Sx
set_option linter.unusedVariables false
set_option linter.unusedSimpArgs false
set_option maxRecDepth 1000000
def okSb (ks : List IntKind) (l : List (List Int)) : Bool := (List.range l.length).all fun i => (List.range ks.length).all fun j => match ks[j]? with
  | some k => (Lit.int k ((l.getD i []).getD j 0)).wf
  | none => true
def rA (l : List (List Int)) (k : Nat) : Int := (l.getD k []).getD 2 0
def rQ (l : List (List Int)) (k : Nat) : Int := (l.getD k []).getD 3 0
def rE (l : List (List Int)) (k : Nat) : Int := (l.getD k []).getD 4 0
def rP (p : List (List Int)) (k i : Nat) : Int := (p.getD k []).getD i 0
def mayR (O : O33) (l p : List (List Int)) (h j r nap : Int) (k : Nat) : Int := O.may (rA l k) (rE l k) (rQ l k) (rA l (k + 1)) (rE l (k + 1)) (rQ l (k + 1)) (rP p k 0) (rP p k 1) (rP p k 2) (rP p k 3) (rP p k 4) h j r nap
def feeR (O : O33) (l p : List (List Int)) (k : Nat) : Int := (O.hfee (rP p k 0) (rP p k 1) (rP p k 2) (rP p k 3) (rP p k 4) (rA l (k + 1))).1
def feeS (O : O33) (l p : List (List Int)) : Nat → Int
  | 0 => 0
  | x + 1 => feeS O l p x + feeR O l p x
def blkS (p : List (List Int)) : Nat → Int
  | 0 => 0
  | x + 1 => blkS p x + rP p x 2
theorem okSb_of {ks : List IntKind} {l : List (List Int)} (h : okS ks l) : okSb ks l = true := by
  unfold okSb
  rw [List.all_eq_true]
  intro i hi
  rw [List.all_eq_true]
  intro j hj
  split
  · rename_i k hk
    exact h i (List.mem_range.1 hi) j k hk
  · rfl
theorem okSb_at {ks : List IntKind} {l : List (List Int)} (h : okSb ks l = true) {i : Nat} (hi : i < l.length) {j : Nat} {k : IntKind} (hk : ks[j]? = some k) : (Lit.int k ((l.getD i []).getD j 0)).wf = true := by
  unfold okSb at h
  have h1 := List.all_eq_true.1 h i (List.mem_range.2 hi)
  have h2 := List.all_eq_true.1 h1 j (List.mem_range.2 (List.getElem?_eq_some_iff.1 hk).1)
  rw [hk] at h2
  exact h2
theorem inU_wf {z : Int} (h : (Lit.int .u64 z).wf = true) : inU z 18446744073709551616 = true := by
  obtain ⟨n, hn, rfl⟩ := nat_u64 h
  exact inU_of hn
theorem row_inv (O : O33) (l p : List (List Int)) (h j r nap : Int) (mF : ∀ xa xe xq ya ye yq b p d l m h j r n : Int, O.may xa xe xq ya ye yq b p d l m h j r n = 0 → (O.hfee b p d l m ya).2 = true ∧ (O.hfee b p d l m ya).1 ≤ xa - ya ∧ 0 ≤ (O.hfee b p d l m ya).1 ∧ d ≤ xe - ye ∧ n < ye - h ∧ (0 ≤ d ∧ d ≤ 1048576) ∧ (1 ≤ xa ∧ xa ≤ 1125899906842624) ∧ (1 ≤ xe ∧ xe ≤ 1048576) ∧ (1 ≤ ya ∧ ya ≤ 1125899906842624) ∧ (1 ≤ ye ∧ ye ≤ 1048576) ∧ (0 ≤ h ∧ h ≤ 1048576) ∧ (0 ≤ n ∧ n ≤ 1000)) : ∀ x : Nat, (∀ k, k + 1 ≤ x → mayR O l p h j r nap k = 0) →
    feeS O l p x ≤ rA l 0 - rA l x ∧ 0 ≤ feeS O l p x ∧ blkS p x ≤ rE l 0 - rE l x ∧ 0 ≤ blkS p x ∧ (0 < x → nap < rE l 0 - h ∧ (1 ≤ rA l 0 ∧ rA l 0 ≤ 1125899906842624) ∧ (1 ≤ rE l 0 ∧ rE l 0 ≤ 1048576) ∧ (1 ≤ rA l x ∧ rA l x ≤ 1125899906842624) ∧ (1 ≤ rE l x ∧ rE l x ≤ 1048576) ∧ (0 ≤ h ∧ h ≤ 1048576) ∧ (0 ≤ nap ∧ nap ≤ 1000))
  | 0, _ => ⟨by simp [feeS], by simp [feeS], by simp [blkS], by simp [blkS], fun h => absurd h (Nat.lt_irrefl _)⟩
  | x + 1, hx => by
    obtain ⟨i1, i2, i3, i4, i5⟩ := row_inv O l p h j r nap mF x (fun k hk => hx k (by omega))
    have hm := hx x (Nat.le_refl _)
    obtain ⟨m1, m2, m3, m4, m5, m6, m7, m8, m9, m10, m11, m12⟩ := mF _ _ _ _ _ _ _ _ _ _ _ _ _ _ _ hm
    have f1 : feeS O l p (x + 1) = feeS O l p x + feeR O l p x := rfl
    have f2 : blkS p (x + 1) = blkS p x + rP p x 2 := rfl
    have f3 : feeR O l p x ≤ rA l x - rA l (x + 1) := m2
    have f4 : 0 ≤ feeR O l p x := m3
    rw [f1, f2]
    rcases Nat.eq_zero_or_pos x with h0 | h0
    · subst h0
      exact ⟨by omega, by omega, by omega, by omega, fun _ => ⟨by omega, by omega, by omega, by omega, by omega, by omega, by omega⟩⟩
    · have := i5 h0
      exact ⟨by omega, by omega, by omega, by omega, fun _ => ⟨by omega, by omega, by omega, by omega, by omega, by omega, by omega⟩⟩
theorem spec_genAI {I : Sx.Interp} {P : Program} {sp : FuncId → Option Sx.Spec} (hsp : ∀ f s, sp f = some s → Sx.SpecOK I P f s) (hm : P.follows .mixedOrders = true) (an : List Sx.Arg → List Ann) {f : FuncId} {fn : Func} {c : Code} {N : Nat}
    (hf : P.funcs[f]? = some fn) (hname : (fn.name == "runtime.NumGoroutine") = false) (hb' : fn.body.isSome = true) (hc : bodyOf fn = c) (hN : fn.ntmps = N) {ks : List AK} {g : List Sx.Arg → Option (Bool × List Ret)} (hks : ks.length ≤ N ∧ ks.length ≤ 64) (hrs : ∀ ar p rs, g ar = some (p, rs) → rs.length ≤ 8)
    (h : ∀ ar rs, ar.length = ks.length → g ar = some (true, rs) → wpcI P sp N (an ar) c 0 64 (envA ks ar 0) (memA ks ar 0) (retG P fn.results.toList rs)) : Sx.SpecOK I P f (gspec ks g) := spec_genA hsp hm an hf hname hb' hc hN hks hrs fun ar rs hl hg => wpcI_of (h ar rs hl hg)
def g_row33 (O : O33) (xs : List Sx.Arg) : Option (Bool × List Ret) := match xs with
  | [.structs l, .structs p, .v (.int .i64 h), .v (.agg ⟨[.int .i64 j, .int .i64 r, .int .i64 nap]⟩)] => some ((okSb [.i64, .i64, .i64, .u64, .i64] l) && (okSb [.i64, .i64, .i64, .i64, .i64] p), [.v (.bool true)])
  | _ => none
set_option maxHeartbeats 4000000 in
theorem vc_row33 (O : O33) (l p : List (List Int)) (h j r nap : Int) (mF : ∀ xa xe xq ya ye yq b p d l m h j r n : Int, O.may xa xe xq ya ye yq b p d l m h j r n = 0 → (O.hfee b p d l m ya).2 = true ∧ (O.hfee b p d l m ya).1 ≤ xa - ya ∧ 0 ≤ (O.hfee b p d l m ya).1 ∧ d ≤ xe - ye ∧ n < ye - h ∧ (0 ≤ d ∧ d ≤ 1048576) ∧ (1 ≤ xa ∧ xa ≤ 1125899906842624) ∧ (1 ≤ xe ∧ xe ≤ 1048576) ∧ (1 ≤ ya ∧ ya ≤ 1125899906842624) ∧ (1 ≤ ye ∧ ye ≤ 1048576) ∧ (0 ≤ h ∧ h ≤ 1048576) ∧ (0 ≤ n ∧ n ≤ 1000)) (hl : okSb [.i64, .i64, .i64, .u64, .i64] l = true) (hp : okSb [.i64, .i64, .i64, .i64, .i64] p = true) :
  If (iLt 8 (iOf (Cont.structs [IntKind.i64, IntKind.i64, IntKind.i64, IntKind.u64, IntKind.i64] l).n)) (Value.bool true = Value.bool true ∧ True)
    (If (iLt (iOf (Cont.structs [IntKind.i64, IntKind.i64, IntKind.i64, IntKind.u64, IntKind.i64] l).n) 2) (Value.bool true = Value.bool true ∧ True)
      (If
        (iLt (iOf (Cont.structs [IntKind.i64, IntKind.i64, IntKind.i64, IntKind.i64, IntKind.i64] p).n)
          (IntKind.i64.wrap (iSub (iOf (Cont.structs [IntKind.i64, IntKind.i64, IntKind.i64, IntKind.u64, IntKind.i64] l).n) 1)))
        (Value.bool true = Value.bool true ∧ True)
        ((∃ (x : Nat),
            (nAdd x 1 ≤ l.length ∧ ∀ (k : Nat), k.succ ≤ x → mayR O l p h j r nap k = 0) ∧
              (Value.int IntKind.i64 0 = Value.int IntKind.i64 (feeS O l p x) ∧
                  Value.int IntKind.i64 0 = Value.int IntKind.i64 (blkS p x) ∧
                    Value.int IntKind.i64 1 = Value.int IntKind.i64 (iAdd (iOf x) 1) ∧ Value.int IntKind.i64 h = Value.int IntKind.i64 h ∧ Value.bool true = Value.bool true ∧ True) ∧
                Array.mk [Value.int IntKind.i64 j, Value.int IntKind.i64 r, Value.int IntKind.i64 nap] = Array.mk [Value.int IntKind.i64 j, Value.int IntKind.i64 r, Value.int IntKind.i64 nap] ∧
                  Cont.structs [IntKind.i64, IntKind.i64, IntKind.i64, IntKind.u64, IntKind.i64] l = Cont.structs [IntKind.i64, IntKind.i64, IntKind.i64, IntKind.u64, IntKind.i64] l ∧
                    Cont.structs [IntKind.i64, IntKind.i64, IntKind.i64, IntKind.i64, IntKind.i64] p = Cont.structs [IntKind.i64, IntKind.i64, IntKind.i64, IntKind.i64, IntKind.i64] p ∧ True) ∧
          ∀ (x : Nat),
            (nAdd x 1 ≤ l.length ∧ ∀ (k : Nat), k.succ ≤ x → mayR O l p h j r nap k = 0) →
              If (iLt (iAdd (iOf x) 1) (iOf (Cont.structs [IntKind.i64, IntKind.i64, IntKind.i64, IntKind.u64, IntKind.i64] l).n))
                (If (iLe 0 (IntKind.i64.wrap (iSub (iAdd (iOf x) 1) 1)) && (IntKind.i64.wrap (iSub (iAdd (iOf x) 1) 1)).toNat.blt l.length)
                  (If (true && Nat.beq 5 5 && (IntKind.i64.wrap (iSub (iAdd (iOf x) 1) 1)).toNat.blt l.length)
                    (If (iLe 0 (iAdd (iOf x) 1) && (iAdd (iOf x) 1).toNat.blt l.length)
                      (If (true && Nat.beq 5 5 && (iAdd (iOf x) 1).toNat.blt l.length)
                        (If (iLe 0 (IntKind.i64.wrap (iSub (iAdd (iOf x) 1) 1)) && (IntKind.i64.wrap (iSub (iAdd (iOf x) 1) 1)).toNat.blt p.length)
                          (If (true && Nat.beq 5 5 && (IntKind.i64.wrap (iSub (iAdd (iOf x) 1) 1)).toNat.blt p.length)
                            (If
                              (inU ((l.getD (IntKind.i64.wrap (iSub (iAdd (iOf x) 1) 1)).toNat []).getD 3 0) 18446744073709551616 &&
                                  inU ((l.getD (iAdd (iOf x) 1).toNat []).getD 3 0) 18446744073709551616 &&
                                iLe ((p.getD (IntKind.i64.wrap (iSub (iAdd (iOf x) 1) 1)).toNat []).getD (nAdd 0 1) 0) 9223372036854775807)
                              (If
                                (iBne
                                  (O.may ((l.getD (IntKind.i64.wrap (iSub (iAdd (iOf x) 1) 1)).toNat []).getD 2 0) ((l.getD (IntKind.i64.wrap (iSub (iAdd (iOf x) 1) 1)).toNat []).getD 4 0)
                                    ((l.getD (IntKind.i64.wrap (iSub (iAdd (iOf x) 1) 1)).toNat []).getD 3 0) ((l.getD (iAdd (iOf x) 1).toNat []).getD 2 0) ((l.getD (iAdd (iOf x) 1).toNat []).getD 4 0)
                                    ((l.getD (iAdd (iOf x) 1).toNat []).getD 3 0) ((p.getD (IntKind.i64.wrap (iSub (iAdd (iOf x) 1) 1)).toNat []).getD 0 0)
                                    ((p.getD (IntKind.i64.wrap (iSub (iAdd (iOf x) 1) 1)).toNat []).getD 1 0) ((p.getD (IntKind.i64.wrap (iSub (iAdd (iOf x) 1) 1)).toNat []).getD 2 0)
                                    ((p.getD (IntKind.i64.wrap (iSub (iAdd (iOf x) 1) 1)).toNat []).getD 3 0) ((p.getD (IntKind.i64.wrap (iSub (iAdd (iOf x) 1) 1)).toNat []).getD 4 0) h j r nap)
                                  0)
                                (Value.bool true = Value.bool true ∧ True)
                                (If (iLe 0 (IntKind.i64.wrap (iSub (iAdd (iOf x) 1) 1)) && (IntKind.i64.wrap (iSub (iAdd (iOf x) 1) 1)).toNat.blt p.length)
                                  (If (true && Nat.beq 5 5 && (IntKind.i64.wrap (iSub (iAdd (iOf x) 1) 1)).toNat.blt p.length)
                                    (If (iLe 0 (iAdd (iOf x) 1) && (iAdd (iOf x) 1).toNat.blt l.length)
                                      (If ((iAdd (iOf x) 1).toNat.blt l.length)
                                        (If (true && Nat.beq 5 5 && (iAdd (iOf x) 1).toNat.blt l.length)
                                          (If (iLe ((p.getD (IntKind.i64.wrap (iSub (iAdd (iOf x) 1) 1)).toNat []).getD (nAdd 0 1) 0) 9223372036854775807)
                                            (If (iLe 0 (IntKind.i64.wrap (iSub (iAdd (iOf x) 1) 1)) && (IntKind.i64.wrap (iSub (iAdd (iOf x) 1) 1)).toNat.blt p.length)
                                              (If ((IntKind.i64.wrap (iSub (iAdd (iOf x) 1) 1)).toNat.blt p.length)
                                                (If (true && Nat.beq 5 5 && (IntKind.i64.wrap (iSub (iAdd (iOf x) 1) 1)).toNat.blt p.length)
                                                  (∃ (x' : Nat),
                                                    (nAdd x' 1 ≤ l.length ∧ ∀ (k : Nat), k.succ ≤ x' → mayR O l p h j r nap k = 0) ∧
                                                      (nSub l.length x').succ ≤ nSub l.length x ∧
                                                        (Value.int IntKind.i64
                                                                (IntKind.i64.wrap
                                                                  (iAdd (feeS O l p x)
                                                                    (O.1 ((p.getD (IntKind.i64.wrap (iSub (iAdd (iOf x) 1) 1)).toNat []).getD 0 0)
                                                                        ((p.getD (IntKind.i64.wrap (iSub (iAdd (iOf x) 1) 1)).toNat []).getD (nAdd 0 1) 0)
                                                                        ((p.getD (IntKind.i64.wrap (iSub (iAdd (iOf x) 1) 1)).toNat []).getD (nAdd (nAdd 0 1) 1) 0)
                                                                        ((p.getD (IntKind.i64.wrap (iSub (iAdd (iOf x) 1) 1)).toNat []).getD (nAdd (nAdd (nAdd 0 1) 1) 1) 0)
                                                                        ((p.getD (IntKind.i64.wrap (iSub (iAdd (iOf x) 1) 1)).toNat []).getD (nAdd (nAdd (nAdd (nAdd 0 1) 1) 1) 1) 0)
                                                                        ((l.getD (iAdd (iOf x) 1).toNat []).getD (nAdd (nAdd 0 1) 1) 0)).1)) =
                                                              Value.int IntKind.i64 (feeS O l p x') ∧
                                                            Value.int IntKind.i64 (IntKind.i64.wrap (iAdd (blkS p x) ((p.getD (IntKind.i64.wrap (iSub (iAdd (iOf x) 1) 1)).toNat []).getD 2 0))) =
                                                                Value.int IntKind.i64 (blkS p x') ∧
                                                              Value.int IntKind.i64 (IntKind.i64.wrap (iAdd (iAdd (iOf x) 1) 1)) = Value.int IntKind.i64 (iAdd (iOf x') 1) ∧
                                                                Value.int IntKind.i64 h = Value.int IntKind.i64 h ∧ Value.bool true = Value.bool true ∧ True) ∧
                                                          Array.mk [Value.int IntKind.i64 j, Value.int IntKind.i64 r, Value.int IntKind.i64 nap] =
                                                              Array.mk [Value.int IntKind.i64 j, Value.int IntKind.i64 r, Value.int IntKind.i64 nap] ∧
                                                            Cont.structs [IntKind.i64, IntKind.i64, IntKind.i64, IntKind.u64, IntKind.i64] l =
                                                                Cont.structs [IntKind.i64, IntKind.i64, IntKind.i64, IntKind.u64, IntKind.i64] l ∧
                                                              Cont.structs [IntKind.i64, IntKind.i64, IntKind.i64, IntKind.i64, IntKind.i64] p =
                                                                  Cont.structs [IntKind.i64, IntKind.i64, IntKind.i64, IntKind.i64, IntKind.i64] p ∧
                                                                True)
                                                  False)
                                                False)
                                              False)
                                            False)
                                          False)
                                        False)
                                      False)
                                    False)
                                  False))
                              False)
                            False)
                          False)
                        False)
                      False)
                    False)
                  False)
                (If
                  (iLe 0 (IntKind.i64.wrap (iSub (iOf (Cont.structs [IntKind.i64, IntKind.i64, IntKind.i64, IntKind.u64, IntKind.i64] l).n) 1)) &&
                    (IntKind.i64.wrap (iSub (iOf l.length) 1)).toNat.blt l.length)
                  (If (true && Nat.beq 5 5 && (IntKind.i64.wrap (iSub (iOf l.length) 1)).toNat.blt l.length)
                    (If (iLe 0 0 && Nat.blt 0 l.length)
                      (If (Nat.blt 0 l.length)
                        (If (true && Nat.beq 5 5 && Nat.blt 0 l.length)
                          (If
                            (iLe (feeS O l p x)
                              (IntKind.i64.wrap
                                (iSub ((l.getD (Int.toNat 0) []).getD (nAdd (nAdd 0 1) 1) 0)
                                  ((l.getD (IntKind.i64.wrap (iSub (iOf (Cont.structs [IntKind.i64, IntKind.i64, IntKind.i64, IntKind.u64, IntKind.i64] l).n) 1)).toNat []).getD (nAdd (nAdd 0 1) 1) 0))))
                            (If (iLe 0 0 && Nat.blt 0 l.length)
                              (If (Nat.blt 0 l.length)
                                (If (true && Nat.beq 5 5 && Nat.blt 0 l.length)
                                  (If
                                    (iLe (blkS p x)
                                      (IntKind.i64.wrap
                                        (iSub ((l.getD (Int.toNat 0) []).getD (nAdd (nAdd (nAdd (nAdd 0 1) 1) 1) 1) 0)
                                          ((l.getD (IntKind.i64.wrap (iSub (iOf (Cont.structs [IntKind.i64, IntKind.i64, IntKind.i64, IntKind.u64, IntKind.i64] l).n) 1)).toNat []).getD
                                            (nAdd (nAdd (nAdd (nAdd 0 1) 1) 1) 1) 0))))
                                    (If (iLe 0 0 && Nat.blt 0 l.length)
                                      (If (Nat.blt 0 l.length)
                                        (If (true && Nat.beq 5 5 && Nat.blt 0 l.length)
                                          (Value.bool (iLt (IntKind.i64.wrap (iAdd h nap)) ((l.getD (Int.toNat 0) []).getD (nAdd (nAdd (nAdd (nAdd 0 1) 1) 1) 1) 0)) = Value.bool true ∧ True) False)
                                        False)
                                      False)
                                    (Value.bool false = Value.bool true ∧ True))
                                  False)
                                False)
                              False)
                            (Value.bool false = Value.bool true ∧ True))
                          False)
                        False)
                      False)
                    False)
                  False)))) := by
  simp only [Sx.app, Sx.nAdd, Sx.nSub, Sx.nMul, Sx.nPow, Sx.nDiv, Sx.nMod, Sx.iAdd, Sx.iSub, Sx.iMul, Sx.iNeg, Sx.iPow, Sx.iOf, Sx.Cont.n, Int.toNat_zero, Nat.zero_add, Nat.reduceAdd]
  refine Sx.if_both (fun _ => (by first | rfl | trivial)) (fun c1 => Sx.if_both (fun _ => (by first | rfl | trivial)) (fun c2 => Sx.if_both (fun _ => (by first | rfl | trivial)) (fun c3 => ?_)))
  simp only [Bool.and_eq_true, Bool.or_eq_true, Sx.iLt_t, Sx.iLt_f, Sx.iLe_t, Sx.iLe_f, Sx.iEq_t, Sx.iEq_f, Sx.iBeq_t, Sx.iBeq_f, Sx.iBne_t, Sx.iBne_f, Nat.ble_eq, Nat.beq_eq, Sx.Cont.n] at c1 c2
  have h8 : l.length ≤ 8 := by omega
  have h2 : 2 ≤ l.length := by omega
  have ew : IntKind.i64.wrap ((l.length : Int) - 1) = (l.length : Int) - 1 := IntWalk.i64_in _ (by omega)
  rw [ew] at c3
  simp only [Bool.and_eq_true, Bool.or_eq_true, Sx.iLt_t, Sx.iLt_f, Sx.iLe_t, Sx.iLe_f, Sx.iEq_t, Sx.iEq_f, Sx.iBeq_t, Sx.iBeq_f, Sx.iBne_t, Sx.iBne_f, Nat.ble_eq, Nat.beq_eq, Sx.Cont.n] at c3
  have hpl : l.length - 1 ≤ p.length := by omega
  simp only [ew]
  have inv := row_inv O l p h j r nap mF
  refine ⟨⟨0, ⟨by omega, fun k hk => absurd hk (by omega)⟩, ⟨rfl, rfl, rfl, (by first | rfl | trivial)⟩, (by first | rfl | trivial)⟩, fun x hx => Sx.if_both (fun d1 => ?_) (fun d1 => ?_)⟩
  · simp only [Bool.and_eq_true, Bool.or_eq_true, Sx.iLt_t, Sx.iLt_f, Sx.iLe_t, Sx.iLe_f, Sx.iEq_t, Sx.iEq_f, Sx.iBeq_t, Sx.iBeq_f, Sx.iBne_t, Sx.iBne_f, Nat.ble_eq, Nat.beq_eq, Sx.Cont.n] at d1
    obtain ⟨hx1, hx2⟩ := hx
    have hlt : x + 1 < l.length := by omega
    have e1 : IntKind.i64.wrap ((x : Int) + 1 - 1) = (x : Int) := by rw [IntWalk.i64_in _ (by omega)]; omega
    have e2 : ((x : Int) + 1).toNat = x + 1 := by omega
    simp only [e1, e2, Int.toNat_natCast]
    have q1 := inU_wf (okSb_at hl (i := x) (by omega) (j := 3) (k := .u64) rfl)
    have q2 := inU_wf (okSb_at hl (i := x + 1) (by omega) (j := 3) (k := .u64) rfl)
    have q3 := bounds_i64 (okSb_at hp (i := x) (by omega) (j := 1) (k := .i64) rfl)
    refine Sx.if_true (by simp only [Bool.and_eq_true, Bool.or_eq_true, Sx.iLt_t, Sx.iLt_f, Sx.iLe_t, Sx.iLe_f, Sx.iEq_t, Sx.iEq_f, Sx.iBeq_t, Sx.iBeq_f, Sx.iBne_t, Sx.iBne_f, Nat.ble_eq, Nat.beq_eq, Sx.Cont.n, Nat.blt_eq, true_and, and_true]; omega) (Sx.if_true (by simp only [Bool.and_eq_true, Bool.or_eq_true, Sx.iLt_t, Sx.iLt_f, Sx.iLe_t, Sx.iLe_f, Sx.iEq_t, Sx.iEq_f, Sx.iBeq_t, Sx.iBeq_f, Sx.iBne_t, Sx.iBne_f, Nat.ble_eq, Nat.beq_eq, Sx.Cont.n, Nat.blt_eq, true_and, and_true]; omega) (Sx.if_true (by simp only [Bool.and_eq_true, Bool.or_eq_true, Sx.iLt_t, Sx.iLt_f, Sx.iLe_t, Sx.iLe_f, Sx.iEq_t, Sx.iEq_f, Sx.iBeq_t, Sx.iBeq_f, Sx.iBne_t, Sx.iBne_f, Nat.ble_eq, Nat.beq_eq, Sx.Cont.n, Nat.blt_eq, true_and, and_true]; omega) (Sx.if_true (by simp only [Bool.and_eq_true, Bool.or_eq_true, Sx.iLt_t, Sx.iLt_f, Sx.iLe_t, Sx.iLe_f, Sx.iEq_t, Sx.iEq_f, Sx.iBeq_t, Sx.iBeq_f, Sx.iBne_t, Sx.iBne_f, Nat.ble_eq, Nat.beq_eq, Sx.Cont.n, Nat.blt_eq, true_and, and_true]; omega) (Sx.if_true (by simp only [Bool.and_eq_true, Bool.or_eq_true, Sx.iLt_t, Sx.iLt_f, Sx.iLe_t, Sx.iLe_f, Sx.iEq_t, Sx.iEq_f, Sx.iBeq_t, Sx.iBeq_f, Sx.iBne_t, Sx.iBne_f, Nat.ble_eq, Nat.beq_eq, Sx.Cont.n, Nat.blt_eq, true_and, and_true]; omega) (Sx.if_true (by simp only [Bool.and_eq_true, Bool.or_eq_true, Sx.iLt_t, Sx.iLt_f, Sx.iLe_t, Sx.iLe_f, Sx.iEq_t, Sx.iEq_f, Sx.iBeq_t, Sx.iBeq_f, Sx.iBne_t, Sx.iBne_f, Nat.ble_eq, Nat.beq_eq, Sx.Cont.n, Nat.blt_eq, true_and, and_true]; omega) (Sx.if_true (by rw [q1, q2]; simp only [Bool.true_and, Bool.and_eq_true, Bool.or_eq_true, Sx.iLt_t, Sx.iLt_f, Sx.iLe_t, Sx.iLe_f, Sx.iEq_t, Sx.iEq_f, Sx.iBeq_t, Sx.iBeq_f, Sx.iBne_t, Sx.iBne_f, Nat.ble_eq, Nat.beq_eq, Sx.Cont.n]; exact q3.2) (Sx.if_both (fun _ => (by first | rfl | trivial)) (fun hm => ?_))))))))
    have hm' : mayR O l p h j r nap x = 0 := by
      simp only [Bool.and_eq_true, Bool.or_eq_true, Sx.iLt_t, Sx.iLt_f, Sx.iLe_t, Sx.iLe_f, Sx.iEq_t, Sx.iEq_f, Sx.iBeq_t, Sx.iBeq_f, Sx.iBne_t, Sx.iBne_f, Nat.ble_eq, Nat.beq_eq, Sx.Cont.n] at hm
      exact hm
    have hx3 : ∀ k, k + 1 ≤ x + 1 → mayR O l p h j r nap k = 0 := fun k hk => by
      rcases Nat.lt_or_ge k x with hk' | hk'
      · exact hx2 k hk'
      · have : k = x := by omega
        rw [this]; exact hm'
    obtain ⟨i1, i2, i3, i4, i5⟩ := inv (x + 1) hx3
    obtain ⟨j1, j2, j3, j4, _⟩ := inv x hx2
    have i6 := i5 (Nat.succ_pos _)
    have f1 : feeS O l p (x + 1) = feeS O l p x + feeR O l p x := rfl
    have f2 : blkS p (x + 1) = blkS p x + rP p x 2 := rfl
    refine Sx.if_true (by simp only [Bool.and_eq_true, Bool.or_eq_true, Sx.iLt_t, Sx.iLt_f, Sx.iLe_t, Sx.iLe_f, Sx.iEq_t, Sx.iEq_f, Sx.iBeq_t, Sx.iBeq_f, Sx.iBne_t, Sx.iBne_f, Nat.ble_eq, Nat.beq_eq, Sx.Cont.n, Nat.blt_eq, true_and, and_true]; omega) (Sx.if_true (by simp only [Bool.and_eq_true, Bool.or_eq_true, Sx.iLt_t, Sx.iLt_f, Sx.iLe_t, Sx.iLe_f, Sx.iEq_t, Sx.iEq_f, Sx.iBeq_t, Sx.iBeq_f, Sx.iBne_t, Sx.iBne_f, Nat.ble_eq, Nat.beq_eq, Sx.Cont.n, Nat.blt_eq, true_and, and_true]; omega) (Sx.if_true (by simp only [Bool.and_eq_true, Bool.or_eq_true, Sx.iLt_t, Sx.iLt_f, Sx.iLe_t, Sx.iLe_f, Sx.iEq_t, Sx.iEq_f, Sx.iBeq_t, Sx.iBeq_f, Sx.iBne_t, Sx.iBne_f, Nat.ble_eq, Nat.beq_eq, Sx.Cont.n, Nat.blt_eq, true_and, and_true]; omega) (Sx.if_true (by simp only [Nat.blt_eq]; omega) (Sx.if_true (by simp only [Bool.and_eq_true, Bool.or_eq_true, Sx.iLt_t, Sx.iLt_f, Sx.iLe_t, Sx.iLe_f, Sx.iEq_t, Sx.iEq_f, Sx.iBeq_t, Sx.iBeq_f, Sx.iBne_t, Sx.iBne_f, Nat.ble_eq, Nat.beq_eq, Sx.Cont.n, Nat.blt_eq, true_and, and_true]; omega) (Sx.if_true (by simp only [Bool.and_eq_true, Bool.or_eq_true, Sx.iLt_t, Sx.iLt_f, Sx.iLe_t, Sx.iLe_f, Sx.iEq_t, Sx.iEq_f, Sx.iBeq_t, Sx.iBeq_f, Sx.iBne_t, Sx.iBne_f, Nat.ble_eq, Nat.beq_eq, Sx.Cont.n]; exact q3.2) (Sx.if_true (by simp only [Bool.and_eq_true, Bool.or_eq_true, Sx.iLt_t, Sx.iLt_f, Sx.iLe_t, Sx.iLe_f, Sx.iEq_t, Sx.iEq_f, Sx.iBeq_t, Sx.iBeq_f, Sx.iBne_t, Sx.iBne_f, Nat.ble_eq, Nat.beq_eq, Sx.Cont.n, Nat.blt_eq, true_and, and_true]; omega) (Sx.if_true (by simp only [Nat.blt_eq]; omega) (Sx.if_true (by simp only [Bool.and_eq_true, Bool.or_eq_true, Sx.iLt_t, Sx.iLt_f, Sx.iLe_t, Sx.iLe_f, Sx.iEq_t, Sx.iEq_f, Sx.iBeq_t, Sx.iBeq_f, Sx.iBne_t, Sx.iBne_f, Nat.ble_eq, Nat.beq_eq, Sx.Cont.n, Nat.blt_eq, true_and, and_true]; omega) ?_))))))))
    refine ⟨x + 1, ⟨hlt, hx3⟩, by omega, ⟨?_, ?_, ?_, (by first | rfl | trivial)⟩, (by first | rfl | trivial)⟩
    · show Value.int .i64 (IntKind.i64.wrap (feeS O l p x + feeR O l p x)) = Value.int .i64 (feeS O l p (x + 1))
      rw [← f1, IntWalk.i64_in _ (by omega)]
    · show Value.int .i64 (IntKind.i64.wrap (blkS p x + rP p x 2)) = Value.int .i64 (blkS p (x + 1))
      rw [← f2, IntWalk.i64_in _ (by omega)]
    · rw [IntWalk.i64_in _ (by omega)]
      rfl
  · simp only [Bool.and_eq_true, Bool.or_eq_true, Sx.iLt_t, Sx.iLt_f, Sx.iLe_t, Sx.iLe_f, Sx.iEq_t, Sx.iEq_f, Sx.iBeq_t, Sx.iBeq_f, Sx.iBne_t, Sx.iBne_f, Nat.ble_eq, Nat.beq_eq, Sx.Cont.n] at d1
    obtain ⟨hx1, hx2⟩ := hx
    obtain ⟨y, rfl⟩ : ∃ y, x = y + 1 := ⟨x - 1, by omega⟩
    have hl2 : l.length = y + 1 + 1 := by omega
    obtain ⟨i1, i2, i3, i4, i5⟩ := inv (y + 1) hx2
    have i6 := i5 (Nat.succ_pos _)
    have e3 : ((l.length : Int) - 1).toNat = y + 1 := by omega
    simp only [e3]
    have hb0 : Nat.blt 0 l.length = true := by rw [Nat.blt_eq]; omega
    have g1 : IntKind.i64.wrap ((l.getD 0 []).getD 2 0 - (l.getD (y + 1) []).getD 2 0) = rA l 0 - rA l (y + 1) := by
      show IntKind.i64.wrap (rA l 0 - rA l (y + 1)) = _
      exact IntWalk.i64_in _ (by omega)
    have g2 : IntKind.i64.wrap ((l.getD 0 []).getD 4 0 - (l.getD (y + 1) []).getD 4 0) = rE l 0 - rE l (y + 1) := by
      show IntKind.i64.wrap (rE l 0 - rE l (y + 1)) = _
      exact IntWalk.i64_in _ (by omega)
    have g3 : IntKind.i64.wrap (h + nap) = h + nap := IntWalk.i64_in _ (by omega)
    have g4 : (l.getD 0 []).getD 4 0 = rE l 0 := rfl
    simp only [g1, g2, g3]
    exact Sx.if_true (by simp only [Bool.and_eq_true, Bool.or_eq_true, Sx.iLt_t, Sx.iLt_f, Sx.iLe_t, Sx.iLe_f, Sx.iEq_t, Sx.iEq_f, Sx.iBeq_t, Sx.iBeq_f, Sx.iBne_t, Sx.iBne_f, Nat.ble_eq, Nat.beq_eq, Sx.Cont.n, Nat.blt_eq, true_and, and_true]; omega) (Sx.if_true (by simp only [Bool.and_eq_true, Bool.or_eq_true, Sx.iLt_t, Sx.iLt_f, Sx.iLe_t, Sx.iLe_f, Sx.iEq_t, Sx.iEq_f, Sx.iBeq_t, Sx.iBeq_f, Sx.iBne_t, Sx.iBne_f, Nat.ble_eq, Nat.beq_eq, Sx.Cont.n, Nat.blt_eq, true_and, and_true]; omega) (Sx.if_true (by simp only [Bool.and_eq_true, Bool.or_eq_true, Sx.iLt_t, Sx.iLt_f, Sx.iLe_t, Sx.iLe_f, Sx.iEq_t, Sx.iEq_f, Sx.iBeq_t, Sx.iBeq_f, Sx.iBne_t, Sx.iBne_f, Nat.ble_eq, Nat.beq_eq, Sx.Cont.n, Nat.blt_eq, true_and, and_true]; omega) (Sx.if_true hb0 (Sx.if_true (by simp only [Bool.and_eq_true, Bool.or_eq_true, Sx.iLt_t, Sx.iLt_f, Sx.iLe_t, Sx.iLe_f, Sx.iEq_t, Sx.iEq_f, Sx.iBeq_t, Sx.iBeq_f, Sx.iBne_t, Sx.iBne_f, Nat.ble_eq, Nat.beq_eq, Sx.Cont.n, Nat.blt_eq, true_and, and_true]; omega) (Sx.if_true (by simp only [Bool.and_eq_true, Bool.or_eq_true, Sx.iLt_t, Sx.iLt_f, Sx.iLe_t, Sx.iLe_f, Sx.iEq_t, Sx.iEq_f, Sx.iBeq_t, Sx.iBeq_f, Sx.iBne_t, Sx.iBne_f, Nat.ble_eq, Nat.beq_eq, Sx.Cont.n, Nat.blt_eq, true_and, and_true]; omega) (Sx.if_true (by simp only [Bool.and_eq_true, Bool.or_eq_true, Sx.iLt_t, Sx.iLt_f, Sx.iLe_t, Sx.iLe_f, Sx.iEq_t, Sx.iEq_f, Sx.iBeq_t, Sx.iBeq_f, Sx.iBne_t, Sx.iBne_f, Nat.ble_eq, Nat.beq_eq, Sx.Cont.n, Nat.blt_eq, true_and, and_true]; omega) (Sx.if_true hb0 (Sx.if_true (by simp only [Bool.and_eq_true, Bool.or_eq_true, Sx.iLt_t, Sx.iLt_f, Sx.iLe_t, Sx.iLe_f, Sx.iEq_t, Sx.iEq_f, Sx.iBeq_t, Sx.iBeq_f, Sx.iBne_t, Sx.iBne_f, Nat.ble_eq, Nat.beq_eq, Sx.Cont.n, Nat.blt_eq, true_and, and_true]; omega) (Sx.if_true (by simp only [Bool.and_eq_true, Bool.or_eq_true, Sx.iLt_t, Sx.iLt_f, Sx.iLe_t, Sx.iLe_f, Sx.iEq_t, Sx.iEq_f, Sx.iBeq_t, Sx.iBeq_f, Sx.iBne_t, Sx.iBne_f, Nat.ble_eq, Nat.beq_eq, Sx.Cont.n, Nat.blt_eq, true_and, and_true]; omega) (Sx.if_true (by simp only [Bool.and_eq_true, Bool.or_eq_true, Sx.iLt_t, Sx.iLt_f, Sx.iLe_t, Sx.iLe_f, Sx.iEq_t, Sx.iEq_f, Sx.iBeq_t, Sx.iBeq_f, Sx.iBne_t, Sx.iBne_f, Nat.ble_eq, Nat.beq_eq, Sx.Cont.n, Nat.blt_eq, true_and, and_true]; omega) (Sx.if_true hb0 (Sx.if_true (by simp only [Bool.and_eq_true, Bool.or_eq_true, Sx.iLt_t, Sx.iLt_f, Sx.iLe_t, Sx.iLe_f, Sx.iEq_t, Sx.iEq_f, Sx.iBeq_t, Sx.iBeq_f, Sx.iBne_t, Sx.iBne_f, Nat.ble_eq, Nat.beq_eq, Sx.Cont.n, Nat.blt_eq, true_and, and_true]; omega) ⟨by rw [show iLt (h + nap) ((l.getD 0 []).getD 4 0) = true by rw [g4]; simp only [Bool.and_eq_true, Bool.or_eq_true, Sx.iLt_t, Sx.iLt_f, Sx.iLe_t, Sx.iLe_f, Sx.iEq_t, Sx.iEq_f, Sx.iBeq_t, Sx.iBeq_f, Sx.iBne_t, Sx.iBne_f, Nat.ble_eq, Nat.beq_eq, Sx.Cont.n]; omega], trivial⟩))))))))))))
theorem wpc_row33 (O : O33) (l p : List (List Int)) (h j r nap : Int) (mF : ∀ xa xe xq ya ye yq b p d l m h j r n : Int, O.may xa xe xq ya ye yq b p d l m h j r n = 0 → (O.hfee b p d l m ya).2 = true ∧ (O.hfee b p d l m ya).1 ≤ xa - ya ∧ 0 ≤ (O.hfee b p d l m ya).1 ∧ d ≤ xe - ye ∧ n < ye - h ∧ (0 ≤ d ∧ d ≤ 1048576) ∧ (1 ≤ xa ∧ xa ≤ 1125899906842624) ∧ (1 ≤ xe ∧ xe ≤ 1048576) ∧ (1 ≤ ya ∧ ya ≤ 1125899906842624) ∧ (1 ≤ ye ∧ ye ≤ 1048576) ∧ (0 ≤ h ∧ h ≤ 1048576) ∧ (0 ≤ n ∧ n ≤ 1000)) (hl : okSb [.i64, .i64, .i64, .u64, .i64] l = true) (hp : okSb [.i64, .i64, .i64, .i64, .i64] p = true) : wpcI Try.prog (sp33b O) Try.f10.ntmps [⟨Nat, [0, 1, 2, 7, 9], [], fun B x => [(10, .v (.int .i64 (feeS O l p x))), (11, .v (.int .i64 (blkS p x))), (12, .v (.int .i64 ((x : Int) + 1)))], fun B x => [], fun x => x + 1 ≤ l.length ∧ ∀ k, k < x → mayR O l p h j r nap k = 0, fun x => l.length - x, 0⟩] (bodyOf Try.f10) 0 64 (envA [.roS [.i64, .i64, .i64, .u64, .i64], .roS [.i64, .i64, .i64, .i64, .i64], .v, .v] [.structs l, .structs p, .v (.int .i64 h), .v (.agg ⟨[.int .i64 j, .int .i64 r, .int .i64 nap]⟩)] 0) (memA [.roS [.i64, .i64, .i64, .u64, .i64], .roS [.i64, .i64, .i64, .i64, .i64], .v, .v] [.structs l, .structs p, .v (.int .i64 h), .v (.agg ⟨[.int .i64 j, .int .i64 r, .int .i64 nap]⟩)] 0) (retG Try.prog Try.f10.results.toList [.v (.bool true)]) :=
  Eq.mpr (by kernel_rfl) (vc_row33 O l p h j r nap mF hl hp)
theorem mF_oo (xa xe xq ya ye yq b p d l m h j r n : Int) (k : o33.may xa xe xq ya ye yq b p d l m h j r n = 0) : (o33.hfee b p d l m ya).2 = true ∧ (o33.hfee b p d l m ya).1 ≤ xa - ya ∧ 0 ≤ (o33.hfee b p d l m ya).1 ∧ d ≤ xe - ye ∧ n < ye - h ∧ (0 ≤ d ∧ d ≤ 1048576) ∧ (1 ≤ xa ∧ xa ≤ 1125899906842624) ∧ (1 ≤ xe ∧ xe ≤ 1048576) ∧ (1 ≤ ya ∧ ya ≤ 1125899906842624) ∧ (1 ≤ ye ∧ ye ≤ 1048576) ∧ (0 ≤ h ∧ h ≤ 1048576) ∧ (0 ≤ n ∧ n ≤ 1000) := may_ok k
theorem ok_row33 : Sx.SpecOK I0 Try.prog 10 (gspec [.roS [.i64, .i64, .i64, .u64, .i64], .roS [.i64, .i64, .i64, .i64, .i64], .v, .v] (g_row33 o33)) := by
  refine spec_genAI (sp33b_ok I0 o33 rfl) (by kernel_rfl) (fun xs => match xs with | [.structs l, .structs p, .v (.int .i64 h), .v (.agg ⟨[.int .i64 j, .int .i64 r, .int .i64 nap]⟩)] => [⟨Nat, [0, 1, 2, 7, 9], [], fun B x => [(10, .v (.int .i64 (feeS o33 l p x))), (11, .v (.int .i64 (blkS p x))), (12, .v (.int .i64 ((x : Int) + 1)))], fun B x => [], fun x => x + 1 ≤ l.length ∧ ∀ k, k < x → mayR o33 l p h j r nap k = 0, fun x => l.length - x, 0⟩] | _ => []) Try.func10 (by kernel_rfl) (by kernel_rfl) rfl Try.ntmps10 (by decide) ?_ ?_
  · intro xs p rs h; unfold g_row33 at h; split at h <;> first | (simp only [Option.some.injEq, Prod.mk.injEq] at h; rw [← h.2]; simp) | cases h
  · intro xs rs hl h
    unfold g_row33 at h
    split at h
    · rename_i l p hh j r nap
      simp only [Option.some.injEq, Prod.mk.injEq, Bool.and_eq_true] at h
      obtain ⟨⟨h1, h2⟩, rfl⟩ := h
      exact wpc_row33 o33 l p hh j r nap mF_oo h1 h2
    · cases h
theorem walk_row33 (w : World) (a_l : Option Addr) (len_l cap_l : Nat) (z_l : List (List Int)) (hr_l : IsRowS [.i64, .i64, .i64, .u64, .i64] w a_l len_l cap_l z_l) (hs_l : ∀ x, a_l = some x → x.spot = none ∧ x.block < w.heap.size)
    (a_p : Option Addr) (len_p cap_p : Nat) (z_p : List (List Int)) (hr_p : IsRowS [.i64, .i64, .i64, .i64, .i64] w a_p len_p cap_p z_p) (hs_p : ∀ x, a_p = some x → x.spot = none ∧ x.block < w.heap.size) (h j r nap : Int) :
    Calls Try.prog 10 #[.slice a_l len_l cap_l, .slice a_p len_p cap_p, .int .i64 h, .agg ⟨[.int .i64 j, .int .i64 r, .int .i64 nap]⟩] w fun e w' => e = .returned (.bool true) ∧ Kp w w' := by
  have hg : g_row33 o33 [.structs (z_l.take len_l), .structs (z_p.take len_p), .v (.int .i64 h), .v (.agg ⟨[.int .i64 j, .int .i64 r, .int .i64 nap]⟩)] = some (true, [.v (.bool true)]) := by
    unfold g_row33
    simp only [Option.some.injEq, Prod.mk.injEq, Bool.and_eq_true, and_true]
    exact ⟨okSb_of (rowS_ok hr_l), okSb_of (rowS_ok hr_p)⟩
  exact (calls_ros ok_row33 [.slice a_l len_l cap_l, .slice a_p len_p cap_p] (fun i b => match i with | 0 => ∃ x, a_l = some x ∧ x.block = b | _ => ∃ x, a_p = some x ∧ x.block = b) (cs := [.structs [.i64, .i64, .i64, .u64, .i64] (z_l.take len_l), .structs [.i64, .i64, .i64, .i64, .i64] (z_p.take len_p)]) (xs := [.row 0, .row 1, .v (.int .i64 h), .v (.agg ⟨[.int .i64 j, .int .i64 r, .int .i64 nap]⟩)]) (by simp)
    (fun i c hc => by
      match i, hc with
      | 0, hc => cases hc; exact rowS_reads (by decide) hr_l hs_l
      | 1, hc => cases hc; exact rowS_reads (by decide) hr_p hs_p
      | i + 2, hc => cases hc)
    (fun i c b hc hb => by
      match i, hc, hb with
      | 0, hc, hb => obtain ⟨x, hx, rfl⟩ := hb; exact (hs_l x hx).2
      | 1, hc, hb => obtain ⟨x, hx, rfl⟩ := hb; exact (hs_p x hx).2
      | i + 2, hc, hb => cases hc) rfl rfl rfl hg).mono fun _ _ ⟨he, hf⟩ => ⟨he, fr_below hf⟩
end Go.Proofs.Ytcdmmfelagbpdaa
