/- Sheet: the document's Same, and what the laws are made of: few, plain, done (printed by genSh.py; VCs by VcTool). -/
import Derived.Test.YtgekiddgdjeaiaaGreatSh6
namespace Go.Proofs.YtgekiddgdjeaiaaGreat
open Go.RowKit Go.Lib Ckp Cfd Cpd Sx
set_option linter.unusedVariables false
set_option linter.unusedSimpArgs false
set_option maxRecDepth 1000000
set_option maxHeartbeats 4000000
def acj (no h0 h1 rt : Int) (l : List (List Int)) (no' h0' h1' rt' : Int) (l' : List (List Int)) : Bool :=
 bif (bif (bif (bif qc no no' then true else !(ax h0 h0' && ax h1 h1')) then true else qc rt rt') then true else qc (l.length : Int) (l'.length : Int)) then false else decide (l = l')
def aj2 (x : Int) : Bool := bif iLt 36028797018963968 x then true else iLt x (-36028797018963968)
def ahr (h0 h1 rt : Int) (l : List (List Int)) : Bool :=
 bif (bif (bif (bif (bif (bif (bif iLt 20 (l.length : Int) then true else iLt 36028797018963968 h0) then true else iLt 36028797018963968 h1) then true else iLt h0 (-36028797018963968)) then true else iLt h1 (-36028797018963968)) then true else iLt 1048576 rt) then true else iLt rt (-1048576)) then false else l.all fun x => !(aj2 (x.getD 2 0))
def aii (d : Int) : Int := IntKind.i64.wrap (((BitVec.ofInt 64 d &&& BitVec.ofNat 64 3).toNat : Nat) : Int)
def dE (O : OO) (c : Nat → Int) (no h0 h1 rt : Int) (l : List (List Int)) (d f i a q e k r : Int) : Int := bif ax (aii d) 0 then gm O c no h0 h1 rt l f i a q e else bif ax (aii d) 1 then aas O c no h0 h1 rt l f i k else bif ax (aii d) 2 then vz O c no h0 h1 rt l f i else ny O c no h0 h1 rt l r
def dH0 (h0 : Int) (l : List (List Int)) (d f i a : Int) : Int := bif ax (aii d) 0 then hsub f h0 a 0 else bif ax (aii d) 1 then hadd f h0 (ak f i l 2) 1 else bif ax (aii d) 2 then hadd f h0 (ak f i l 2) 0 else h0
def dH1 (h1 : Int) (l : List (List Int)) (d f i a : Int) : Int := bif ax (aii d) 0 then hsub f h1 a 1 else bif ax (aii d) 1 then hadd f h1 (ak f i l 2) 0 else bif ax (aii d) 2 then hadd f h1 (ak f i l 2) 1 else h1
def dRt (rt d r : Int) : Int := bif ax (aii d) 0 then rt else bif ax (aii d) 1 then rt else bif ax (aii d) 2 then rt else r
def dL (l : List (List Int)) (d f i a q e : Int) : List (List Int) := bif ax (aii d) 0 then bn [f, i, a, q, e] l else bif ax (aii d) 1 then mg [ak f i l 0, ak f i l 1, ak f i l 2, ak f i l 3, ak f i l 4] l else bif ax (aii d) 2 then mg [ak f i l 0, ak f i l 1, ak f i l 2, ak f i l 3, ak f i l 4] l else l
def bmk (O : OO) : Bool := O.isH (AV fun _ => 0) && O.isH (AV fun j => (1 :: List.replicate 31 (0 : Int)).getD j 0)
def kb (O : OO) (h n : Int) : Int := O.jl (O.lm (AV (O.tag (ByteArray.mk (Array.mk [107, 105, 116])) [h :: List.replicate 31 0, [n]])))
def plL (O : OO) : List Int := 1 :: List.replicate 31 0 ++ [0, 5000, kb O 0 1, kb O 0 2, kb O 0 3, kb O 0 4, kb O 0 5, kb O 1 1, kb O 1 2, kb O 1 3, kb O 1 4, kb O 1 5, 100, 100, 10, 16, 1, 5000, 100, 100, 10, 16, 1, 5000, 0]
def plA (O : OO) (Y : OY) : Array Value := chA fun j => (plL O).getD j 0
theorem bgh (a b c d : Int) : eqv (Array.mk [Value.int .i64 a, Value.int .i64 b]) (Array.mk [Value.int .i64 c, Value.int .i64 d]) = (ax a c && ax b d) := by
 show ((a == c) && ((b == d) && true)) = _
 rw [Bool.and_true]; rfl
theorem a6p {l l' : List (List Int)} {x : Nat} (h1 : x < l.length) (h2 : x < l'.length) : l.take (x + 1) = l'.take (x + 1) ↔ l.take x = l'.take x ∧ l.getD x [] = l'.getD x [] := by
 rw [List.take_add_one, List.take_add_one, List.getElem?_eq_getElem h1, List.getElem?_eq_getElem h2, getD_at h1, getD_at h2]
 constructor
 ·intro h
  have := List.append_inj' h rfl
  exact ⟨this.1, by simpa using this.2⟩
 ·rintro ⟨a, b⟩
  rw [a, b]
theorem a9b {ks : List Int} {l l' : List (List Int)} {x : Nat} (g1 : cnd l = true) (g3 : cnd l' = true) (h1 : x < l.length) (h2 : x < l'.length) : eqv (Array.mk [Value.int .i64 ((l.getD x []).getD 0 0), Value.int .i64 ((l.getD x []).getD 1 0), Value.int .i64 ((l.getD x []).getD 2 0), Value.int .u64 ((l.getD x []).getD 3 0), Value.int .i64 ((l.getD x []).getD 4 0)]) (Array.mk [Value.int .i64 ((l'.getD x []).getD 0 0), Value.int .i64 ((l'.getD x []).getD 1 0), Value.int .i64 ((l'.getD x []).getD 2 0), Value.int .u64 ((l'.getD x []).getD 3 0), Value.int .i64 ((l'.getD x []).getD 4 0)]) = decide (l.getD x [] = l'.getD x []) := by
 have a := aea g1 h1
 have b := aea g3 h2
 revert a b
 generalize l.getD x [] = u
 generalize l'.getD x [] = v
 intro a b
 rw [← a, ← b]
 simp only [List.getD_cons_zero, List.getD_cons_succ]
 generalize u.getD 0 0 = u0
 generalize u.getD 1 0 = u1
 generalize u.getD 2 0 = u2
 generalize u.getD 3 0 = u3
 generalize u.getD 4 0 = u4
 show ((u0 == _) && ((u1 == _) && ((u2 == _) && ((u3 == _) && ((u4 == _) && true))))) = _
 rw [Bool.eq_iff_iff]
 simp only [zaT, beq_iff_eq, decide_eq_true_eq, List.cons.injEq, and_true]
theorem bfg {a b : Int} (h : qc a b = false) : a = b := by simpa only [bdm] using h
def a8m (O : OO) (Y : OY) (f : FuncId) : Option Sx.Spec := match f with
 | 6 => some (au [.v, .agg [.v, .v, .v, .roS [.i64, .i64, .i64, .u64, .i64], .v], .v] true (aua O Y))
 | 8 => some (au [.v, .agg [.v, .v, .v, .roS [.i64, .i64, .i64, .u64, .i64], .v], .v, .v, .v] true (avx O Y))
 | 10 => some (au [.v, .agg [.v, .v, .v, .roS [.i64, .i64, .i64, .u64, .i64], .v], .v, .v] true (aly O Y))
 | 12 => some (au [.v, .agg [.v, .v, .v, .roS [.i64, .i64, .i64, .u64, .i64], .v], .v] true (amf O Y))
 | f => bau O Y f
theorem aio (I : Sx.Interp) (O : OO) (hO : O = oo) (Y : OY) (hY : Y = yO O) : ∀ f s, a8m O Y f = some s → ag I Tryz.prog f s := by
 intro f s h
 unfold a8m at h
 split at h
 · cases h; exact bjj I O hO Y hY
 · cases h; exact bjk I O hO Y hY
 · cases h; exact a8y I O hO Y hY
 · cases h; exact bcq I O hO Y hY
 ·exact af0 I O hO Y hY _ s h
def at6 (O : OO) (Y : OY) (ds : List Dt) : zG := match ds with
 | [.node [.v (.int .i64 no), .v (.int .i64 h0), .v (.int .i64 h1), .structs l, .v (.int .i64 rt)], .node [.v (.int .i64 no'), .v (.int .i64 h0'), .v (.int .i64 h1'), .structs l', .v (.int .i64 rt')]] => some ((Nat.ble l.length 1000) && (cnd l) && (Nat.ble l'.length 1000) && (cnd l'), [], fun _ => ⟨[.v (.bool (acj no h0 h1 rt l no' h0' h1' rt' l'))], []⟩)
 | _ => none
theorem bhz (O : OO) (Y : OY) (no h0 h1 rt : Int) (l : List (List Int)) (no' h0' h1' rt' : Int) (l' : List (List Int)) (F : FO O) (hy : Y = yO O) (g0 : Nat.ble l.length 1000 = true) (g1 : cnd l = true) (g2 : Nat.ble l'.length 1000 = true) (g3 : cnd l' = true) :
 let T1 := vB false = vB (acj no h0 h1 rt l no' h0' h1' rt' l') ∧ True ∧ True; let T2 := vI no' = vI no' ∧ vI h0' = vI h0' ∧ vI h1' = vI h1' ∧ vI rt' = vI rt'; let T3 := vI no = vI no ∧ vI h0 = vI h0 ∧ vI h1 = vI h1 ∧ vI rt = vI rt;
  If (qc no no') T1 (If (!eqv (Array.mk [vI h0, vI h1]) (Array.mk [vI h0', vI h1'])) T1 (If (qc rt rt') T1 (If (qc (iOf l.length) (iOf l'.length)) T1 ((∃ (x : Nat), (x ≤
  l.length ∧ anx (List.take x l) (List.take x l')) ∧ (vI 0 = vI (iOf x) ∧ vB false = vB false ∧ True) ∧ T2 ∧ T3 ∧ cS l = cS l ∧ cS l' = cS l' ∧ True) ∧ ∀ (x : Nat), x ≤ l.length ∧
  anx (List.take x l) (List.take x l') → If (iLt (iOf x) (iOf (cS l).n)) (If (iLe 0 (iOf x) && (iOf x).toNat.blt l.length) (If (true && Nat.beq 5 5 && (iOf x).toNat.blt l.length) (If
  (iLe 0 (iOf x) && (iOf x).toNat.blt l'.length) (If (true && Nat.beq 5 5 && (iOf x).toNat.blt l'.length) (If (!eqv (Array.mk [vI ((l.getD (iOf x).toNat []).getD 0 0), vI ((l.getD
  (iOf x).toNat []).getD 1 0), vI ((l.getD (iOf x).toNat []).getD 2 0), Value.int .u64 ((l.getD (iOf x).toNat []).getD 3 0), vI ((l.getD (iOf x).toNat []).getD 4 0)]) (Array.mk [vI
  ((l'.getD (iOf x).toNat []).getD 0 0), vI ((l'.getD (iOf x).toNat []).getD 1 0), vI ((l'.getD (iOf x).toNat []).getD 2 0), Value.int .u64 ((l'.getD (iOf x).toNat []).getD 3 0), vI
  ((l'.getD (iOf x).toNat []).getD 4 0)])) T1 (∃ (x' : Nat), (x' ≤ l.length ∧ anx (List.take x' l) (List.take x' l')) ∧ (iy l.length x').succ ≤ iy l.length x ∧ (vI
  (IntKind.i64.wrap (dh (iOf x) 1)) = vI (iOf x') ∧ vB false = vB false ∧ True) ∧ T2 ∧ T3 ∧ cS l = cS l ∧ cS l' = cS l' ∧ True)) False) False) False) False) (vB true = vB (acj no
  h0 h1 rt l no' h0' h1' rt' l') ∧ True ∧ True))))) := by
 conv => zeta
 simp only [zUn]
 have hm := zbL g0
 have hm' := zbL g2
 refine ae (fun a => ⟨by unfold acj; rw [a]; rfl, (by first | rfl | trivial)⟩) (fun a1 => ?_)
 rw [bgh]
 refine ae (fun a => ⟨by unfold acj; rw [a1, a]; rfl, (by first | rfl | trivial)⟩) (fun a2 => ae (fun a => ⟨by unfold acj; rw [a1, a2, a]; rfl, (by first | rfl | trivial)⟩) (fun a3 => ae (fun a => ⟨by unfold acj; rw [a1, a2, a3, a]; rfl, (by first | rfl | trivial)⟩) (fun a4 => ?_)))
 have hS : acj no h0 h1 rt l no' h0' h1' rt' l' = decide (l = l') := by unfold acj; rw [a1, a2, a3, a4]; rfl
 have hl : l.length = l'.length := by have := bfg a4; omega
 rw [hS]
 refine ⟨⟨0, ⟨Nat.zero_le _, rfl⟩, (by first | rfl | trivial)⟩, fun x hx => ae (fun h => ?_) (fun h => ?_)⟩
 ·simp only [Bz, Sx.af.n] at h
  have hlt : x < l.length := by omega
  have hlt' : x < l'.length := by omega
  have hbl : x.blt l.length = true := by rw [Nat.blt_eq]; exact hlt
  have hbl' : x.blt l'.length = true := by rw [Nat.blt_eq]; exact hlt'
  simp only [ztN]
  rw [a9b (ks := []) g1 g3 hlt hlt']
  have hx2 : l.take x = l'.take x := hx.2
  refine ziT (by simp only [Bz, Sx.af.n, hbl, and_true]; omega) (ziT (by rw [hbl]; rfl) (ziT (by simp only [Bz, Sx.af.n, hbl', and_true]; omega) (ziT (by rw [hbl']; rfl) (ae (fun c => ?_) (fun c => ?_)))))
  ·refine ⟨?_, (by first | rfl | trivial)⟩
   have hn : ¬ l = l' := fun e => by rw [e] at c; simp at c
   rw [decide_eq_false hn]
  ·have he : l.getD x [] = l'.getD x [] := by simpa using c
   exact ⟨x + 1, ⟨hlt, (a6p hlt hlt').2 ⟨hx2, he⟩⟩, by omega, ⟨by rw [wrap_succ (by omega)], (by first | rfl | trivial)⟩, (by first | rfl | trivial)⟩
 ·simp only [Bz, Sx.af.n] at h
  have hx1 : x = l.length := by omega
  have hx2 : l.take x = l'.take x := hx.2
  refine ⟨?_, (by first | rfl | trivial)⟩
  rw [hx1, List.take_of_length_le (Nat.le_refl _), hl, List.take_of_length_le (Nat.le_refl _)] at hx2
  rw [hx2, decide_eq_true rfl]
theorem bf7 (I : Sx.Interp) (O : OO) (hO : O = oo) (Y : OY) (hY : Y = yO O) : ag I Tryz.prog 16 (au [.agg [.v, .v, .v, .roS [.i64, .i64, .i64, .u64, .i64], .v], .agg [.v, .v, .v, .roS [.i64, .i64, .i64, .u64, .i64], .v]] false (at6 O Y)) := by
 refine jb (aio I O hO Y hY) (by kernel_rfl) (fun ds => match ds with | [.node [.v (.int .i64 no), .v (.int .i64 h0), .v (.int .i64 h1), .structs l, .v (.int .i64 rt)], .node [.v (.int .i64 no'), .v (.int .i64 h0'), .v (.int .i64 h1'), .structs l', .v (.int .i64 rt')]] => [⟨Nat, [2, 3, 4], [], fun B j => [(5, .v (.int .i64 (j : Int)))], fun B j => [], fun j => j ≤ l.length ∧ l.take j = l'.take j, fun j => l.length - j, 0⟩] | _ => []) Tryz.func16 (by kernel_rfl) (by kernel_rfl) rfl Tryz.ntmps16 (by decide) ?_ ?_
 ·intro ds p bs F h
  unfold at6 at h
  split at h
  ·simp only [zsI, zpI] at h
   obtain ⟨_, _, rfl⟩ := h
   kernel_rfl
  ·cases h
 ·intro ds bs F hl h
  unfold at6 at h
  split at h
  ·rename_i no h0 h1 l rt no' h0' h1' l' rt'
   simp only [zsI, zpI, zaT] at h
   obtain ⟨⟨⟨⟨g0, g1⟩, g2⟩, g3⟩, _, rfl⟩ := h
   exact Eq.mpr (by kernel_rfl) (bhz O Y no h0 h1 rt l no' h0' h1' rt' l' (dn O hO) hY g0 g1 g2 g3)
  ·cases h
def a1h (O : OO) (Y : OY) (ds : List Dt) : zG := match ds with
 | [.node [.v (.int .i64 no), .v (.int .i64 h0), .v (.int .i64 h1), .structs l, .v (.int .i64 rt)]] => some (true, [], fun _ => ⟨[.v (.bool (ahr h0 h1 rt l))], []⟩)
 | _ => none
theorem bl3 (O : OO) (Y : OY) (no h0 h1 rt : Int) (l : List (List Int)) (F : FO O) (hy : Y = yO O) :
 let T1 := vB false = vB (ahr h0 h1 rt l) ∧ True ∧ True; let T2 := vI no = vI no ∧ vI h0 = vI h0 ∧ vI h1 = vI h1 ∧ vI rt = vI rt; If (iLt 20 (iOf (cS l).n)) T1 (If (iLt
  36028797018963968 h0) T1 (If (iLt 36028797018963968 h1) T1 (If (iLt h0 (abn 36028797018963968)) T1 (If (iLt h1 (abn 36028797018963968)) T1 (If (iLt 1048576 rt) T1 (If (iLt rt
  (abn 1048576)) T1 ((∃ (x : Nat), (x ≤ l.length ∧ ((List.take x l).all fun (x : List Int) => !aj2 (x.getD 2 0)) = true) ∧ (vI 0 = vI (iOf x) ∧ vB false = vB false ∧ True) ∧ T2 ∧ cS
  l = cS l ∧ True) ∧ ∀ (x : Nat), x ≤ l.length ∧ ((List.take x l).all fun (x : List Int) => !aj2 (x.getD 2 0)) = true → If (iLt (iOf x) (iOf (cS l).n)) (If (iLe 0 (iOf x) && (iOf
  x).toNat.blt l.length) (If ((iOf x).toNat.blt l.length) (If (true && Nat.beq 5 5 && (iOf x).toNat.blt l.length) (If (iLt 36028797018963968 ((l.getD (iOf x).toNat []).getD (ay
  (ay 0 1) 1) 0)) T1 (If (iLe 0 (iOf x) && (iOf x).toNat.blt l.length) (If ((iOf x).toNat.blt l.length) (If (true && Nat.beq 5 5 && (iOf x).toNat.blt l.length) (If (iLt ((l.getD
  (iOf x).toNat []).getD (ay (ay 0 1) 1) 0) (abn 36028797018963968)) T1 (∃ (x' : Nat), (x' ≤ l.length ∧ ((List.take x' l).all fun (x : List Int) => !aj2 (x.getD 2 0)) = true) ∧
  (iy l.length x').succ ≤ iy l.length x ∧ (vI (IntKind.i64.wrap (dh (iOf x) 1)) = vI (iOf x') ∧ vB false = vB false ∧ True) ∧ T2 ∧ cS l = cS l ∧ True)) False) False) False))
  False) False) False) (vB true = vB (ahr h0 h1 rt l) ∧ True ∧ True)))))))) := by
 conv => zeta
 simp only [zUn]
 refine ae (fun a => ⟨by unfold ahr; rw [show iLt 20 (l.length : Int) = true from a]; rfl, (by first | rfl | trivial)⟩) (fun a1 => ae (fun a => ⟨by unfold ahr; rw [show iLt 20 (l.length : Int) = false from a1, a]; rfl, (by first | rfl | trivial)⟩) (fun a2 => ae (fun a => ⟨by unfold ahr; rw [show iLt 20 (l.length : Int) = false from a1, a2, a]; rfl, (by first | rfl | trivial)⟩) (fun a3 => ae (fun a => ⟨by unfold ahr; rw [show iLt 20 (l.length : Int) = false from a1, a2, a3, show iLt h0 (-36028797018963968) = true from a]; rfl, (by first | rfl | trivial)⟩) (fun a4 => ae (fun a => ⟨by unfold ahr; rw [show iLt 20 (l.length : Int) = false from a1, a2, a3, show iLt h0 (-36028797018963968) = false from a4, show iLt h1 (-36028797018963968) = true from a]; rfl, (by first | rfl | trivial)⟩) (fun a5 => ae (fun a => ⟨by unfold ahr; rw [show iLt 20 (l.length : Int) = false from a1, a2, a3, show iLt h0 (-36028797018963968) = false from a4, show iLt h1 (-36028797018963968) = false from a5, a]; rfl, (by first | rfl | trivial)⟩) (fun a6 => ae (fun a => ⟨by unfold ahr; rw [show iLt 20 (l.length : Int) = false from a1, a2, a3, show iLt h0 (-36028797018963968) = false from a4, show iLt h1 (-36028797018963968) = false from a5, a6, show iLt rt (-1048576) = true from a]; rfl, (by first | rfl | trivial)⟩) (fun a7 => ?_)))))))
 have hS : ahr h0 h1 rt l = l.all fun x => !(aj2 (x.getD 2 0)) := by
  unfold ahr; rw [show iLt 20 (l.length : Int) = false from a1, a2, a3, show iLt h0 (-36028797018963968) = false from a4, show iLt h1 (-36028797018963968) = false from a5, a6, show iLt rt (-1048576) = false from a7]; rfl
 rw [hS]
 have hm : l.length ≤ 20 := by have : iLt 20 (l.length : Int) = false := a1; rw [aeo] at this; omega
 refine ⟨⟨0, ⟨Nat.zero_le _, rfl⟩, (by first | rfl | trivial)⟩, fun x hx => ae (fun h => ?_) (fun h => ?_)⟩
 ·simp only [Bz, Sx.af.n] at h
  have hlt : x < l.length := by omega
  have hbl : x.blt l.length = true := by rw [Nat.blt_eq]; exact hlt
  simp only [ztN]
  have hfar : aj2 ((l.getD x []).getD 2 0) = true → (l.all fun x => !(aj2 (x.getD 2 0))) = false := fun hf => by
   rw [getD_at hlt] at hf
   rw [Bool.eq_false_iff]
   intro h
   have := List.all_eq_true.1 h _ (List.getElem_mem hlt)
   rw [hf] at this; cases this
  refine ziT (by simp only [Bz, Sx.af.n, hbl, and_true]; omega) (ziT hbl (ziT (by rw [hbl]; rfl) (ae (fun c => ⟨?_, (by first | rfl | trivial)⟩) (fun c => ziT (by simp only [Bz, Sx.af.n, hbl, and_true]; omega) (ziT hbl (ziT (by rw [hbl]; rfl) (ae (fun d => ⟨?_, (by first | rfl | trivial)⟩) (fun d => ?_))))))))
  ·rw [hfar (by unfold aj2; rw [show iLt 36028797018963968 ((l.getD x []).getD 2 0) = true from c]; rfl)]
  ·rw [hfar (by unfold aj2; rw [show iLt 36028797018963968 ((l.getD x []).getD 2 0) = false from c, show iLt ((l.getD x []).getD 2 0) (-36028797018963968) = true from d]; rfl)]
  ·have hf : aj2 ((l.getD x []).getD 2 0) = false := by unfold aj2; rw [show iLt 36028797018963968 ((l.getD x []).getD 2 0) = false from c, show iLt ((l.getD x []).getD 2 0) (-36028797018963968) = false from d]; rfl
   refine ⟨x + 1, ⟨hlt, ?_⟩, by omega, ⟨by rw [wrap_succ (by omega)], (by first | rfl | trivial)⟩, (by first | rfl | trivial)⟩
   rw [List.take_add_one, List.getElem?_eq_getElem hlt, List.all_append, hx.2, ← getD_at hlt]
   show (true && (!(aj2 ((l.getD x []).getD 2 0)) && true)) = true
   rw [hf]; rfl
 ·simp only [Bz, Sx.af.n] at h
  have hx1 : x = l.length := by omega
  have hx2 := hx.2
  rw [hx1, List.take_of_length_le (Nat.le_refl _)] at hx2
  exact ⟨by rw [hx2], (by first | rfl | trivial)⟩
theorem bl9 (I : Sx.Interp) (O : OO) (hO : O = oo) (Y : OY) (hY : Y = yO O) : ag I Tryz.prog 5 (au [.agg [.v, .v, .v, .roS [.i64, .i64, .i64, .u64, .i64], .v]] false (a1h O Y)) := by
 refine jb (aio I O hO Y hY) (by kernel_rfl) (fun ds => match ds with | [.node [.v (.int .i64 no), .v (.int .i64 h0), .v (.int .i64 h1), .structs l, .v (.int .i64 rt)]] => [⟨Nat, [1, 2], [], fun B j => [(3, .v (.int .i64 (j : Int)))], fun B j => [], fun j => j ≤ l.length ∧ (l.take j).all (fun x => !(aj2 (x.getD 2 0))) = true, fun j => l.length - j, 0⟩] | _ => []) Tryz.func5 (by kernel_rfl) (by kernel_rfl) rfl Tryz.ntmps5 (by decide) ?_ ?_
 ·intro ds p bs F h
  unfold a1h at h
  split at h
  ·simp only [zsI, zpI] at h
   obtain ⟨_, _, rfl⟩ := h
   kernel_rfl
  ·cases h
 ·intro ds bs F hl h
  unfold a1h at h
  split at h
  ·rename_i no h0 h1 l rt
   simp only [zsI, zpI, zaT] at h
   obtain ⟨_, _, rfl⟩ := h
   exact Eq.mpr (by kernel_rfl) (bl3 O Y no h0 h1 rt l (dn O hO) hY )
  ·cases h
def alx (O : OO) (Y : OY) (l : List Value) : Option (Bool × Value) := match l with
 | [] => some ((bmk O), .agg (plA O Y))
 | _ => none
theorem bba (O : OO) (Y : OY) (out : Value) (F : FO O) (hy : Y = yO O) (h0 : bmk O = true) (ho : .agg (plA O Y) = out) :
 let T1 := ByteArray.mk (Array.mk [107, 105, 116]); let T2 := O.lm (Array.mk (List.map (Value.int .u8) (jo (O.tag T1 [[0, 0, 0, 0, 0, 0, 0, 0, 0, 0, 0, 0, 0, 0, 0, 0, 0, 0, 0, 0, 0, 0, 0, 0, 0, 0, 0, 0, 0, 0, 0, 0], [1]]) 32)));
  let T3 := O.lm (Array.mk (List.map (Value.int .u8) (jo (O.tag T1 [[0, 0, 0, 0, 0, 0, 0, 0, 0, 0, 0, 0, 0, 0, 0, 0, 0, 0, 0, 0, 0, 0, 0, 0, 0, 0, 0, 0, 0, 0, 0, 0], [2]]) 32)));
  let T4 := O.lm (Array.mk (List.map (Value.int .u8) (jo (O.tag T1 [[0, 0, 0, 0, 0, 0, 0, 0, 0, 0, 0, 0, 0, 0, 0, 0, 0, 0, 0, 0, 0, 0, 0, 0, 0, 0, 0, 0, 0, 0, 0, 0], [3]]) 32)));
  let T5 := O.lm (Array.mk (List.map (Value.int .u8) (jo (O.tag T1 [[0, 0, 0, 0, 0, 0, 0, 0, 0, 0, 0, 0, 0, 0, 0, 0, 0, 0, 0, 0, 0, 0, 0, 0, 0, 0, 0, 0, 0, 0, 0, 0], [4]]) 32)));
  let T6 := O.lm (Array.mk (List.map (Value.int .u8) (jo (O.tag T1 [[0, 0, 0, 0, 0, 0, 0, 0, 0, 0, 0, 0, 0, 0, 0, 0, 0, 0, 0, 0, 0, 0, 0, 0, 0, 0, 0, 0, 0, 0, 0, 0], [5]]) 32)));
  let T7 := O.lm (Array.mk (List.map (Value.int .u8) (jo (O.tag T1 [[1, 0, 0, 0, 0, 0, 0, 0, 0, 0, 0, 0, 0, 0, 0, 0, 0, 0, 0, 0, 0, 0, 0, 0, 0, 0, 0, 0, 0, 0, 0, 0], [1]]) 32)));
  let T8 := O.lm (Array.mk (List.map (Value.int .u8) (jo (O.tag T1 [[1, 0, 0, 0, 0, 0, 0, 0, 0, 0, 0, 0, 0, 0, 0, 0, 0, 0, 0, 0, 0, 0, 0, 0, 0, 0, 0, 0, 0, 0, 0, 0], [2]]) 32)));
  let T9 := O.lm (Array.mk (List.map (Value.int .u8) (jo (O.tag T1 [[1, 0, 0, 0, 0, 0, 0, 0, 0, 0, 0, 0, 0, 0, 0, 0, 0, 0, 0, 0, 0, 0, 0, 0, 0, 0, 0, 0, 0, 0, 0, 0], [3]]) 32)));
  let T10 := O.lm (Array.mk (List.map (Value.int .u8) (jo (O.tag T1 [[1, 0, 0, 0, 0, 0, 0, 0, 0, 0, 0, 0, 0, 0, 0, 0, 0, 0, 0, 0, 0, 0, 0, 0, 0, 0, 0, 0, 0, 0, 0, 0], [4]]) 32)));
  let T11 := O.lm (Array.mk (List.map (Value.int .u8) (jo (O.tag T1 [[1, 0, 0, 0, 0, 0, 0, 0, 0, 0, 0, 0, 0, 0, 0, 0, 0, 0, 0, 0, 0, 0, 0, 0, 0, 0, 0, 0, 0, 0, 0, 0], [5]]) 32)));
  If (O.isH (Array.mk [Value.int .u8 0, Value.int .u8 0, Value.int .u8 0, Value.int .u8 0, Value.int .u8 0, Value.int .u8 0, Value.int .u8 0, Value.int .u8 0, Value.int .u8 0,
  Value.int .u8 0, Value.int .u8 0, Value.int .u8 0, Value.int .u8 0, Value.int .u8 0, Value.int .u8 0, Value.int .u8 0, Value.int .u8 0, Value.int .u8 0, Value.int .u8 0, Value.int
  .u8 0, Value.int .u8 0, Value.int .u8 0, Value.int .u8 0, Value.int .u8 0, Value.int .u8 0, Value.int .u8 0, Value.int .u8 0, Value.int .u8 0, Value.int .u8 0, Value.int .u8 0,
  Value.int .u8 0, Value.int .u8 0])) (If (inU T2 18446744073709551616 && inU T3 18446744073709551616 && inU T4 18446744073709551616 && inU T5 18446744073709551616 && inU T6
  18446744073709551616) (If (O.isH (Array.mk ([Value.int .u8 0, Value.int .u8 0, Value.int .u8 0, Value.int .u8 0, Value.int .u8 0, Value.int .u8 0, Value.int .u8 0, Value.int .u8 0,
  Value.int .u8 0, Value.int .u8 0, Value.int .u8 0, Value.int .u8 0, Value.int .u8 0, Value.int .u8 0, Value.int .u8 0, Value.int .u8 0, Value.int .u8 0, Value.int .u8 0, Value.int
  .u8 0, Value.int .u8 0, Value.int .u8 0, Value.int .u8 0, Value.int .u8 0, Value.int .u8 0, Value.int .u8 0, Value.int .u8 0, Value.int .u8 0, Value.int .u8 0, Value.int .u8 0,
  Value.int .u8 0, Value.int .u8 0, Value.int .u8 0].set 0 (Value.int .u8 1)))) (If (inU T7 18446744073709551616 && inU T8 18446744073709551616 && inU T9 18446744073709551616 && inU
  T10 18446744073709551616 && inU T11 18446744073709551616) (Value.agg (Array.mk ([Value.int .u8 1, Value.int .u8 0, Value.int .u8 0, Value.int .u8 0, Value.int .u8 0, Value.int .u8
  0, Value.int .u8 0, Value.int .u8 0, Value.int .u8 0, Value.int .u8 0, Value.int .u8 0, Value.int .u8 0, Value.int .u8 0, Value.int .u8 0, Value.int .u8 0, Value.int .u8 0,
  Value.int .u8 0, Value.int .u8 0, Value.int .u8 0, Value.int .u8 0, Value.int .u8 0, Value.int .u8 0, Value.int .u8 0, Value.int .u8 0, Value.int .u8 0, Value.int .u8 0, Value.int
  .u8 0, Value.int .u8 0, Value.int .u8 0, Value.int .u8 0, Value.int .u8 0, Value.int .u8 0, vI 0, vI 5000, Value.int .u64 (O.jl T2), Value.int .u64 (O.jl T3), Value.int .u64
  (O.jl T4), Value.int .u64 (O.jl T5), Value.int .u64 (O.jl T6), Value.int .u64 (O.jl T7), Value.int .u64 (O.jl T8), Value.int .u64 (O.jl T9), Value.int .u64
  (O.jl T10), Value.int .u64 (O.jl T11), vI 100, vI 100, vI 10, vI 16, vI 1, vI 5000, vI 100, vI 100, vI 10, vI 16, vI 1, vI 0, vI 0].set 55 (vI 5000))) = out) False) False)
  False) False := by
 conv => zeta
 subst ho
 unfold bmk at h0
 rw [zaT] at h0
 simp only [F.lm, Bool.and_self]
 exact ziT h0.1 (ziT rfl (ziT h0.2 (ziT rfl rfl)))
theorem bcl (I : Sx.Interp) (O : OO) (hO : O = oo) (Y : OY) (hY : Y = yO O) : ag I Tryz.prog 30 (bz (alx O Y)) := by
 refine jq (n := 0) (aio I O hO Y hY) (by kernel_rfl) [] Tryz.func30 (by kernel_rfl) (by kernel_rfl) rfl Tryz.ntmps30 (by decide) ?_ ?_
 ·intro l p v hg; unfold alx at hg; split at hg <;> first | rfl | cases hg
 ·intro l v hg
  unfold alx at hg
  split at hg
  ·skip
   simp only [zsI, zpI, zaT] at hg
   obtain ⟨q0, rfl⟩ := hg
   exact Eq.mpr (by kernel_rfl) (bba O Y   _ (dn O hO) hY q0  rfl)
  ·cases hg
def bnf (O : OO) (Y : OY) (ds : List Dt) : zG := match ds with
 | [.v (.agg ch), .node [.v (.int .i64 no), .v (.int .i64 h0), .v (.int .i64 h1), .structs l, .v (.int .i64 rt)], .v (.agg ⟨[.int .i64 d, .int .i64 f, .int .i64 i, .int .i64 a, .int .u64 q, .int .i64 e, .int .u64 k, .int .i64 r]⟩)] => some ((chB ch) && (Nat.ble l.length 1000) && (cnd l) && (inU q 18446744073709551616) && (inU k 18446744073709551616), [], fun _ => ⟨[.agg [.v (.int .i64 (bif ax (dE O (cz ch) no h0 h1 rt l d f i a q e k r) 0 then no else 0)), .v (.int .i64 (bif ax (dE O (cz ch) no h0 h1 rt l d f i a q e k r) 0 then (dH0 h0 l d f i a) else 0)), .v (.int .i64 (bif ax (dE O (cz ch) no h0 h1 rt l d f i a q e k r) 0 then (dH1 h1 l d f i a) else 0)), .row 1, .v (.int .i64 (bif ax (dE O (cz ch) no h0 h1 rt l d f i a q e k r) 0 then (dRt rt d r) else 0))], .v (.int .i64 (dE O (cz ch) no h0 h1 rt l d f i a q e k r))], [(1, .ro (.structs [.i64, .i64, .i64, .u64, .i64] (bif ax (dE O (cz ch) no h0 h1 rt l d f i a q e k r) 0 then (dL l d f i a q e) else [])))]⟩)
 | _ => none