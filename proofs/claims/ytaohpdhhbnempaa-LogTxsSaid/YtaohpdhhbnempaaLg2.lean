/- Log: the log's functions, by the symbolic machine (printed by genLg2.py; VCs by VcTool). -/
import Derived.Test.YtaohpdhhbnempaaLp
namespace Go.Proofs.Ytaohpdhhbnempaa
open Go.RowKit Go.Lib Ckp Cfd Cpd Sx
open IntKind (i64 u64 u8 i32 u32)
set_option linter.unusedVariables false
set_option linter.unusedSimpArgs false
set_option maxRecDepth 1000000
set_option maxHeartbeats 4000000
def lgX (O : OO) (R : OB) (b : List Int) (k : Nat) : List (List Int) := (lgS O R b k).1
def lgN (O : OO) (R : OB) (b : List Int) (k : Nat) : Nat := (lgS O R b k).2
def lgW (O : OO) (R : OB) (b : List Int) (e : Nat) (xs : List (List Int)) : List (List Int) := bif nxtOk O R b e then xs ++ [nxtB R b e] else xs
def lgE (O : OO) (R : OB) (b : List Int) (e : Nat) : Nat := bif nxtOk O R b e then e + (lgRow O R (nxtB R b e)).length else e
def agN (O : OO) (R : OB) (b : List Int) (e : Int) : Bool := bif iLt 65536 (b.length : Int) then true else iLt (4194304 - ((lgRow O R b).length : Int)) e
def apE (O : OO) (R : OB) (l : List Int) (bu : Int) (de br : Bool) (e : Int) (b : List Int) : Int := bif (bif br then true else de) then 21 else bif agN O R b e then 3 else bif wrO l (lgRow O R b) bu de then 0 else 21
def apX (O : OO) (R : OB) (l : List Int) (bu : Int) (de br : Bool) (e : Int) (b : List Int) (xs : List (List Int)) : List (List Int) := bif iBeq (apE O R l bu de br e b) 0 then xs ++ [b] else xs
def apM (O : OO) (R : OB) (l : List Int) (bu : Int) (de br : Bool) (e : Int) (b : List Int) : Int := bif iBeq (apE O R l bu de br e b) 0 then e + ((lgRow O R b).length : Int) else e
def apW (O : OO) (R : OB) (de br : Bool) (e : Int) (b : List Int) : Bool := bif (bif br then true else de) then false else !(agN O R b e)
def apL (O : OO) (R : OB) (l : List Int) (bu : Int) (de br : Bool) (e : Int) (b : List Int) : List Int := bif apW O R de br e b then wrL l (lgRow O R b) bu de else l
def apB (O : OO) (R : OB) (l : List Int) (bu : Int) (de br : Bool) (e : Int) (b : List Int) : Int := bif apW O R de br e b then wrB l (lgRow O R b) bu de else bu
def apD (O : OO) (R : OB) (l : List Int) (bu : Int) (de br : Bool) (e : Int) (b : List Int) : Bool := bif apW O R de br e b then wrD l (lgRow O R b) bu de else de
def apR (O : OO) (R : OB) (l : List Int) (bu : Int) (de br : Bool) (e : Int) (b : List Int) : Bool := bif apW O R de br e b then (bif wrO l (lgRow O R b) bu de then br else true) else br
def g_lnext (O : OO) (R : OB) (ds : List Dt) : zG := match ds with
 | [.node [.ints b], .node [.node [.node [.ints dl, .v (.int .i64 bu), .v (.bool de)], .rows xs, .v (.int .i64 e), .v (.bool br)]]] => some ((Nat.ble b.length 1000000) && (iLe 0 e && iLe e (b.length : Int)) && (byB b) && (Nat.ble xs.length 1000000), [], fun _ => ⟨[.v (.bool (nxtOk O R b e.toNat))], [(3, .blk 74 [.ptr 4 0, .row 8, .v (.int .i64 (lgE O R b e.toNat : Nat)), .v (.bool br)]), (8, .ownp 22 9), (9, .pool (lgW O R b e.toNat xs)), (4, .blk 28 [.row 10, .v (.int .i64 bu), .v (.bool de)]), (10, .own 5 (.ints .u8 dl)), (0, .blk 22 [.row 11]), (11, .ro (.ints .u8 b)), (2, .blk 29 [.ptr 3 0])]⟩)
 | _ => none
theorem vc_lnext (O : OO) (R : OB) (b dl : List Int) (bu : Int) (de : Bool) (xs : List (List Int)) (e : Int) (br : Bool) (F : FO O) (hr : R = bO) (hS : SB O) (h0 : (Nat.ble b.length 1000000) = true) (h1 : (iLe 0 e && iLe e (b.length : Int)) = true) (h2 : (byB b) = true) (h3 : (Nat.ble xs.length 1000000) = true) :
 let T1 := i64.wrap (iAdd (i64.wrap (iSub (iOf b.length) (iOf (R.nR (List.take (nSub (iOf b.length).toNat e.toNat) (List.drop e.toNat b))).length))) 8); let T2 := i64.wrap (iAdd (i64.wrap (iSub (iOf (Cont.ints .u8 b).n) (iOf (R.nR (List.take (nSub (iOf (Cont.ints .u8 b).n).toNat e.toNat) (List.drop e.toNat b))).length))) 8);
  let T3 := yB false = yB (nxtOk O R b e.toNat) ∧ True ∧ (yI e = yI (iOf (bif nxtOk O R b e.toNat then nAdd e.toNat (lgRow O R (nxtB R b e.toNat)).length else e.toNat)) ∧ yB br = yB br) ∧ EqII xs (lgW O R b e.toNat xs) ∧ (yI bu = yI bu ∧ yB de = yB de) ∧ EqI dl dl ∧ EqI b b ∧ True;
  let T4 := List.take (nSub (iOf b.length).toNat e.toNat) (List.drop e.toNat b); let T5 := List.take (nSub (iOf (Cont.ints .u8 b).n).toNat e.toNat) (List.drop e.toNat b); let T6 := List.take (nSub (i64.wrap (iAdd T1 (R.nV T4))).toNat T1.toNat) (List.drop T1.toNat b);
  let T7 := iLe 0 T2 && iLe T2 (i64.wrap (iAdd T2 (R.nV T5))) && iLe (i64.wrap (iAdd T2 (R.nV T5))) (iOf (Cont.ints .u8 b).n); let T8 := iLe 0 e && iLe e (iOf (Cont.ints .u8 b).n) && iLe (iOf (Cont.ints .u8 b).n) (iOf (Cont.ints .u8 b).n);
  If T8 (If (T4.length.ble 1000000) (If (T4.length.ble 1000000) (If (!!bif R.nOk T4 then false else true) T3 (If (iLt 65536 (R.nV T5)) T3 (If (iLt (i64.wrap (iSub (iOf (R.nR
  T5).length) 8)) (R.nV T5)) T3 (If T7 (If (T6.length.ble 1000000) (If T8 (If (!prfE T4 (lgRow O R T6)) T3 (If T7 (If (T6.length.ble 8388608) (If ((nMul (nAdd xs.length 1) 24).ble
  140737488355328 && (nAdd xs.length 1).ble 9223372036854775807) (yB true = yB (nxtOk O R b e.toNat) ∧ True ∧ (yI (i64.wrap (iAdd e (iOf (lgRow O R T6).length))) = yI (iOf
  (bif nxtOk O R b e.toNat then nAdd e.toNat (lgRow O R (nxtB R b e.toNat)).length else e.toNat)) ∧ yB br = yB br) ∧ EqII (app xs [List.take (nSub (i64.wrap (iAdd T1 (R.nV
  T4))).toNat T1.toNat) (List.drop T1.toNat b)]) (lgW O R b e.toNat xs) ∧ (yI bu = yI bu ∧ yB de = yB de) ∧ EqI dl dl ∧ EqI b b ∧ True) False) False) False)) False) False) False))))
  False) False) False := by
 conv => zeta
 have h0' := zbL h0
 have h3' := zbL h3
 simp only [Bz, Sx.Cont.n, zUn] at h1
 have e0 : List.take (nSub (iOf b.length).toNat e.toNat) (List.drop e.toNat b) = b.drop e.toNat := by
  simp only [zUn, ztN]; exact List.take_of_length_le (by rw [List.length_drop]; omega)
 simp only [show (Cont.ints u8 b).n = b.length from rfl, e0]
 have hsl : (b.drop e.toNat).length = b.length - e.toNat := List.length_drop
 have hby : byB (b.drop e.toNat) = true := byB_drop h2 _
 have fin : nxtOk O R b e.toNat = false → (Value.bool false = Value.bool (nxtOk O R b e.toNat) ∧ Value.int i64 e = Value.int i64 (iOf (bif nxtOk O R b e.toNat then nAdd e.toNat (lgRow O R (nxtB R b e.toNat)).length else e.toNat)) ∧ xs = lgW O R b e.toNat xs) := by
  intro c
  unfold lgW
  rw [c]
  refine ⟨rfl, ?_, rfl⟩
  have : e = iOf e.toNat := by simp only [zUn]; omega
  rw [cond_false, ← this]
 have t1 : ∀ {p q : Bool}, (bif (bif p then true else q) then false else true) = true → p = false ∧ q = false := by intro p q; cases p <;> cases q <;> decide
 refine ziT (by simp only [Bz, Sx.Cont.n, zUn]; omega) (ziT (by simp only [Bz, Sx.Cont.n]; omega) (ziT (by simp only [Bz, Sx.Cont.n]; omega) ?_))
 have hok : nxtOk O R b e.toNat = bif nxtT R b e.toNat then false else prfE (b.drop e.toNat) (lgRow O R (nxtB R b e.toNat)) := rfl
 cases k0 : R.nOk (b.drop e.toNat)
 ·exact ziT rfl (by
  have c : nxtOk O R b e.toNat = false := by rw [hok]; unfold nxtT; rw [k0]; rfl
  have k := fin c
  exact ⟨k.1, trivial, ⟨k.2.1, (by first | rfl | trivial)⟩, k.2.2, ⟨(by first | rfl | trivial), (by first | rfl | trivial)⟩, (by first | rfl | trivial), (by first | rfl | trivial), trivial⟩)
 refine Sx.if_false rfl ?_
 have hnum : 0 ≤ R.nV (b.drop e.toNat) ∧ R.nV (b.drop e.toNat) < 9223372036854775808 ∧ (R.nR (b.drop e.toNat)).length ≤ (b.drop e.toNat).length := by
  subst hr
  have k1 : (numG (b.drop e.toNat) 10 0 0).1 = true := k0
  have k2 := num_back hby (v := (numG (b.drop e.toNat) 10 0 0).2.1) (m := (numG (b.drop e.toNat) 10 0 0).2.2) (Prod.ext k1 rfl)
  refine ⟨k2.1, k2.2.1, ?_⟩
  show (bif (numG (b.drop e.toNat) 10 0 0).1 then (b.drop e.toNat).drop (numG (b.drop e.toNat) 10 0 0).2.2 else []).length ≤ _
  rw [k1, cond_true, List.length_drop]; omega
 obtain ⟨v0, v1, v2⟩ := hnum
 have w1 : i64.wrap (iSub (iOf b.length) (iOf (R.nR (b.drop e.toNat)).length)) = (b.length : Int) - ((R.nR (b.drop e.toNat)).length : Int) := by simp only [zUn]; rw [IntKind.wrap_i64]; omega
 have w2 : i64.wrap (iAdd ((b.length : Int) - ((R.nR (b.drop e.toNat)).length : Int)) 8) = nxtF R b e.toNat := by unfold nxtF; simp only [zUn]; rw [IntKind.wrap_i64]; omega
 have w4 : i64.wrap (iSub (iOf (R.nR (b.drop e.toNat)).length) 8) = ((R.nR (b.drop e.toNat)).length : Int) - 8 := by simp only [zUn]; rw [IntKind.wrap_i64]; omega
 simp only [w1, w2, w4]
 refine Sx.if_both (fun h => by
  have c : nxtOk O R b e.toNat = false := by rw [hok]; unfold nxtT; rw [k0, h]; rfl
  have k := fin c
  exact ⟨k.1, trivial, ⟨k.2.1, (by first | rfl | trivial)⟩, k.2.2, ⟨(by first | rfl | trivial), (by first | rfl | trivial)⟩, (by first | rfl | trivial), (by first | rfl | trivial), trivial⟩) (fun k1 => Sx.if_both (fun h => by
  have c : nxtOk O R b e.toNat = false := by rw [hok]; unfold nxtT; rw [k0, k1, h]; rfl
  have k := fin c
  exact ⟨k.1, trivial, ⟨k.2.1, (by first | rfl | trivial)⟩, k.2.2, ⟨(by first | rfl | trivial), (by first | rfl | trivial)⟩, (by first | rfl | trivial), (by first | rfl | trivial), trivial⟩) (fun k2 => ?_))
 have ht : nxtT R b e.toNat = false := by unfold nxtT; rw [k0, k1, k2]; rfl
 rw [ht, cond_false] at hok
 have k1' := k1
 have k2' := k2
 simp only [Bz, Sx.Cont.n] at k1' k2'
 have hF : nxtF R b e.toNat = (b.length : Int) - ((R.nR (b.drop e.toNat)).length : Int) + 8 := rfl
 have w3 : i64.wrap (iAdd (nxtF R b e.toNat) (R.nV (b.drop e.toNat))) = nxtF R b e.toNat + R.nV (b.drop e.toNat) := by simp only [zUn]; rw [IntKind.wrap_i64]; omega
 have w5 : nSub (nxtF R b e.toNat + R.nV (b.drop e.toNat)).toNat (nxtF R b e.toNat).toNat = (R.nV (b.drop e.toNat)).toNat := by simp only [zUn]; omega
 have hB : List.take (R.nV (b.drop e.toNat)).toNat (List.drop (nxtF R b e.toNat).toNat b) = nxtB R b e.toNat := rfl
 simp only [w3, w5, hB]
 have hBl : (nxtB R b e.toNat).length ≤ 65536 := by unfold nxtB; rw [List.length_take]; omega
 refine ziT (by simp only [Bz, Sx.Cont.n, zUn]; omega) (ziT (by simp only [Bz, Sx.Cont.n]; omega) (ziT (by simp only [Bz, Sx.Cont.n, zUn]; omega) ?_))
 rw [← hok]
 cases hp : nxtOk O R b e.toNat
 ·rw [hp] at fin
  have k := fin rfl
  exact ziT rfl ⟨k.1, trivial, ⟨k.2.1, (by first | rfl | trivial)⟩, k.2.2, ⟨(by first | rfl | trivial), (by first | rfl | trivial)⟩, (by first | rfl | trivial), (by first | rfl | trivial), trivial⟩
 refine Sx.if_false rfl (ziT (by simp only [Bz, Sx.Cont.n, zUn]; omega) (ziT (by simp only [Bz, Sx.Cont.n]; omega) (ziT (by simp only [Bz, Sx.Cont.n, zUn]; omega) ?_)))
 have hl := lg_len (O := O) hr (nxtB R b e.toNat)
 have hl2 := row_len hr ((nxtB R b e.toNat).length : Int)
 have w6 : i64.wrap (iAdd e (iOf (lgRow O R (nxtB R b e.toNat)).length)) = iOf (nAdd e.toNat (lgRow O R (nxtB R b e.toNat)).length) := by simp only [zUn]; rw [IntKind.wrap_i64]; omega
 refine ⟨rfl, trivial, ⟨?_, (by first | rfl | trivial)⟩, ?_, ⟨(by first | rfl | trivial), (by first | rfl | trivial)⟩, (by first | rfl | trivial), (by first | rfl | trivial), trivial⟩
 ·rw [w6]; rfl
 ·unfold lgW; rw [hp]; rfl
theorem ok_lnext (I : Sx.Interp) (O : OO) (hO : O = oo) (R : OB) (hR : R = bO) : Sx.SpecOK I Try.prog 31 (pspec [.obj 22 [.ro .u8], .obj 29 [.obj 74 [.obj 28 [.own 5 .u8, .v, .v], .ownps 22, .v, .v]]] true (g_lnext O R)) := by
 refine spec_pI (spL1_ok I O hO R hR) (by kernel_rfl) (fun _ => []) Try.func31 (by kernel_rfl) (by kernel_rfl) rfl Try.ntmps31 (by decide) ?_ ?_
 ·intro ds p bs F h
  unfold g_lnext at h
  split at h
  ·rename_i b dl bu de xs e br
   simp only [zsI, zpI] at h
   obtain ⟨_, _, rfl⟩ := h
   kernel_rfl
  ·cases h
 ·intro ds bs F hl h
  unfold g_lnext at h
  split at h
  ·rename_i b dl bu de xs e br
   simp only [zsI, zpI, zaT] at h
   obtain ⟨⟨⟨⟨h0, h1⟩, h2⟩, h3⟩, _, rfl⟩ := h
   exact Eq.mpr (by kernel_rfl) (vc_lnext O R b dl bu de xs e br (fo_oo O hO) hR (by subst hO; exact sb_oo) (by first | exact h0 | (simp only [zaT]; exact h0)) (by first | exact h1 | (simp only [zaT]; exact h1)) (by first | exact h2 | (simp only [zaT]; exact h2)) (by first | exact h3 | (simp only [zaT]; exact h3)))
  ·cases h
def spG2 (O : OO) (R : OB) (f : FuncId) : Option Sx.Spec := match f with
 | 31 => some (pspec [.obj 22 [.ro .u8], .obj 29 [.obj 74 [.obj 28 [.own 5 .u8, .v, .v], .ownps 22, .v, .v]]] true (g_lnext O R))
 | f => spL1 O R f
theorem spG2_ok (I : Sx.Interp) (O : OO) (hO : O = oo) (R : OB) (hR : R = bO) : ∀ f s, spG2 O R f = some s → Sx.SpecOK I Try.prog f s := by
 intro f s h
 unfold spG2 at h
 split at h
 · cases h; exact ok_lnext I O hO R hR
 ·exact spL1_ok I O hO R hR _ s h
def p_gopen (O : OO) (R : OB) (l : List Int) (bu : Int) (de : Bool) (bs : List Bool) : Post := match bs with
 | [true] => ⟨[.v (.pointer none), .v (.int .i64 21)], [(0, .blk 28 [.row 2, .v (.int .i64 bu), .v (.bool de)]), (2, .own 5 (.ints .u8 l))]⟩
 | [false] => ⟨[.ptr 2 0, .v (.int .i64 0)], [(2, .blk 74 [.ptr 0 0, .row 3, .v (.int .i64 (lgEnd O R l : Nat)), .v (.bool false)]), (3, .ownp 22 4), (4, .pool (lgRows O R l)), (0, .blk 28 [.row 5, .v (.int .i64 bu), .v (.bool de)]), (5, .own 5 (.ints .u8 (l.take (lgEnd O R l))))]⟩
 | _ => ⟨[], []⟩
def g_gopen (O : OO) (R : OB) (ds : List Dt) : zG := match ds with
 | [.node [.ints l, .v (.int .i64 bu), .v (.bool de)]] => some ((Nat.ble l.length 1000000) && (byB l), [or de false], p_gopen O R l bu de)
 | _ => none
theorem vc_gopen_t (O : OO) (R : OB) (l : List Int) (bu : Int) (de : Bool) (F : FO O) (hr : R = bO) (hS : SB O) (h0 : (Nat.ble l.length 1000000) = true) (h1 : (byB l) = true) (hb0 : (or de false) = true) :
 If de ((Value.pointer none = Value.pointer none ∧ yI 21 = yI 21) ∧ True ∧ (yI bu = yI bu ∧ yB de = yB de) ∧ EqI l l ∧ True) (If (l.length.ble 8388608) ((∃ (x : Nat), (lgN O R l x ≤ l.length ∧ (lgX O R l x).length ≤ lgN O R l x ∧ x ≤ lgN O R l x) ∧ (SV.fn (Fn.func 31) [SV.ptr 1152 0, SV.ptr 896 0] = SV.fn (Fn.func 31) [SV.ptr 1152 0, SV.ptr 896 0] ∧ True) ∧ (yI 0 = yI (iOf (lgN O R l x)) ∧ yB false = yB false) ∧ EqII [] (lgX O R l x) ∧ (yI bu = yI bu ∧ yB de = yB de) ∧ EqI l l ∧ EqI (bif de then [] else l) l ∧ True) ∧ ∀ (x : Nat), lgN O R l x ≤ l.length ∧ (lgX O R l x).length ≤ lgN O R l x ∧ x ≤ lgN O R l x → If (l.length.ble 1000000 && (iLe 0 (iOf (lgN O R l x)) && iLe (iOf (lgN O R l x)) (iOf l.length)) && byB l && (lgX O R l x).length.ble 1000000) (If (nxtOk O R l (iOf (lgN O R l x)).toNat) (∃ (x' : Nat), (lgN O R l x' ≤ l.length ∧ (lgX O R l x').length ≤ lgN O R l x' ∧ x' ≤ lgN O R l x') ∧ (nSub l.length (lgN O R l x')).succ ≤ nSub l.length (lgN O R l x) ∧ (SV.fn (Fn.func 31) [SV.ptr 1152 0, SV.ptr 896 0] = SV.fn (Fn.func 31) [SV.ptr 1152 0, SV.ptr 896 0] ∧ True) ∧ (yI (iOf (bif nxtOk O R l (iOf (lgN O R l x)).toNat then nAdd (iOf (lgN O R l x)).toNat (lgRow O R (nxtB R l (iOf (lgN O R l x)).toNat)).length else (iOf (lgN O R l x)).toNat)) = yI (iOf (lgN O R l x')) ∧ yB false = yB false) ∧ EqII (lgW O R l (iOf (lgN O R l x)).toNat (lgX O R l x)) (lgX O R l x') ∧ (yI bu = yI bu ∧ yB de = yB de) ∧ EqI l l ∧ EqI l l ∧ True) (If (iLt (iOf (lgE O R l (iOf (lgN O R l x)).toNat)) (iOf (Cont.ints .u8 l).n)) (If (l.length.ble 8388608) False False) False)) False) False) := by
 rw [Bool.or_false] at hb0
 subst hb0
 exact ziT rfl ⟨⟨rfl, rfl⟩, trivial, ⟨rfl, rfl⟩, rfl, trivial⟩
theorem wpc_gopen_t (O : OO) (R : OB) (l : List Int) (bu : Int) (de : Bool) (F : FO O) (hr : R = bO) (hS : SB O) (h0 : (Nat.ble l.length 1000000) = true) (h1 : (byB l) = true) (hb0 : (or de false) = true) : wpcI Try.prog (spG2 O R) Try.f10.ntmps [⟨Nat, [0, 4, 5, 6, 17], [(200017, 22, .ints .u8 []), (1000200017, 22, .ints .u8 []), (100000, 5, .ints .u8 []), (100005, 5, .ints .u8 [])], fun B k => [], fun B k => [(832, .blk 74 [.ptr 0 0, .row B, .v (.int .i64 (lgN O R l k : Nat)), .v (.bool false)]), (B, .ownp 22 (B + 1)), (B + 1, .pool (lgX O R l k)), (0, .blk 28 [.row (B + 2), .v (.int .i64 bu), .v (.bool de)]), (B + 2, .own 5 (.ints .u8 l)), (B + 3, .ro (.ints .u8 l)), (1152, .blk 22 [.row (B + 3)])], fun k => lgN O R l k ≤ l.length ∧ (lgX O R l k).length ≤ lgN O R l k ∧ k ≤ lgN O R l k, fun k => l.length - lgN O R l k, 0⟩] (bodyOf Try.f10) 0 64 (envP (mks [.obj 28 [.own 5 .u8, .v, .v]] [.node [.ints l, .v (.int .i64 bu), .v (.bool de)]] 0).1 0) (mks [.obj 28 [.own 5 .u8, .v, .v]] [.node [.ints l, .v (.int .i64 bu), .v (.bool de)]] 0).2 (retP Try.prog Try.f10.results.toList 2 (p_gopen O R l bu de [true] : Post)) :=
 Eq.mpr (by kernel_rfl) (vc_gopen_t O R l bu de F hr hS h0 h1 hb0)
theorem vc_gopen_f (O : OO) (R : OB) (l : List Int) (bu : Int) (de : Bool) (F : FO O) (hr : R = bO) (hS : SB O) (h0 : (Nat.ble l.length 1000000) = true) (h1 : (byB l) = true) (hb0 : (or de false) = false) :
 If de ((SV.v (Value.pointer none) = SV.ptr 2 0 ∧ yI 21 = yI 0) ∧ True ∧ False) (If (l.length.ble 8388608) ((∃ (x : Nat), (lgN O R l x ≤ l.length ∧ (lgX O R l x).length ≤ lgN O R l x
  ∧ x ≤ lgN O R l x) ∧ (SV.fn (Fn.func 31) [SV.ptr 1152 0, SV.ptr 896 0] = SV.fn (Fn.func 31) [SV.ptr 1152 0, SV.ptr 896 0] ∧ True) ∧ (yI 0 =
  yI (iOf (lgN O R l x)) ∧ yB false = yB false) ∧ EqII [] (lgX O R l x) ∧ (yI bu = yI bu ∧ yB de = yB de) ∧ EqI l l ∧ EqI (bif de then [] else l) l ∧ True) ∧ ∀ (x : Nat), let T1 := iOf (bif nxtOk O R l (iOf (lgN O R l x)).toNat then nAdd (iOf (lgN O R l x)).toNat (lgRow O R (nxtB R l (iOf (lgN O R l x)).toNat)).length else (iOf (lgN O R l x)).toNat);
  let T2 := lgW O R l (iOf (lgN O R l x)).toNat (lgX O R l x); let T3 := yI T1 = yI (iOf (lgEnd O R l)) ∧ yB false = yB false; lgN O R l x ≤ l.length ∧ (lgX O R l x).length ≤ lgN O R
  l x ∧ x ≤ lgN O R l x → If (l.length.ble 1000000 && (iLe 0 (iOf (lgN O R l x)) && iLe (iOf (lgN O R l x)) (iOf l.length)) && byB l && (lgX O R l x).length.ble 1000000) (If (nxtOk O
  R l (iOf (lgN O R l x)).toNat) (∃ (x' : Nat), (lgN O R l x' ≤ l.length ∧ (lgX O R l x').length ≤ lgN O R l x' ∧ x' ≤ lgN O R l x') ∧ (nSub l.length (lgN O R l x')).succ ≤ nSub
  l.length (lgN O R l x) ∧ (SV.fn (Fn.func 31) [SV.ptr 1152 0, SV.ptr 896 0] = SV.fn (Fn.func 31) [SV.ptr 1152 0, SV.ptr 896 0] ∧ True) ∧ (yI
  T1 = yI (iOf (lgN O R l x')) ∧ yB false = yB false) ∧ EqII T2 (lgX O R l x') ∧ (yI bu = yI bu ∧ yB de = yB de) ∧ EqI l l ∧ EqI l l ∧ True) (If (iLt (iOf (lgE O R l (iOf (lgN O R l
  x)).toNat)) (iOf (Cont.ints .u8 l).n)) (If (l.length.ble 8388608) (yI 0 = yI 0 ∧ True ∧ T3 ∧ EqII T2 (lgRows O R l) ∧ (yI bu = yI bu ∧ yB de = yB de) ∧ EqI (bif cutN l T1 de then l
  else List.take T1.toNat l) (List.take (lgEnd O R l) l) ∧ True) False) (yI 0 = yI 0 ∧ True ∧ T3 ∧ EqII T2 (lgRows O R l) ∧ (yI bu = yI bu ∧ yB de = yB de) ∧ EqI l (List.take (lgEnd O
  R l) l) ∧ True))) False) False) := by
 conv => zeta
 have h0' := zbL h0
 rw [Bool.or_false] at hb0
 subst hb0
 have hn : ∀ k : Nat, (iOf (lgN O R l k)).toNat = lgN O R l k := fun k => by simp only [zUn, ztN]
 have hE : ∀ k : Nat, (bif nxtOk O R l (lgN O R l k) then nAdd (lgN O R l k) (lgRow O R (nxtB R l (lgN O R l k))).length else lgN O R l k) = lgE O R l (lgN O R l k) := fun k => rfl
 simp only [hn, hE]
 refine Sx.if_false rfl (ziT (by simp only [Bz, Sx.Cont.n]; omega) ⟨⟨0, ⟨Nat.zero_le _, Nat.le_refl _, Nat.le_refl _⟩, (by first | rfl | trivial), ⟨rfl, (by first | rfl | trivial)⟩, rfl, ⟨(by first | rfl | trivial), (by first | rfl | trivial)⟩, (by first | rfl | trivial), (by first | rfl | trivial), trivial⟩, fun x hx => ?_⟩)
 obtain ⟨x1, x2, x3⟩ := hx
 refine ziT (by simp only [Bz, Sx.Cont.n, zUn]; exact ⟨⟨⟨by omega, by omega⟩, h1⟩, by omega⟩) ?_
 cases c : nxtOk O R l (lgN O R l x)
 ·have st := lgS_stop (m := l.length + 1) c (by omega)
  have e1 : lgRows O R l = lgX O R l x := congrArg (fun p => p.1) st
  have e2 : lgEnd O R l = lgN O R l x := congrArg (fun p => p.2) st
  have e3 : lgE O R l (lgN O R l x) = lgN O R l x := by unfold lgE; rw [c]; rfl
  have e4 : lgW O R l (lgN O R l x) (lgX O R l x) = lgX O R l x := by unfold lgW; rw [c]; rfl
  refine Sx.if_false rfl ?_
  rw [e3, e4, e1, e2]
  refine Sx.if_both (fun d => ziT (by simp only [Bz, Sx.Cont.n]; omega) ⟨(by first | rfl | trivial), trivial, ⟨(by first | rfl | trivial), (by first | rfl | trivial)⟩, (by first | rfl | trivial), ⟨(by first | rfl | trivial), (by first | rfl | trivial)⟩, ?_, trivial⟩) (fun d => ⟨(by first | rfl | trivial), trivial, ⟨(by first | rfl | trivial), (by first | rfl | trivial)⟩, (by first | rfl | trivial), ⟨(by first | rfl | trivial), (by first | rfl | trivial)⟩, ?_, trivial⟩)
  ·have hc : cutN l (iOf (lgN O R l x)) false = false := by
    unfold cutN
    rw [show iLt (iOf (lgN O R l x)) 0 = false by simp only [Bz, Sx.Cont.n, zUn]; omega, show iLt (l.length : Int) (iOf (lgN O R l x)) = false by simp only [Bz, Sx.Cont.n, zUn]; omega]; rfl
   rw [hc, hn]; rfl
  ·simp only [Bz, Sx.Cont.n, zUn] at d
   exact (List.take_of_length_le (by omega)).symm
 ·have hp : prfE (l.drop (lgN O R l x)) (lgRow O R (nxtB R l (lgN O R l x))) = true := by
   unfold nxtOk at c
   cases t : nxtT R l (lgN O R l x)
   ·rw [t] at c; exact c
   ·rw [t] at c; cases c
  have hf : (lgRow O R (nxtB R l (lgN O R l x))).length ≤ l.length - lgN O R l x := by
   unfold prfE at hp
   rw [List.length_drop] at hp
   cases t : iLe ((lgRow O R (nxtB R l (lgN O R l x))).length : Int) ((l.length - lgN O R l x : Nat) : Int)
   ·rw [t] at hp; cases hp
   ·simp only [iLe_t] at t; omega
  have hl := lg_pos (O := O) hr (nxtB R l (lgN O R l x))
  have st : lgS O R l (x + 1) = (lgX O R l x ++ [nxtB R l (lgN O R l x)], lgN O R l x + (lgRow O R (nxtB R l (lgN O R l x))).length) := by
   show (bif nxtOk O R l (lgN O R l x) then _ else _) = _
   rw [c]; rfl
  have e1 : lgX O R l (x + 1) = lgX O R l x ++ [nxtB R l (lgN O R l x)] := congrArg (fun p => p.1) st
  have e2 : lgN O R l (x + 1) = lgN O R l x + (lgRow O R (nxtB R l (lgN O R l x))).length := congrArg (fun p => p.2) st
  have e3 : lgE O R l (lgN O R l x) = lgN O R l (x + 1) := by unfold lgE; rw [c, e2]; rfl
  have e4 : lgW O R l (lgN O R l x) (lgX O R l x) = lgX O R l (x + 1) := by unfold lgW; rw [c, e1]; rfl
  refine ziT rfl ?_
  rw [e3, e4]
  refine ⟨x + 1, ⟨by omega, by rw [e1, zlA]; simp only [List.length_cons, List.length_nil]; omega, by omega⟩, by simp only [zUn]; omega, (by first | rfl | trivial), ⟨(by first | rfl | trivial), (by first | rfl | trivial)⟩, (by first | rfl | trivial), ⟨(by first | rfl | trivial), (by first | rfl | trivial)⟩, (by first | rfl | trivial), (by first | rfl | trivial), trivial⟩
theorem wpc_gopen_f (O : OO) (R : OB) (l : List Int) (bu : Int) (de : Bool) (F : FO O) (hr : R = bO) (hS : SB O) (h0 : (Nat.ble l.length 1000000) = true) (h1 : (byB l) = true) (hb0 : (or de false) = false) : wpcI Try.prog (spG2 O R) Try.f10.ntmps [⟨Nat, [0, 4, 5, 6, 17], [(200017, 22, .ints .u8 []), (1000200017, 22, .ints .u8 []), (100000, 5, .ints .u8 []), (100005, 5, .ints .u8 [])], fun B k => [], fun B k => [(832, .blk 74 [.ptr 0 0, .row B, .v (.int .i64 (lgN O R l k : Nat)), .v (.bool false)]), (B, .ownp 22 (B + 1)), (B + 1, .pool (lgX O R l k)), (0, .blk 28 [.row (B + 2), .v (.int .i64 bu), .v (.bool de)]), (B + 2, .own 5 (.ints .u8 l)), (B + 3, .ro (.ints .u8 l)), (1152, .blk 22 [.row (B + 3)])], fun k => lgN O R l k ≤ l.length ∧ (lgX O R l k).length ≤ lgN O R l k ∧ k ≤ lgN O R l k, fun k => l.length - lgN O R l k, 0⟩] (bodyOf Try.f10) 0 64 (envP (mks [.obj 28 [.own 5 .u8, .v, .v]] [.node [.ints l, .v (.int .i64 bu), .v (.bool de)]] 0).1 0) (mks [.obj 28 [.own 5 .u8, .v, .v]] [.node [.ints l, .v (.int .i64 bu), .v (.bool de)]] 0).2 (retP Try.prog Try.f10.results.toList 2 (p_gopen O R l bu de [false] : Post)) :=
 Eq.mpr (by kernel_rfl) (vc_gopen_f O R l bu de F hr hS h0 h1 hb0)
theorem ok_gopen (I : Sx.Interp) (O : OO) (hO : O = oo) (R : OB) (hR : R = bO) : Sx.SpecOK I Try.prog 10 (pspec [.obj 28 [.own 5 .u8, .v, .v]] true (g_gopen O R)) := by
 refine spec_pI (spG2_ok I O hO R hR) (by kernel_rfl) (fun ds => match ds with | [.node [.ints l, .v (.int .i64 bu), .v (.bool de)]] => [⟨Nat, [0, 4, 5, 6, 17], [(200017, 22, .ints .u8 []), (1000200017, 22, .ints .u8 []), (100000, 5, .ints .u8 []), (100005, 5, .ints .u8 [])], fun B k => [], fun B k => [(832, .blk 74 [.ptr 0 0, .row B, .v (.int .i64 (lgN O R l k : Nat)), .v (.bool false)]), (B, .ownp 22 (B + 1)), (B + 1, .pool (lgX O R l k)), (0, .blk 28 [.row (B + 2), .v (.int .i64 bu), .v (.bool de)]), (B + 2, .own 5 (.ints .u8 l)), (B + 3, .ro (.ints .u8 l)), (1152, .blk 22 [.row (B + 3)])], fun k => lgN O R l k ≤ l.length ∧ (lgX O R l k).length ≤ lgN O R l k ∧ k ≤ lgN O R l k, fun k => l.length - lgN O R l k, 0⟩] | _ => []) Try.func10 (by kernel_rfl) (by kernel_rfl) rfl Try.ntmps10 (by decide) ?_ ?_
 ·intro ds p bs F h
  unfold g_gopen at h
  split at h
  ·rename_i l bu de
   simp only [zsI, zpI] at h
   obtain ⟨_, rfl, rfl⟩ := h
   generalize (or de false) = t0
   cases t0 <;> kernel_rfl
  ·cases h
 ·intro ds bs F hl h
  unfold g_gopen at h
  split at h
  ·rename_i l bu de
   simp only [zsI, zpI, zaT] at h
   obtain ⟨⟨h0, h1⟩, rfl, rfl⟩ := h
   cases hb0 : (or de false) with
   | true => exact wpc_gopen_t O R l bu de (fo_oo O hO) hR (by subst hO; exact sb_oo) (by first | exact h0 | (simp only [zaT]; exact h0)) (by first | exact h1 | (simp only [zaT]; exact h1)) hb0
   | false => exact wpc_gopen_f O R l bu de (fo_oo O hO) hR (by subst hO; exact sb_oo) (by first | exact h0 | (simp only [zaT]; exact h0)) (by first | exact h1 | (simp only [zaT]; exact h1)) hb0
  ·cases h
def g_gapp (O : OO) (R : OB) (ds : List Dt) : zG := match ds with
 | [.node [.node [.ints l, .v (.int .i64 bu), .v (.bool de)], .rows xs, .v (.int .i64 e), .v (.bool br)], .ints b] => some ((Nat.ble l.length 4194304) && (Nat.ble b.length 1000000) && (Nat.ble xs.length 1000000) && (iLe (-9223372036854775808) bu && iLe bu 9223372036854775807) && (iLe 0 e && iLe e 4194304), [], fun _ => ⟨[.v (.int .i64 (apE O R l bu de br e b))], [(0, .blk 74 [.ptr 1 0, .row 6, .v (.int .i64 (apM O R l bu de br e b)), .v (.bool (apR O R l bu de br e b))]), (6, .ownp 22 7), (7, .pool (apX O R l bu de br e b xs)), (1, .blk 28 [.row 8, .v (.int .i64 (apB O R l bu de br e b)), .v (.bool (apD O R l bu de br e b))]), (8, .own 5 (.ints .u8 (apL O R l bu de br e b)))]⟩)
 | _ => none
theorem vc_gapp (O : OO) (R : OB) (l : List Int) (bu : Int) (de : Bool) (xs : List (List Int)) (e : Int) (br : Bool) (b : List Int) (F : FO O) (hr : R = bO) (hS : SB O) (h0 : (Nat.ble l.length 4194304) = true) (h1 : (Nat.ble b.length 1000000) = true) (h2 : (Nat.ble xs.length 1000000) = true) (h3 : (iLe (-9223372036854775808) bu && iLe bu 9223372036854775807) = true) (h4 : (iLe 0 e && iLe e 4194304) = true) :
 let T1 := yI 21 = yI (apE O R l bu de br e b) ∧ True ∧ (yI e = yI (apM O R l bu de br e b) ∧ yB br = yB (apR O R l bu de br e b)) ∧ EqII xs (apX O R l bu de br e b xs) ∧ (yI bu = yI (apB O R l bu de br e b) ∧ yB de = yB (apD O R l bu de br e b)) ∧ EqI l (apL O R l bu de br e b) ∧ True;
  let T2 := yI 3 = yI (apE O R l bu de br e b) ∧ True ∧ (yI e = yI (apM O R l bu de br e b) ∧ yB br = yB (apR O R l bu de br e b)) ∧ EqII xs (apX O R l bu de br e b xs) ∧ (yI bu = yI (apB O R l bu de br e b) ∧ yB de = yB (apD O R l bu de br e b)) ∧ EqI l (apL O R l bu de br e b) ∧ True;
  let T3 := yI (wrB l (lgRow O R b) bu de) = yI (apB O R l bu de br e b) ∧ yB (wrD l (lgRow O R b) bu de) = yB (apD O R l bu de br e b); If (b.length.ble 1000000) (If br T1 (If de T1
  (If (iLt 65536 (iOf (Cont.ints .u8 b).n)) T2 (If (iLt (i64.wrap (iSub 4194304 (iOf (Cont.ints .u8 (lgRow O R b)).n))) e) T2 (If (l.length.ble 8388608 && (lgRow O R
  b).length.ble 8388608 && (iLe (iNeg 9223372036854775808) bu && iLe bu 9223372036854775807)) (If (!wrO l (lgRow O R b) bu de) (yI 21 = yI (apE O R l bu de br e b) ∧ True ∧ (yI e = yI
  (apM O R l bu de br e b) ∧ yB true = yB (apR O R l bu de br e b)) ∧ EqII xs (apX O R l bu de br e b xs) ∧ T3 ∧ EqI (wrL l (lgRow O R b) bu de) (apL O R l bu de br e b) ∧ True) (If
  (b.length.ble 8388608) (If ((nMul (nAdd xs.length 1) 24).ble 140737488355328 && (nAdd xs.length 1).ble 9223372036854775807) (yI 0 = yI (apE O R l bu de br e b) ∧ True ∧ (yI
  (i64.wrap (iAdd e (iOf (lgRow O R b).length))) = yI (apM O R l bu de br e b) ∧ yB br = yB (apR O R l bu de br e b)) ∧ EqII (app xs [b]) (apX O R l bu de br e b xs) ∧ T3 ∧
  EqI (wrL l (lgRow O R b) bu de) (apL O R l bu de br e b) ∧ True) False) False)) False))))) False := by
 conv => zeta
 have h0' := zbL h0
 have h1' := zbL h1
 have h2' := zbL h2
 simp only [Bz, Sx.Cont.n] at h3 h4
 have hl := lg_len (O := O) hr b
 have hl2 := row_len hr (b.length : Int)
 have w1 : i64.wrap (iSub 4194304 (iOf (Cont.ints u8 (lgRow O R b)).n)) = 4194304 - ((lgRow O R b).length : Int) := by simp only [zUn, Sx.Cont.n]; rw [IntKind.wrap_i64]; omega
 rw [w1]
 refine ziT (by simp only [Bz, Sx.Cont.n]; omega) (Sx.if_both (fun hb => ?_) (fun hb => Sx.if_both (fun hd => ?_) (fun hd => Sx.if_both (fun k1 => ?_) (fun k1 => Sx.if_both (fun k2 => ?_) (fun k2 => ziT (by simp only [Bz, Sx.Cont.n, zUn]; omega) (Sx.if_both (fun k3 => ?_) (fun k3 => ziT (by simp only [Bz, Sx.Cont.n]; omega) (ziT (by simp only [Bz, Sx.Cont.n, zUn]; omega) ?_))))))))
 ·subst hb
  exact ⟨rfl, trivial, ⟨rfl, rfl⟩, rfl, ⟨rfl, rfl⟩, rfl, trivial⟩
 ·subst hb
  subst hd
  exact ⟨rfl, trivial, ⟨rfl, rfl⟩, rfl, ⟨rfl, rfl⟩, rfl, trivial⟩
 ·subst hb
  subst hd
  have c : agN O R b e = true := by unfold agN; rw [show iLt 65536 (b.length : Int) = true from k1]; rfl
  have E : apE O R l bu false false e b = 3 := by unfold apE; rw [c]; rfl
  have W : apW O R false false e b = false := by unfold apW; rw [c]; rfl
  exact ⟨congrArg _ E.symm, trivial, ⟨by unfold apM; rw [E]; rfl, by unfold apR; rw [W]; rfl⟩, by unfold apX; rw [E]; rfl, ⟨by unfold apB; rw [W]; rfl, by unfold apD; rw [W]; rfl⟩, by unfold apL; rw [W]; rfl, trivial⟩
 ·subst hb
  subst hd
  have c : agN O R b e = true := by unfold agN; rw [show iLt 65536 (b.length : Int) = false from k1, k2]; rfl
  have E : apE O R l bu false false e b = 3 := by unfold apE; rw [c]; rfl
  have W : apW O R false false e b = false := by unfold apW; rw [c]; rfl
  exact ⟨congrArg _ E.symm, trivial, ⟨by unfold apM; rw [E]; rfl, by unfold apR; rw [W]; rfl⟩, by unfold apX; rw [E]; rfl, ⟨by unfold apB; rw [W]; rfl, by unfold apD; rw [W]; rfl⟩, by unfold apL; rw [W]; rfl, trivial⟩
 ·subst hb
  subst hd
  have c : agN O R b e = false := by unfold agN; rw [show iLt 65536 (b.length : Int) = false from k1, k2]; rfl
  have k3 : wrO l (lgRow O R b) bu false = false := by cases q : wrO l (lgRow O R b) bu false <;> rw [q] at k3 <;> first | rfl | cases k3
  have E : apE O R l bu false false e b = 21 := by unfold apE; rw [c, k3]; rfl
  have W : apW O R false false e b = true := by unfold apW; rw [c]; rfl
  exact ⟨congrArg _ E.symm, trivial, ⟨by unfold apM; rw [E]; rfl, by unfold apR; rw [W, k3]; rfl⟩, by unfold apX; rw [E]; rfl, ⟨by unfold apB; rw [W]; rfl, by unfold apD; rw [W]; rfl⟩, by unfold apL; rw [W]; rfl, trivial⟩
 ·subst hb
  subst hd
  have c : agN O R b e = false := by unfold agN; rw [show iLt 65536 (b.length : Int) = false from k1, k2]; rfl
  have k3 : wrO l (lgRow O R b) bu false = true := by cases q : wrO l (lgRow O R b) bu false <;> rw [q] at k3 <;> first | rfl | cases k3
  have E : apE O R l bu false false e b = 0 := by unfold apE; rw [c, k3]; rfl
  have W : apW O R false false e b = true := by unfold apW; rw [c]; rfl
  simp only [Bz, Sx.Cont.n] at k2
  have w2 : i64.wrap (iAdd e (iOf (lgRow O R b).length)) = e + ((lgRow O R b).length : Int) := by simp only [zUn]; rw [IntKind.wrap_i64]; omega
  exact ⟨congrArg _ E.symm, trivial, ⟨by unfold apM; rw [E, w2]; rfl, by unfold apR; rw [W, k3]; rfl⟩, by unfold apX; rw [E]; rfl, ⟨by unfold apB; rw [W]; rfl, by unfold apD; rw [W]; rfl⟩, by unfold apL; rw [W]; rfl, trivial⟩
theorem ok_gapp (I : Sx.Interp) (O : OO) (hO : O = oo) (R : OB) (hR : R = bO) : Sx.SpecOK I Try.prog 16 (pspec [.obj 74 [.obj 28 [.own 5 .u8, .v, .v], .ownps 22, .v, .v], .ro .u8] true (g_gapp O R)) := by
 refine spec_pI (spG2_ok I O hO R hR) (by kernel_rfl) (fun _ => []) Try.func16 (by kernel_rfl) (by kernel_rfl) rfl Try.ntmps16 (by decide) ?_ ?_
 ·intro ds p bs F h
  unfold g_gapp at h
  split at h
  ·rename_i l bu de xs e br b
   simp only [zsI, zpI] at h
   obtain ⟨_, _, rfl⟩ := h
   kernel_rfl
  ·cases h
 ·intro ds bs F hl h
  unfold g_gapp at h
  split at h
  ·rename_i l bu de xs e br b
   simp only [zsI, zpI, zaT] at h
   obtain ⟨⟨⟨⟨⟨h0, h1⟩, h2⟩, h3⟩, h4⟩, _, rfl⟩ := h
   exact Eq.mpr (by kernel_rfl) (vc_gapp O R l bu de xs e br b (fo_oo O hO) hR (by subst hO; exact sb_oo) (by first | exact h0 | (simp only [zaT]; exact h0)) (by first | exact h1 | (simp only [zaT]; exact h1)) (by first | exact h2 | (simp only [zaT]; exact h2)) (by first | exact h3 | (simp only [zaT]; exact h3)) (by first | exact h4 | (simp only [zaT]; exact h4)))
  ·cases h
def g_grows (O : OO) (R : OB) (ds : List Dt) : zG := match ds with
 | [.node [.node [.ints l, .v (.int .i64 bu), .v (.bool de)], .rows xs, .v (.int .i64 e), .v (.bool br)]] => some ((Nat.ble xs.length 1000000) && (xs.all fun x => Nat.ble x.length 1000000), [], fun _ => ⟨[.row 8], [(8, .ownp 22 9), (9, .pool xs), (0, .blk 74 [.ptr 1 0, .row 5, .v (.int .i64 e), .v (.bool br)]), (5, .ownp 22 6), (6, .pool xs), (1, .blk 28 [.row 7, .v (.int .i64 bu), .v (.bool de)]), (7, .own 5 (.ints .u8 l))]⟩)
 | _ => none
theorem vc_grows (O : OO) (R : OB) (l : List Int) (bu : Int) (de : Bool) (xs : List (List Int)) (e : Int) (br : Bool) (F : FO O) (hr : R = bO) (hS : SB O) (h0 : (Nat.ble xs.length 1000000) = true) (h1 : (xs.all fun x => Nat.ble x.length 1000000) = true) :
 (∃ (x : Nat), x ≤ xs.length ∧ (yI 0 = yI (iOf x) ∧ yI (iOf xs.length) = yI (iOf xs.length) ∧ True) ∧ EqII [] (List.take x xs) ∧ (yI e = yI e ∧ yB br = yB br) ∧ (yI bu = yI bu ∧ yB de = yB de) ∧ EqI l l ∧ EqII xs xs ∧ True) ∧ ∀ (x : Nat), x ≤ xs.length → If (iLt (iOf x) (iOf xs.length)) (If (iLe 0 (iOf x) && (iOf x).toNat.blt xs.length) (If (true && !false && Nat.beq 1 1 && Nat.beq 0 0 && (iOf x).toNat.blt xs.length) (If ((xs.getD (iOf x).toNat []).length.ble 8388608) (If ((nMul (nAdd (List.take x xs).length 1) 24).ble 140737488355328 && (nAdd (List.take x xs).length 1).ble 9223372036854775807) (∃ (x' : Nat), x' ≤ xs.length ∧ (nSub xs.length x').succ ≤ nSub xs.length x ∧ (yI (i64.wrap (iAdd (iOf x) 1)) = yI (iOf x') ∧ yI (iOf xs.length) = yI (iOf xs.length) ∧ True) ∧ EqII (app (List.take x xs) [xs.getD (iOf x).toNat []]) (List.take x' xs) ∧ (yI e = yI e ∧ yB br = yB br) ∧ (yI bu = yI bu ∧ yB de = yB de) ∧ EqI l l ∧ EqII xs xs ∧ True) False) False) False) False) (True ∧ EqII (List.take x xs) xs ∧ (yI e = yI e ∧ yB br = yB br) ∧ EqII xs xs ∧ (yI bu = yI bu ∧ yB de = yB de) ∧ EqI l l ∧ True) := by
 have h0' := zbL h0
 have hn : ∀ k : Nat, (iOf k).toNat = k := fun k => by simp only [zUn, ztN]
 simp only [hn]
 refine ⟨⟨0, Nat.zero_le _, ⟨rfl, (by first | rfl | trivial), trivial⟩, rfl, ⟨(by first | rfl | trivial), (by first | rfl | trivial)⟩, ⟨(by first | rfl | trivial), (by first | rfl | trivial)⟩, (by first | rfl | trivial), (by first | rfl | trivial), trivial⟩, fun x hx => ?_⟩
 refine Sx.if_both (fun d => ?_) (fun d => ?_)
 ·simp only [Bz, Sx.Cont.n, zUn] at d
  have hb : x.blt xs.length = true := by rw [Nat.blt_eq]; omega
  have hg : xs[x]? = some (xs.getD x []) := by rw [List.getD_eq_getElem?_getD, List.getElem?_eq_getElem (by omega)]; rfl
  have hm : (xs.getD x []).length ≤ 1000000 := by
   have := List.all_eq_true.1 h1 (xs.getD x []) (List.mem_of_getElem? hg)
   exact zbL this
  have ht : app (xs.take x) [xs.getD x []] = xs.take (x + 1) := by
   simp only [zUn]
   rw [List.take_add_one, hg]; rfl
  have w1 : i64.wrap (iAdd (iOf x) 1) = iOf (x + 1) := by simp only [zUn]; rw [IntKind.wrap_i64]; omega
  rw [ht, w1, hb]
  refine ziT (by simp only [Bz, Sx.Cont.n, zUn]; exact ⟨by omega, trivial⟩) (ziT rfl (ziT (by simp only [Bz, Sx.Cont.n]; omega) (ziT (by simp only [Bz, Sx.Cont.n, zUn, List.length_take]; omega) ?_)))
  exact ⟨x + 1, by omega, by simp only [zUn]; omega, ⟨rfl, (by first | rfl | trivial), trivial⟩, rfl, ⟨(by first | rfl | trivial), (by first | rfl | trivial)⟩, ⟨(by first | rfl | trivial), (by first | rfl | trivial)⟩, (by first | rfl | trivial), (by first | rfl | trivial), trivial⟩
 ·simp only [Bz, Sx.Cont.n, zUn] at d
  exact ⟨trivial, List.take_of_length_le (by omega), ⟨(by first | rfl | trivial), (by first | rfl | trivial)⟩, (by first | rfl | trivial), ⟨(by first | rfl | trivial), (by first | rfl | trivial)⟩, (by first | rfl | trivial), trivial⟩
theorem ok_grows (I : Sx.Interp) (O : OO) (hO : O = oo) (R : OB) (hR : R = bO) : Sx.SpecOK I Try.prog 13 (pspec [.obj 74 [.obj 28 [.own 5 .u8, .v, .v], .ownps 22, .v, .v]] true (g_grows O R)) := by
 refine spec_pI (spG2_ok I O hO R hR) (by kernel_rfl) (fun ds => match ds with | [.node [.node [.ints l, .v (.int .i64 bu), .v (.bool de)], .rows xs, .v (.int .i64 e), .v (.bool br)]] => [⟨Nat, [0, 1, 8, 9], [(2, 22, .ints .u8 []), (1000000002, 22, .ints .u8 [])], fun B k => [(2, .row B), (10, .v (.int .i64 (k : Nat)))], fun B k => [(B, .ownp 22 (B + 1)), (B + 1, .pool (xs.take k))], fun k => k ≤ xs.length, fun k => xs.length - k, 0⟩] | _ => []) Try.func13 (by kernel_rfl) (by kernel_rfl) rfl Try.ntmps13 (by decide) ?_ ?_
 ·intro ds p bs F h
  unfold g_grows at h
  split at h
  ·rename_i l bu de xs e br
   simp only [zsI, zpI] at h
   obtain ⟨_, _, rfl⟩ := h
   kernel_rfl
  ·cases h
 ·intro ds bs F hl h
  unfold g_grows at h
  split at h
  ·rename_i l bu de xs e br
   simp only [zsI, zpI, zaT] at h
   obtain ⟨⟨h0, h1⟩, _, rfl⟩ := h
   exact Eq.mpr (by kernel_rfl) (vc_grows O R l bu de xs e br (fo_oo O hO) hR (by subst hO; exact sb_oo) (by first | exact h0 | (simp only [zaT]; exact h0)) (by first | exact h1 | (simp only [zaT]; exact h1)))
  ·cases h
def g_gbytes (O : OO) (R : OB) (ds : List Dt) : zG := match ds with
 | [.node [.node [.ints l, .v (.int .i64 bu), .v (.bool de)], .rows xs, .v (.int .i64 e), .v (.bool br)]] => some (true, [], fun _ => ⟨[.v (.int .i64 e)], []⟩)
 | _ => none
theorem vc_gbytes (O : OO) (R : OB) (l : List Int) (bu : Int) (de : Bool) (xs : List (List Int)) (e : Int) (br : Bool) (F : FO O) (hr : R = bO) (hS : SB O) :
 yI e = yI e ∧ True ∧ True := by
 exact ⟨(by first | rfl | trivial), trivial, trivial⟩
theorem ok_gbytes (I : Sx.Interp) (O : OO) (hO : O = oo) (R : OB) (hR : R = bO) : Sx.SpecOK I Try.prog 14 (pspec [.robj 74 [.robj 28 [.ro .u8, .v, .v], .ros, .v, .v]] false (g_gbytes O R)) := by
 refine spec_pI (spG2_ok I O hO R hR) (by kernel_rfl) (fun _ => []) Try.func14 (by kernel_rfl) (by kernel_rfl) rfl Try.ntmps14 (by decide) ?_ ?_
 ·intro ds p bs F h
  unfold g_gbytes at h
  split at h
  ·rename_i l bu de xs e br
   simp only [zsI, zpI] at h
   obtain ⟨_, _, rfl⟩ := h
   kernel_rfl
  ·cases h
 ·intro ds bs F hl h
  unfold g_gbytes at h
  split at h
  ·rename_i l bu de xs e br
   simp only [zsI, zpI, zaT] at h
   obtain ⟨_, _, rfl⟩ := h
   exact Eq.mpr (by kernel_rfl) (vc_gbytes O R l bu de xs e br (fo_oo O hO) hR (by subst hO; exact sb_oo) )
  ·cases h
def g_gbroken (O : OO) (R : OB) (ds : List Dt) : zG := match ds with
 | [.node [.node [.ints l, .v (.int .i64 bu), .v (.bool de)], .rows xs, .v (.int .i64 e), .v (.bool br)]] => some (true, [], fun _ => ⟨[.v (.bool br)], []⟩)
 | _ => none
theorem vc_gbroken (O : OO) (R : OB) (l : List Int) (bu : Int) (de : Bool) (xs : List (List Int)) (e : Int) (br : Bool) (F : FO O) (hr : R = bO) (hS : SB O) :
 yB br = yB br ∧ True ∧ True := by
 exact ⟨(by first | rfl | trivial), trivial, trivial⟩
theorem ok_gbroken (I : Sx.Interp) (O : OO) (hO : O = oo) (R : OB) (hR : R = bO) : Sx.SpecOK I Try.prog 20 (pspec [.robj 74 [.robj 28 [.ro .u8, .v, .v], .ros, .v, .v]] false (g_gbroken O R)) := by
 refine spec_pI (spG2_ok I O hO R hR) (by kernel_rfl) (fun _ => []) Try.func20 (by kernel_rfl) (by kernel_rfl) rfl Try.ntmps20 (by decide) ?_ ?_
 ·intro ds p bs F h
  unfold g_gbroken at h
  split at h
  ·rename_i l bu de xs e br
   simp only [zsI, zpI] at h
   obtain ⟨_, _, rfl⟩ := h
   kernel_rfl
  ·cases h
 ·intro ds bs F hl h
  unfold g_gbroken at h
  split at h
  ·rename_i l bu de xs e br
   simp only [zsI, zpI, zaT] at h
   obtain ⟨_, _, rfl⟩ := h
   exact Eq.mpr (by kernel_rfl) (vc_gbroken O R l bu de xs e br (fo_oo O hO) hR (by subst hO; exact sb_oo) )
  ·cases h
end Go.Proofs.Ytaohpdhhbnempaa
