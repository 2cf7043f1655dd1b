/- Pay: the law's small case, evaluated whole, and the table of contracts (printed by genpa3.py). -/
import Derived.Test.YtcdmmfelagbpdaaPa2
namespace Go.Proofs.Ytcdmmfelagbpdaa
open Go.RowKit Go.Lib Ckp Cfd Cpd Sx
set_option linter.unusedVariables false
set_option linter.unusedSimpArgs false
set_option maxRecDepth 1000000
def I0 : Sx.Interp := ⟨fun _ _ _ _ _ => False, fun _ _ _ _ _ _ _ h => h, fun _ => True, fun _ => False, fun _ _ _ h => h⟩
def spP2 (O : OO) (Y : OY) (f : FuncId) : Option Sx.Spec := match f with
 | f => spP1 O Y f
theorem spP2_ok (I : Sx.Interp) (O : OO) (hO : O = oo) (Y : OY) (hY : Y = yO O) : ∀ f s, spP2 O Y f = some s → Sx.SpecOK I Try.prog f s := by
 intro f s h
 unfold spP2 at h
 exact spP1_ok I O hO Y hY _ s h

def spP2b (O : OO) (Z : OZ) (Y : OY) (f : FuncId) : Option Sx.Spec := match spP2 O Y f with
 | some s => some s
 | none => spZ4 O Z f
theorem spP2b_ok (I : Sx.Interp) (O : OO) (hO : O = oo) (Z : OZ) (hZ : Z = zO O) (Y : OY) (hY : Y = yO O) : ∀ f s, spP2b O Z Y f = some s → Sx.SpecOK I Try.prog f s := by
 intro f s h
 unfold spP2b at h
 split at h
 ·rename_i s' hs; cases h; exact spP2_ok I O hO Y hY _ _ hs
 ·exact spZ4_ok I O hO Z hZ _ s h
def g_small30 (l : List Value) : Option (Bool × Value) := match l with
 | [] => some (true, .bool true)
 | _ => none
def spP3 (O : OO) (Z : OZ) (Y : OY) (f : FuncId) : Option Sx.Spec := match f with
 | f => spP2b O Z Y f
theorem spP3_ok (I : Sx.Interp) (O : OO) (hO : O = oo) (Z : OZ) (hZ : Z = zO O) (Y : OY) (hY : Y = yO O) : ∀ f s, spP3 O Z Y f = some s → Sx.SpecOK I Try.prog f s := by
 intro f s h
 unfold spP3 at h
 exact spP2b_ok I O hO Z hZ Y hY _ s h

theorem calls_realI {I : Interp} {P : Program} {sp : FuncId → Option Sx.Spec} (hsp : ∀ f s, sp f = some s → Sx.SpecOK I P f s) (hm : P.follows .mixedOrders = true) (an : List Ann) {f : FuncId} {fn : Func} {c : Code} {N : Nat}
  (hf : P.funcs[f]? = some fn) (hb' : fn.body.isSome = true) (hc : bodyOf fn = c) (hN : fn.ntmps = N) {l : List Value} {v : Value} (hl : l.length ≤ N)
  (h : wpcI P sp N an c 0 0 (argEnv l 0) [] (retK P fn.results.toList v)) (w : World) (ha : AmbW I w := by first | assumption | exact And.intro trivial (fun _ h => h.elim)) : Calls P f l.toArray w fun e w' => e = .returned v ∧ Fr (fun _ => False) w w' :=
 calls_real hsp hm an hf hb' hc hN hl (wpcI_of h) w
theorem isH_oo {a : Array Value} (h : isHa a = true) : oo.isH a = true := by
 have e : oo.isH a = isHa a := by kernel_rfl
 rw [e]; exact h
theorem bcs_AV (l : List Nat) (h1 : l.length = 32) (h2 : ∀ i, l.getD i 0 < 256) : ∃ m : Nat → Int, bcs l = AV m ∧ isHa (AV m) = true := by
 have e : bcs l = ⟨(l.map fun n : Nat => (n : Int)).map (Value.int .u8)⟩ := by unfold bcs; apply Array.ext'; simp
 have hh : isHa (bcs l) = true := by
  rw [e]
  refine isHa_AV (by simpa using h1) fun x hx => ?_
  obtain ⟨n, hn, rfl⟩ := List.mem_map.1 hx
  obtain ⟨i, hi, rfl⟩ := List.mem_iff_getElem.1 hn
  have := h2 i
  rw [List.getD_eq_getElem?_getD, List.getElem?_eq_getElem hi] at this
  simp only [Option.getD_some] at this
  omega
 obtain ⟨m, hm⟩ := isH_AV hh
 exact ⟨m, hm, hm ▸ hh⟩
section
theorem o_fadd (a b : Int) : oo.fadd a b = ((fadd a.toNat b.toNat : Nat) : Int) := by kernel_rfl
theorem o_fsub (a b : Int) : oo.fsub a b = ((fsub a.toNat b.toNat : Nat) : Int) := by kernel_rfl
theorem o_pright (a : Int) : oo.pright a = pright a.toNat := by kernel_rfl
theorem o_pbase (a : Int) : oo.pbase a = ((pbase a.toNat : Nat) : Int) := by kernel_rfl
theorem o_padd (a b : Int) : oo.padd a b = ((padd a.toNat b.toNat : Nat) : Int) := by kernel_rfl
theorem o_pallI (l : List Int) : oo.pall l = pallI l := by kernel_rfl
theorem o_ffrom (a : Array Value) : oo.ffrom a = ((ffrom (natsA a) : Nat) : Int) := by kernel_rfl
theorem base_null {x b : Nat} (hx : pright x = true) (h : padd x (pbase b) = x) : b % 2305843009213688669 = 0 := by
 have h1 : padd (padd x (pneg x)) (pbase b) = 1 := by
  rw [add_assoc, add_comm (pbase b) (pneg x), ← add_assoc, h, add_neg]
 rw [add_neg, one_add, taken_of (right_base b), ← base_base] at h1
 exact base_one h1 (Nat.mod_lt _ (by decide))
theorem pall_base : ∀ (l : List Nat) (s : Nat), (l.map pbase).foldl (fun o a => pt o (ptaken a)) (pbase s) = pbase (l.foldl fadd s)
 | [], s => rfl
 | x :: l, s => by
  rw [List.map_cons, List.foldl_cons, List.foldl_cons, taken_of (right_base x)]
  have e : pt (pbase s) (pbase x) = pbase (fadd s x) := by
   rw [base_add]; unfold padd; rw [taken_of (right_base s), taken_of (right_base x)]
  rw [e]
  exact pall_base l (fadd s x)
theorem sum_nat : ∀ (l : List Int) (s : Nat), l.foldl oo.fadd (s : Int) = (((l.map Int.toNat).foldl fadd s : Nat) : Int)
 | [], s => rfl
 | x :: l, s => by
  rw [List.foldl_cons, o_fadd, Int.toNat_natCast, List.map_cons, List.foldl_cons]
  exact sum_nat l _
/-- What the laws of pay ask of the operations. -/
structure FP (O : OO) : Prop where
 fv : ∀ a b, inU a 18446744073709551616 = true → inU b 18446744073709551616 = true → O.fadd a b = (a + b) % 2305843009213688669
 sv : ∀ a b, inU a 18446744073709551616 = true → inU b 18446744073709551616 = true → O.fsub a b = (a - b) % 2305843009213688669
 pb : ∀ a, O.pright (O.pbase a) = true
 pa : ∀ a b, O.pright (O.padd a b) = true
 ba : ∀ a b, O.padd (O.pbase a) (O.pbase b) = O.pbase (O.fadd a b)
 bm : ∀ a, inU a 18446744073709551616 = true → O.pbase (a % 2305843009213688669) = O.pbase a
 pn : ∀ x b, inU x 18446744073709551616 = true → inU b 18446744073709551616 = true → O.pright x = true → O.padd x (O.pbase b) = x → b % 2305843009213688669 = 0
 fr : ∀ a, 0 < O.ffrom a ∧ O.ffrom a < 2305843009213688669
 pl : ∀ l, O.pall (l.map O.pbase) = O.pbase (sumO O l)
theorem fp_oo : FP oo := by
 refine ⟨fun a b ha hb => ?_, fun a b ha hb => ?_, fun a => ?_, fun a b => ?_, fun a b => ?_, fun a ha => ?_, fun x b hx hb hr h => ?_, fun a => ?_, fun l => ?_⟩
 ·rw [inU_t] at ha hb
  obtain ⟨n, rfl⟩ := Int.eq_ofNat_of_zero_le ha.1
  obtain ⟨m, rfl⟩ := Int.eq_ofNat_of_zero_le hb.1
  rw [o_fadd, Int.toNat_natCast, Int.toNat_natCast]
  unfold fadd
  omega
 ·rw [inU_t] at ha hb
  obtain ⟨n, rfl⟩ := Int.eq_ofNat_of_zero_le ha.1
  obtain ⟨m, rfl⟩ := Int.eq_ofNat_of_zero_le hb.1
  rw [o_fsub, Int.toNat_natCast, Int.toNat_natCast]
  unfold fsub fadd fneg
  omega
 ·rw [o_pbase, o_pright, Int.toNat_natCast]; exact right_base _
 ·rw [o_padd, o_pright, Int.toNat_natCast]; exact right_add _ _
 ·rw [o_padd, o_pbase a, o_pbase b, o_fadd, o_pbase, Int.toNat_natCast, Int.toNat_natCast, Int.toNat_natCast, base_add]
 ·rw [inU_t] at ha
  obtain ⟨n, rfl⟩ := Int.eq_ofNat_of_zero_le ha.1
  rw [o_pbase, o_pbase, show ((n : Int) % 2305843009213688669).toNat = n % 2305843009213688669 by omega, Int.toNat_natCast]
  rw [show n % 2305843009213688669 = fof n from rfl, base_base]
 ·rw [inU_t] at hx hb
  obtain ⟨n, rfl⟩ := Int.eq_ofNat_of_zero_le hx.1
  obtain ⟨m, rfl⟩ := Int.eq_ofNat_of_zero_le hb.1
  rw [o_pright, Int.toNat_natCast] at hr
  rw [o_pbase, o_padd, Int.toNat_natCast, Int.toNat_natCast, Int.toNat_natCast] at h
  have := base_null hr (Int.ofNat_inj.1 h)
  omega
 ·rw [o_ffrom]
  have h1 := ffrom_lt (natsA a)
  have h2 := ffrom_pos (natsA a)
  omega
 ·have e0 : sumO oo l = (((l.map Int.toNat).foldl fadd 0 : Nat) : Int) := sum_nat l 0
  have e1 : (l.map oo.pbase).map Int.toNat = (l.map Int.toNat).map pbase := by
   rw [List.map_map, List.map_map]
   apply List.map_congr_left
   intro x _
   show (oo.pbase x).toNat = pbase x.toNat
   rw [o_pbase, Int.toNat_natCast]
  rw [o_pallI, pallI_nat, e1, e0, o_pbase, Int.toNat_natCast]
  have := pall_base (l.map Int.toNat) 0
  rw [base_0] at this
  unfold pall
  rw [this]
end
/-! A law with a slice among its arguments. -/
theorem calls_ro {I : Sx.Interp} {P : Program} {f : FuncId} {ks : List AK} {g : List Sx.Arg → Option (Bool × List Ret)} (h : Sx.SpecOK I P f (gspec ks g)) {w : World} (s : Value) (F : Nat → Prop) {c : Sx.Cont} {xs : List SV} {ar : List Sx.Arg} {rds : List (List Nat)} {v : Value}
  (hr : ReadsC F w s c) (hF : ∀ b, F b → b < w.heap.size) (hx : SV.idss (Nat.beq 0) xs = true) (hread : readAll (fun i => match i with | 0 => some (.ro c) | _ => none) ks xs = some (ar, rds)) (hap : apartIds ks rds [] = true) (hg : g ar = some (true, [.v v])) (ha : AmbW I w := by first | assumption | exact And.intro trivial (fun _ h => h.elim)) :
  Calls P f (SV.dens ⟨fun _ => 0, fun _ => s, fun _ => F⟩ xs).toArray w fun e w' => e = .returned v ∧ Fr (fun _ => False) w w' := by
 have hM : ∀ i r, (fun i => match i with | 0 => some (Res.ro c) | _ => none : Nat → Option Res) i = some r → i = 0 ∧ r = .ro c := fun i r hi => by
  match i, hi with
  | 0, hi => exact ⟨rfl, (Option.some.inj hi).symm⟩
 refine (h.calls ⟨fun _ => 0, fun _ => s, fun _ => F⟩ (Nat.beq 0) (fun i => match i with | 0 => some (.ro c) | _ => none) xs w 64 ⟨fun i r hi => ?_, fun i r b hi hb => ?_, fun i j ri rj b hij hi hj => ?_⟩ (fun i r hi => ?_) hx (fun i hi => ?_) ⟨ha, fun b hb i r hi hmu => by obtain ⟨_, rfl⟩ := hM i r hi; cases hmu⟩ ?_).mono ?_
 ·obtain ⟨rfl, rfl⟩ := hM i r hi
  exact hr
 ·obtain ⟨rfl, rfl⟩ := hM i r hi
  exact hF b hb
 ·obtain ⟨rfl, _⟩ := hM i ri hi
  obtain ⟨rfl, _⟩ := hM j rj hj
  exact absurd rfl hij
 ·obtain ⟨rfl, rfl⟩ := hM i r hi
  exact ⟨rfl, rfl⟩
 ·unfold fresh at hi
  simp only [Bool.and_eq_true, Nat.ble_eq] at hi
  cases i with
  | zero => omega
  | succ i => rfl
 ·simp only [gspec, hread, hap, hg]
 ·rintro e w' ⟨γ', he, _, _, _, hfr⟩
  have ho : ((gspec ks g).out xs (fun i => match i with | 0 => some (.ro c) | _ => none) 64).1 = .v v := by simp [Sx.Spec.out, gspec, hread, hg, retSV, tupled]
  refine ⟨by rw [he, ho]; simp [SV.den], hfr.mono fun x _ hx => ?_⟩
  obtain ⟨i, q, _, hq, hm, _⟩ := hx
  obtain ⟨rfl, rfl⟩ := hM i q hq
  cases hm
theorem isRow_reads {w : World} {k : IntKind} {a : Option Addr} {len cap : Nat} {zs : List Int} (h : IsRow k w a len cap zs) (hs : ∀ x, a = some x → x.spot = none ∧ x.block < w.heap.size) :
  ReadsC (fun b => ∃ x, a = some x ∧ x.block = b) w (.slice a len cap) (.ints k (zs.take len)) := by
 refine ⟨Cont.cells_length _, ?_⟩
 rcases h with ⟨rfl, rfl, rfl, rfl⟩ | ⟨x, rfl, hl, hm, hz, hc, hw⟩
 ·exact .inl ⟨rfl, rfl⟩
 ·have en : (zs.take len).length = len := by rw [List.length_take]; omega
  refine .inr ⟨x, cap, by simp only [Cont.n, en], ⟨x, rfl, rfl⟩, (hs x rfl).1, by simp only [Cont.n, en]; exact hl, hm, fun i u hu => ?_⟩
  simp only [Cont.cells, List.getElem?_map, Option.map_eq_some_iff] at hu
  obtain ⟨y, hy, rfl⟩ := hu
  rw [List.getElem?_take] at hy
  split at hy
  ·obtain ⟨hi, rfl⟩ := List.getElem?_eq_some_iff.1 hy
   rw [hc i hi, List.getD_eq_getElem?_getD, List.getElem?_eq_getElem hi]
   rfl
  ·cases hy
theorem isRow_len {w : World} {k : IntKind} {a : Option Addr} {len cap : Nat} {zs : List Int} (h : IsRow k w a len cap zs) : (zs.take len).length = len ∧ Nat.ble len 9223372036854775807 = true := by
 rcases h with ⟨rfl, rfl, rfl, rfl⟩ | ⟨x, rfl, hl, hm, hz, hc, hw⟩
 ·exact ⟨rfl, rfl⟩
 ·have hm' : cap ≤ 9223372036854775807 := hm
  exact ⟨by rw [List.length_take]; omega, Nat.ble_eq_true_of_le (by omega)⟩
theorem isRow_in {w : World} {a : Option Addr} {len cap : Nat} {zs : List Int} (h : IsRow .u64 w a len cap zs) : inUs 18446744073709551616 (zs.take len) = true := by
 rcases h with ⟨rfl, rfl, rfl, rfl⟩ | ⟨x, rfl, hl, hm, hz, hc, hw⟩
 ·rfl
 ·unfold inUs
  rw [List.all_eq_true]
  intro y hy
  obtain ⟨n, hn, rfl⟩ := nat_u64 (hw y (List.mem_of_mem_take hy))
  exact inU_of hn
theorem okWide_has {P : Program} {w : World} {r : Reach} {base : Nat} {t e : TypeId} {a : Option Addr} {len cap : Nat} (ht : P.underlying t = some (.slice e)) (h : Value.okWide P w r base t (.slice a len cap)) : ∀ x, a = some x → x.spot = none ∧ x.block < w.heap.size := by
 rintro x rfl
 simp only [Value.okWide, ht, Cell.okWide, Cell.ok] at h
 obtain ⟨_, _, _, hs, row, cells, hsh, _⟩ := h
 refine ⟨hs, ?_⟩
 unfold World.shape? at hsh
 rcases Nat.lt_or_ge x.block w.heap.size with hlt | hge
 ·exact hlt
 ·rw [Array.getElem?_eq_none hge] at hsh
  cases hsh
end Go.Proofs.Ytcdmmfelagbpdaa
