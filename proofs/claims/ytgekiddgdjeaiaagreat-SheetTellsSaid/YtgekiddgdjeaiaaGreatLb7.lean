/- SheetTells: the law called. -/
import Derived.Test.YtgekiddgdjeaiaaGreatSh8
import Derived.Deep.Slices
import Derived.Test.YtgekiddgdjeaiaaGreatCq
import Derived.Test.YtgekiddgdjeaiaaGreatSt4
namespace Go.Proofs.YtgekiddgdjeaiaaGreat
open Go.ChangeShapes Go.WideShapes Go.RowKit Go.Lib Ckp Cfd Cpd Sx
set_option linter.unusedVariables false
set_option linter.unusedSimpArgs false
set_option maxRecDepth 1000000
theorem awc {H : Type} {enc : TypeId × Value → H} {P : Program} {w : World} {r : Reach} {base base' : Nat} {t l0 l3 e : TypeId} {fs : Array Field} {ks : List IntKind} {v : Value} {d : DataW H} {p : List MemPlace}
  (hu : P.underlying t = some (.struct fs)) (hc : P.cellsOf t = 5) (q0 : acb P 9 t 0 = some l0) (q1 : acb P 9 t 1 = some l0) (q2 : acb P 9 t 2 = some l0) (q4 : acb P 9 t 4 = some l0) (h0 : P.underlying l0 = some (.int .i64))
  (q3 : acb P 9 t 3 = some l3) (h3 : P.underlying l3 = some (.slice e)) (hk : Ckp.mf P e = ks.map some) (ct : ∃ ts, P.cellTypes P.depth t = some ts ∧ ts.length = 5 ∧ ts[3]? = some l3)
  (hv : Value.okWide P w r base' t v) (h : DataW.Trod enc P w base (fun _ => true) true t v d p) :
  ∃ (no h0 h1 rt : Int) (a : Option Addr) (len cap : Nat) (zss : List (List Int)), v = .agg #[.int .i64 no, .int .i64 h0, .int .i64 h1, .slice a len cap, .int .i64 rt] ∧ ((-9223372036854775808 ≤ no ∧ no ≤ 9223372036854775807) ∧ (-9223372036854775808 ≤ h0 ∧ h0 ≤ 9223372036854775807) ∧ (-9223372036854775808 ≤ h1 ∧ h1 ≤ 9223372036854775807) ∧ (-9223372036854775808 ≤ rt ∧ rt ≤ 9223372036854775807)) ∧ acf ks w a len cap zss ∧ ∀ x, a = some x → x.spot = none ∧ x.block < w.heap.size := by
 obtain ⟨cs, rfl, hsz⟩ := okWide_struct hu hv
 have hv' := hv
 simp only [Value.okWide, hu] at hv'
 obtain ⟨cs', e', _, hrow⟩ := hv'
 injection e' with e'
 subst e'
 obtain ⟨fuel, hf⟩ := h
 obtain ⟨no, c0, w0⟩ := aa0 q0 h0 hf
 obtain ⟨a0, c1, w1⟩ := aa0 q1 h0 hf
 obtain ⟨a1, c2, w2⟩ := aa0 q2 h0 hf
 obtain ⟨rt, c4, w4⟩ := aa0 q4 h0 hf
 obtain ⟨s, m, y, c3, hy⟩ := ahd 9 t 3 l3 fuel _ _ q3 hf
 obtain ⟨a, len, cap, rfl⟩ : ∃ a len cap, s = Value.slice a len cap := by
  rcases Go.Deep.open_slice h3 hy with ⟨e, _⟩ | ⟨a, len, cap, _, _, _, _, e, _⟩
  ·exact ⟨none, 0, 0, by injection e⟩
  ·exact ⟨some a, len, cap, by injection e⟩
 have ht : DataW.Trod enc P w base (fun _ => true) true l3 (.slice a len cap) y.1 y.2 := ⟨m, hy⟩
 obtain ⟨zss, hz⟩ := a6w h3 hk ht
 have ec : (Value.agg cs).cells.toList = cs.toList := rfl
 rw [ec] at c0 c1 c2 c3 c4
 have hl : cs.toList = [.int .i64 no, .int .i64 a0, .int .i64 a1, .slice a len cap, .int .i64 rt] := by
  have hl5 : cs.toList.length = 5 := by simpa [hc] using hsz
  revert c0 c1 c2 c3 c4
  generalize cs.toList = L at *
  match L, hl5 with
  | [x0, x1, x2, x3, x4], _ => intro c0 c1 c2 c3 c4; simp at c0 c1 c2 c3 c4; rw [c0, c1, c2, c3, c4]
 refine ⟨no, a0, a1, rt, a, len, cap, zss, ?_, ⟨bounds_i64 w0, bounds_i64 w1, bounds_i64 w2, bounds_i64 w4⟩, hz, ?_⟩
 ·rw [← hl]
 ·obtain ⟨ts, t1, t2, t3⟩ := ct
  obtain ⟨ts', t1', _, hcell⟩ := hrow
  rw [t1] at t1'
  injection t1' with t1'
  subst t1'
  obtain ⟨u, hu3, hok⟩ := hcell 3 (.slice a len cap) (by rw [← c3]; simp)
  rw [t2, t3] at hu3
  injection hu3 with hu3
  subst hu3
  refine ak8 (len := len) (cap := cap) h3 (w := w) (r := r) (base := base') ?_
  simp only [Value.okWide, h3]
  exact hok
def nrm (n : Nat) (x : List Int) : List Int := (List.range n).map fun j => x.getD j 0
theorem bdf {n : Nat} {x : List Int} {j : Nat} (h : j < n) : (nrm n x).getD j 0 = x.getD j 0 := by
 unfold nrm
 rw [List.getD_eq_getElem?_getD, List.getElem?_map, List.getElem?_range h]; rfl
theorem awr : ∀ (ks : List IntKind) (xs ys : List Int) (c : Nat), (∀ j, c ≤ j → j < c + ks.length → xs.getD j 0 = ys.getD j 0) → gu xs ks c = gu ys ks c
 | [], _, _, _, _ => rfl
 | k :: ks, xs, ys, c, h => by
  show Value.int k (xs.getD c 0) :: gu xs ks (c + 1) = Value.int k (ys.getD c 0) :: gu ys ks (c + 1)
  rw [h c (Nat.le_refl _) (by simp), awr ks xs ys (c + 1) fun j h1 h2 => h j (by omega) (by simp only [List.length_cons]; omega)]
theorem af2 {ks : List IntKind} {w : World} {a : Option Addr} {len cap : Nat} {zss : List (List Int)} (h : acf ks w a len cap zss) : acf ks w a len cap (zss.map (nrm ks.length)) := by
 rcases h with ⟨rfl, rfl, rfl, rfl⟩ | ⟨x, rfl, hl, hm, hz, hc⟩
 ·exact .inl ⟨rfl, rfl, rfl, rfl⟩
 ·refine .inr ⟨x, rfl, hl, hm, by rw [List.length_map]; exact hz, fun i hi => ?_⟩
  have eg : (zss.map (nrm ks.length)).getD i [] = nrm ks.length (zss.getD i []) := by
   rw [List.getD_eq_getElem?_getD, List.getD_eq_getElem?_getD, List.getElem?_map, List.getElem?_eq_getElem (by omega)]; rfl
  have ee : y7 ks (nrm ks.length (zss.getD i [])) = y7 ks (zss.getD i []) := by
   unfold y7
   rw [awr ks (nrm ks.length (zss.getD i [])) (zss.getD i []) 0 fun j _ h => bdf (by omega)]
  rw [eg, ee]
  refine ⟨(hc i hi).1, fun j k hk => ?_⟩
  have hj : j < ks.length := (List.getElem?_eq_some_iff.1 hk).1
  rw [bdf hj]
  exact (hc i hi).2 j k hk
def KCl : List IntKind := [.i64, .i64, .i64, .u64, .i64]
theorem ben {l : List (List Int)} : cnd l = true ↔ ∀ x ∈ l, (inU (x.getD 3 0) 18446744073709551616 && Nat.beq x.length 5) = true := by unfold cnd; exact List.all_eq_true
def nl (z : List (List Int)) (len : Nat) : List (List Int) := (z.map (nrm 5)).take len
theorem bnx {w : World} {a : Option Addr} {len cap : Nat} {z : List (List Int)} (h : acf KCl w a len cap z) : cnd (nl z len) = true := by
 rw [ben]
 intro x hx
 have hx5 : x.length = 5 := by
  have := List.mem_of_mem_take hx
  obtain ⟨y, _, rfl⟩ := List.mem_map.1 this
  unfold nrm; simp
 obtain ⟨i, hi, rfl⟩ := List.getElem_of_mem hx
 have h3 := a2h (af2 h) i hi 3 .u64 rfl
 rw [show ((z.map (nrm KCl.length)).take len).getD i [] = (nl z len)[i] from getD_at hi] at h3
 obtain ⟨n, b, e⟩ := amu h3
 rw [e, ako b, hx5]; rfl
theorem bmw {w : World} {a : Option Addr} {len cap : Nat} {z : List (List Int)} (h : acf KCl w a len cap z) : Nat.ble (nl z len).length 9223372036854775807 = true := by
 have := ayp (af2 h)
 rw [show (nl z len).length = len from this.1]; exact this.2
theorem bpf {f : FuncId} {ps : List Pat} {g : List Dt → Option (Bool × List Bool × (List Bool → Post))} (h : ag I0 Tryz.prog f (au ps false g)) {w : World} {a : Option Addr} {len cap : Nat} {z : List (List Int)} (hr : acf KCl w a len cap z) (hs : ∀ x, a = some x → x.spot = none ∧ x.block < w.heap.size)
  {xs : List SV} {ds : List Dt} {ns : List Nm} {v : Value} (hx : SV.idss (fun i => Nat.blt i 8) xs = true) (hp : pms (roM [.structs KCl (nl z len)]) ps xs = some (ds, ns)) (hap : apN ns = true) (hg : g ds = some (true, [], fun _ => ⟨[.v v], []⟩)) :
  Calls Tryz.prog f (SV.dens ⟨fun _ => 0, fun i => [Value.slice a len cap].getD i undef, fun _ b => ∃ x, a = some x ∧ x.block = b⟩ xs).toArray w fun e w' => e = .returned v ∧ Kp w w' := by
 refine (a04 h [Value.slice a len cap] (fun _ b => ∃ x, a = some x ∧ x.block = b) (cs := [.structs KCl (nl z len)]) (fun i c hi => ?_) (fun i c b hi hb => ?_) hx (by simp) hp hap hg).mono fun _ _ ⟨he, hf⟩ => ⟨he, ayk hf⟩
 ·cases i with
  | zero =>
   simp only [List.getElem?_cons_zero, zsI] at hi
   subst hi
   exact ao1 (by decide) (af2 hr) hs
  | succ i => simp at hi
 ·obtain ⟨x, rfl, rfl⟩ := hb
  exact (hs x rfl).2
end Go.Proofs.YtgekiddgdjeaiaaGreat

namespace Go.Proofs.YtgekiddgdjeaiaaGreat
open Go.ChangeShapes Go.WideShapes Go.RowKit Go.Lib Ckp Cfd Cpd Sx
set_option linter.unusedVariables false
set_option linter.unusedSimpArgs false
set_option maxRecDepth 1000000
theorem bb9 {w : World} {a : Option Addr} {len cap : Nat} {zs : List Int} (h : awx .u8 w a len cap zs) : byB (zs.take len) = true := by
 rw [aau]
 intro x hx
 have hx := List.mem_of_mem_take hx
 rcases h with ⟨_, _, _, rfl⟩ | ⟨_, _, _, _, _, _, hw⟩
 ·cases hx
 ·obtain ⟨n, b, rfl⟩ := blj (hw x hx)
  omega
theorem bpc {w : World} {a : Option Addr} {len cap : Nat} {z : List (List Int)} (h : acf KCl w a len cap z) : ((nl z len).all fun x => uh (-9223372036854775808) 9223372036854775807 [x.getD 0 0, x.getD 1 0, x.getD 2 0, x.getD 4 0]) = true := by
 refine List.all_eq_true.2 fun x hx => ?_
 obtain ⟨i, hi, rfl⟩ := List.getElem_of_mem hx
 have e : ((z.map (nrm KCl.length)).take len).getD i [] = (nl z len)[i] := getD_at hi
 have g : ∀ j, KCl[j]? = some IntKind.i64 → -9223372036854775808 ≤ ((nl z len)[i]).getD j 0 ∧ ((nl z len)[i]).getD j 0 ≤ 9223372036854775807 := fun j hj => by
  have h3 := a2h (af2 h) i hi j .i64 hj
  rw [e] at h3
  exact bounds_i64 h3
 have g0 := g 0 rfl
 have g1 := g 1 rfl
 have g2 := g 2 rfl
 have g4 := g 4 rfl
 refine abz.2 fun n hn => ?_
 simp only [List.mem_cons, List.not_mem_nil, or_false] at hn
 rcases hn with rfl | rfl | rfl | rfl
 ·exact g0
 ·exact g1
 ·exact g2
 ·exact g4
theorem ap6 (w : World) (c : List Int) (hl : c.length = chK.length) (hw : wfs chK c) (no h0 h1 rt : Int) (a_l : Option Addr) (len_l cap_l : Nat) (z_l : List (List Int)) (hr : acf KCl w a_l len_l cap_l z_l) (hs : ∀ x, a_l = some x → x.spot = none ∧ x.block < w.heap.size) (bd : (-9223372036854775808 ≤ no ∧ no ≤ 9223372036854775807) ∧ (-9223372036854775808 ≤ h0 ∧ h0 ≤ 9223372036854775807) ∧ (-9223372036854775808 ≤ h1 ∧ h1 ≤ 9223372036854775807) ∧ (-9223372036854775808 ≤ rt ∧ rt ≤ 9223372036854775807)) (f i a : Int) (q : Nat) (hq : q < 18446744073709551616) (e fr id : Int) (k : Nat) (hk : k < 18446744073709551616) (r : Int) (a_b : Option Addr) (len_b cap_b : Nat) (z_b : List Int) (hqb : awx .u8 w a_b len_b cap_b z_b) (hs_b : ∀ x, a_b = some x → x.spot = none ∧ x.block < w.heap.size) :
  Calls Tryz.prog 3 #[.agg (aql chK c).toArray, .agg #[.int .i64 no, .int .i64 h0, .int .i64 h1, .slice a_l len_l cap_l, .int .i64 rt], .agg #[.int .i64 f, .int .i64 i, .int .i64 a, .int .u64 q, .int .i64 e], .int .i64 fr, .int .i64 id, .int .u64 k, .int .i64 r, .slice a_b len_b cap_b] w fun e w' => e = .returned (.bool true) ∧ Kp w w' := by
 have hc := bib hl hw
 have iq := ako hq
 have ik := ako hk
 have ib : uh (-9223372036854775808) 9223372036854775807 [no, h0, h1, rt] = true := abz.2 fun n hn => by
  simp only [List.mem_cons, List.not_mem_nil, or_false] at hn
  rcases hn with rfl | rfl | rfl | rfl
  ·exact bd.1
  ·exact bd.2.1
  ·exact bd.2.2.1
  ·exact bd.2.2.2
 generalize hC : (aql chK c).toArray = C at *
 have hg : ac6 oo (yO oo) bO [.v (.agg C), .node [.v (.int .i64 no), .v (.int .i64 h0), .v (.int .i64 h1), .structs (nl z_l len_l), .v (.int .i64 rt)], .v (.agg ⟨[.int .i64 f, .int .i64 i, .int .i64 a, .int .u64 q, .int .i64 e]⟩), .v (.int .i64 fr), .v (.int .i64 id), .v (.int .u64 k), .v (.int .i64 r), .ints (z_b.take len_b)] = some (true, [], fun _ => ⟨[.v (.bool true)], []⟩) := by
  unfold ac6
  simp only [hc, bmw hr, bnx hr, iq, ik, bb9 hqb, ib, bpc hr, Bool.and_self]
 exact (awz (ax5 I0 oo rfl (yO oo) rfl bO rfl) [.slice a_l len_l cap_l, .slice a_b len_b cap_b] (fun i b => match i with | 0 => ∃ x, a_l = some x ∧ x.block = b | _ => b < w.heap.size) (fun i => match i with | 0 => some (.ro (.structs KCl (nl z_l len_l))) | 1 => some (.ro (.ints .u8 (z_b.take len_b))) | _ => none) (xs := [.v (.agg C), .agg [.v (.int .i64 no), .v (.int .i64 h0), .v (.int .i64 h1), .row 0, .v (.int .i64 rt)], .v (.agg ⟨[.int .i64 f, .int .i64 i, .int .i64 a, .int .u64 q, .int .i64 e]⟩), .v (.int .i64 fr), .v (.int .i64 id), .v (.int .u64 k), .v (.int .i64 r), .row 1])
  (fun i r h => by
   match i, h with
   | 0, h => cases h; exact ⟨by omega, .inl ⟨_, rfl, ao1 (by decide) (af2 hr) hs⟩⟩
   | 1, h => cases h; exact ⟨by omega, .inl ⟨_, rfl, a0o hqb⟩⟩
   | _ + 2, h => cases h) (fun i b h => by
   match i, h with
   | 0, h => obtain ⟨x, rfl, rfl⟩ := h; exact (hs x rfl).2
   | _ + 1, h => exact h) rfl rfl rfl hg).mono fun _ _ ⟨he, hf⟩ => ⟨he, ayk hf⟩
end Go.Proofs.YtgekiddgdjeaiaaGreat
