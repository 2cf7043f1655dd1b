/- LogTxs: the law called. -/
import Derived.Test.YtaohpdhhbnempaaLgB
namespace Go.Proofs.Ytaohpdhhbnempaa
open Go.ChangeShapes Go.WideShapes Go.RowKit Go.Lib Ckp Cfd Cpd Sx
set_option linter.unusedVariables false
set_option linter.unusedSimpArgs false
set_option maxRecDepth 1000000
theorem wf_at {n : Nat} {fs : List DS} {l : List (List DD)} (h : WfN (n + 1) fs l) {y : List DD} (hy : y ∈ l) : y.length = fs.length ∧ ∀ (c : Nat) (f : DS), fs[c]? = some f → (match f with | .n q => (Lit.int q (y.getD c (.n 0)).i).wf = true | .s gs => WfN n gs (y.getD c (.n 0)).l) := by
 obtain ⟨k, hk, rfl⟩ := List.getElem_of_mem hy
 have ek : l.getD k [] = l[k] := by rw [List.getD_eq_getElem?_getD, List.getElem?_eq_getElem hk]; rfl
 have := h k hk
 unfold ddAt at this
 rw [ek] at this
 exact this
theorem wf_u64 {z : Int} (h : (Lit.int .u64 z).wf = true) : inU z 18446744073709551616 = true := by
 obtain ⟨m, hm, e⟩ := nat_u64 h
 rw [e]; exact inU_of hm
theorem wf_br {n : Nat} {l : List (List DD)} (h : WfN (n + 2) brD l) : (l.map vB).all brV = true := by
 rw [List.all_eq_true]
 intro v hv
 obtain ⟨y, hy, rfl⟩ := List.mem_map.1 hv
 obtain ⟨_, h2⟩ := wf_at h hy
 have hk : WfN (n + 1) [.n .u64] (y.getD 0 (.n 0)).l := h2 0 _ rfl
 have hs : (Lit.int .u64 (y.getD 3 (.n 0)).i).wf = true := h2 3 _ rfl
 unfold brV
 rw [zaT]
 refine ⟨?_, wf_u64 hs⟩
 show inUs _ ((y.getD 0 (.n 0)).l.map fun y => (y.getD 0 (.n 0)).i) = true
 unfold inUs
 rw [List.all_eq_true]
 intro x hx
 obtain ⟨z, hz, rfl⟩ := List.mem_map.1 hx
 obtain ⟨_, h3⟩ := wf_at hk hz
 exact wf_u64 (h3 0 _ rfl)
theorem isHa_mk {h : List Int} (hl : h.length = 32) (hb : byB h = true) : isHa (Array.mk (h.map (Value.int .u8))) = true := by
 have h1 : (Array.mk (h.map (Value.int .u8))).size = 32 := by
  show (h.map (Value.int .u8)).length = 32
  rw [List.length_map, hl]
 unfold isHa
 rw [h1, zaT]
 refine ⟨rfl, ?_⟩
 show (h.map (Value.int .u8)).all byteV = true
 rw [List.all_eq_true]
 intro z hz
 obtain ⟨x, hx, rfl⟩ := List.mem_map.1 hz
 obtain ⟨b1, b2⟩ := byB_iff.1 hb x hx
 show (decide (0 ≤ x) && decide (x < 256)) = true
 rw [decide_eq_true b1, decide_eq_true b2]; rfl
theorem inD_at : ∀ {c : Nat}, c < 32 → inD[c]? = some (.n .u8)
 | 0, _ => rfl
 | 1, _ => rfl
 | 2, _ => rfl
 | 3, _ => rfl
 | 4, _ => rfl
 | 5, _ => rfl
 | 6, _ => rfl
 | 7, _ => rfl
 | 8, _ => rfl
 | 9, _ => rfl
 | 10, _ => rfl
 | 11, _ => rfl
 | 12, _ => rfl
 | 13, _ => rfl
 | 14, _ => rfl
 | 15, _ => rfl
 | 16, _ => rfl
 | 17, _ => rfl
 | 18, _ => rfl
 | 19, _ => rfl
 | 20, _ => rfl
 | 21, _ => rfl
 | 22, _ => rfl
 | 23, _ => rfl
 | 24, _ => rfl
 | 25, _ => rfl
 | 26, _ => rfl
 | 27, _ => rfl
 | 28, _ => rfl
 | 29, _ => rfl
 | 30, _ => rfl
 | 31, _ => rfl
 | c + 32, hc => absurd hc (by omega)
theorem wf_in {n : Nat} {l : List (List DD)} (h : WfN (n + 2) inD l) : (l.map vI).all (inV oo) = true := by
 rw [List.all_eq_true]
 intro v hv
 obtain ⟨y, hy, rfl⟩ := List.mem_map.1 hv
 obtain ⟨_, h2⟩ := wf_at h hy
 have in_at : ∀ c, c < 32 → inD[c]? = some (.n .u8) := fun c hc => inD_at hc
 have hb : ∀ c, c < 32 → 0 ≤ hF y c ∧ hF y c < 256 := fun c hc => by
  have e := in_at c hc
  have h3 := h2 c _ e
  obtain ⟨m, hm, e3⟩ := nat_u8 h3
  show 0 ≤ (y.getD c (.n 0)).i ∧ (y.getD c (.n 0)).i < 256
  rw [e3]; omega
 have hg : WfN (n + 1) [.n .u64, .n .u64] (y.getD 34 (.n 0)).l := h2 34 _ rfl
 have hs : (Lit.int .u64 (y.getD 35 (.n 0)).i).wf = true := h2 35 _ rfl
 have hby : byB (tabI (hF y) 32) = true := tab_byB 32 hb
 unfold inV
 simp only [zaT]
 refine ⟨⟨⟨⟨?_, ?_⟩, ?_⟩, wf_u64 hs⟩, hby⟩
 ·rw [Nat.beq_eq]; exact tab_length (hF y) 32
 ·rw [show oo.isH = isHa from rfl]
  exact isHa_mk (tab_length (hF y) 32) hby
 ·show ((y.getD 34 (.n 0)).l.map ddI).all sgW = true
  rw [List.all_eq_true]
  intro z hz
  obtain ⟨x, hx, rfl⟩ := List.mem_map.1 hz
  obtain ⟨l2, h3⟩ := wf_at hg hx
  have e : ∀ c, (ddI x).getD c 0 = (x.getD c (.n 0)).i := fun c => getD_map_dd x c
  refine sgW_iff.2 ⟨by unfold ddI; rw [List.length_map, l2]; rfl, ?_, ?_⟩
  ·rw [e]; exact wf_u64 (h3 0 _ rfl)
  ·rw [e]; exact wf_u64 (h3 1 _ rfl)
theorem x_all {l : List (List DD)} {n : Nat} (h : WfN (n + 4) txD l) : xAll oo l = true := by
 unfold xAll
 rw [List.all_eq_true]
 intro j hj
 obtain ⟨_, h3⟩ := h j (List.mem_range.1 hj)
 have hi : WfN (n + 3) inD (ddAt l j 0).l := h3 0 _ rfl
 have ho : WfN (n + 3) ouD (ddAt l j 1).l := h3 1 _ rfl
 have hn : (Lit.int .i64 (ddAt l j 2).i).wf = true := h3 2 _ rfl
 unfold txV
 simp only [zaT]
 refine ⟨⟨wf_in hi, ?_⟩, ?_⟩
 ·show ((ddAt l j 1).l.map vO).all ouV = true
  rw [List.all_eq_true]
  intro v hv
  obtain ⟨y, hy, rfl⟩ := List.mem_map.1 hv
  obtain ⟨_, h4⟩ := wf_at ho hy
  exact wf_br (h4 1 _ rfl)
 ·have := (bounds_i64 hn).2
  show iLe (ddAt l j 2).i 9223372036854775807 = true
  simp only [Bz, Sx.Cont.n]; exact this
theorem walk_gtxs (w : World) (a_l : Option Addr) (len_l cap_l : Nat) (l : List (List DD)) (hd : DeepN (fun b => b < w.heap.size) w 9 txD (.slice a_l len_l cap_l) l) (hw : WfN 9 txD l) (bu : Int) (hbu : -9223372036854775808 ≤ bu ∧ bu ≤ 9223372036854775807) (mo : Int) (hmo : -9223372036854775808 ≤ mo ∧ mo ≤ 9223372036854775807) :
  Calls Try.prog 7 #[.slice a_l len_l cap_l, .int .i64 bu, .int .i64 mo] w fun e w' => e = .returned (.bool true) ∧ Kp w w' := by
 have hg : g_gtxs oo bO [.deep l, .v (.int .i64 bu), .v (.int .i64 mo)] = some (true, [], fun _ => ⟨[.v (.bool true)], []⟩) := by
  unfold g_gtxs
  simp only [x_all (n := 5) hw, show (iLe (-9223372036854775808) bu && iLe bu 9223372036854775807) = true by simp only [Bz, Sx.Cont.n]; exact hbu, show (iLe (-9223372036854775808) mo && iLe mo 9223372036854775807) = true by simp only [Bz, Sx.Cont.n]; exact hmo, Bool.and_self]
 exact (calls_patsD (ok_gtxs I0 oo rfl bO rfl) [.slice a_l len_l cap_l] (fun _ b => b < w.heap.size) (fun i => match i with | 0 => some (.deep txD l) | _ => none) (xs := [.row 0, .v (.int .i64 bu), .v (.int .i64 mo)])
  (fun i r h => by
   match i, h with
   | 0, h => cases h; exact ⟨by omega, rfl, fun _ => rfl, ⟨9, hd⟩, fun b hb => hb⟩
   | _ + 1, h => cases h) rfl rfl rfl hg).mono fun _ _ ⟨he, hf⟩ => ⟨he, fr_below hf⟩
end Go.Proofs.Ytaohpdhhbnempaa
