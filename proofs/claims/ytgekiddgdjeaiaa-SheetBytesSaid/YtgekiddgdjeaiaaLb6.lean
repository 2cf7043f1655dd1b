/- SheetBytes: the law called. -/
import Derived.Test.YtgekiddgdjeaiaaLb
import Derived.Test.YtgekiddgdjeaiaaCq
import Derived.Test.YtgekiddgdjeaiaaSbl
namespace Go.Proofs.Ytgekiddgdjeaiaa
open Go.ChangeShapes Go.WideShapes Go.RowKit Go.Lib Ckp Cfd Cpd Sx
set_option linter.unusedVariables false
set_option linter.unusedSimpArgs false
set_option maxRecDepth 1000000
theorem row_byB6 {w : World} {a : Option Addr} {len cap : Nat} {zs : List Int} (h : IsRow .u8 w a len cap zs) : byB (zs.take len) = true := by
 rw [byB_iff]
 intro x hx
 have hx := List.mem_of_mem_take hx
 rcases h with ⟨_, _, _, rfl⟩ | ⟨_, _, _, _, _, _, hw⟩
 ·cases hx
 ·obtain ⟨n, b, rfl⟩ := nat_u8 (hw x hx)
  omega
theorem walk_sbytes20 (w : World) (no h0 h1 rt : Int) (a_l : Option Addr) (len_l cap_l : Nat) (z_l : List (List Int)) (hr : IsRowS KCl w a_l len_l cap_l z_l) (hs : ∀ x, a_l = some x → x.spot = none ∧ x.block < w.heap.size) (a_b : Option Addr) (len_b cap_b : Nat) (z_b : List Int) (hq : IsRow .u8 w a_b len_b cap_b z_b) (hs_b : ∀ x, a_b = some x → x.spot = none ∧ x.block < w.heap.size) :
  Calls Try.prog 8 #[.agg #[.int .i64 no, .int .i64 h0, .int .i64 h1, .slice a_l len_l cap_l, .int .i64 rt], .slice a_b len_b cap_b] w fun e w' => e = .returned (.bool true) ∧ Kp w w' := by
 have hg : g_sbytes20 oo (yO oo) bO [.node [.v (.int .i64 no), .v (.int .i64 h0), .v (.int .i64 h1), .structs (nl z_l len_l), .v (.int .i64 rt)], .ints (z_b.take len_b)] = some (true, [], fun _ => ⟨[.v (.bool true)], []⟩) := by
  unfold g_sbytes20
  simp only [nl_len hr, nl_cnd hr, row_byB6 hq, Bool.and_self]
 exact (calls_patsR (ok_sbytes20 I0 oo rfl (yO oo) rfl bO rfl) [.slice a_l len_l cap_l, .slice a_b len_b cap_b] (fun i b => match i with | 0 => ∃ x, a_l = some x ∧ x.block = b | _ => b < w.heap.size) (fun i => match i with | 0 => some (.ro (.structs KCl (nl z_l len_l))) | 1 => some (.ro (.ints .u8 (z_b.take len_b))) | _ => none) (xs := [.agg [.v (.int .i64 no), .v (.int .i64 h0), .v (.int .i64 h1), .row 0, .v (.int .i64 rt)], .row 1])
  (fun i r h => by
   match i, h with
   | 0, h => cases h; exact ⟨by omega, .inl ⟨_, rfl, rowS_reads (by decide) (rowS_nrm hr) hs⟩⟩
   | 1, h => cases h; exact ⟨by omega, .inl ⟨_, rfl, row_readsK hq⟩⟩
   | _ + 2, h => cases h) (fun i b h => by
   match i, h with
   | 0, h => obtain ⟨x, rfl, rfl⟩ := h; exact (hs x rfl).2
   | _ + 1, h => exact h) rfl rfl rfl hg).mono fun _ _ ⟨he, hf⟩ => ⟨he, fr_below hf⟩
end Go.Proofs.Ytgekiddgdjeaiaa
