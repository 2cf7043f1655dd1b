/- Sheet: a law with a state and a slice of acts called. -/
import Derived.Test.YtgekiddgdjeaiaaLb
import Derived.Test.YtgekiddgdjeaiaaShE
namespace Go.Proofs.Ytgekiddgdjeaiaa
open Go.ChangeShapes Go.WideShapes Go.RowKit Go.Lib Ckp Cfd Cpd Sx
set_option linter.unusedVariables false
set_option linter.unusedSimpArgs false
set_option maxRecDepth 1000000
/-- A slice's acts. -/
def na (z : List (List Int)) (len : Nat) : List (List Int) := (z.map (nrm 8)).take len
theorem na_acts {w : World} {a : Option Addr} {len cap : Nat} {z : List (List Int)} (h : IsRowS KAl w a len cap z) : actsB (na z len) = true := by
 unfold actsB
 rw [List.all_eq_true]
 intro x hx
 have hx8 : x.length = 8 := by
  have := List.mem_of_mem_take hx
  obtain ⟨y, _, rfl⟩ := List.mem_map.1 this
  unfold nrm; simp
 obtain ⟨i, hi, rfl⟩ := List.getElem_of_mem hx
 have h4 := rowS_ok (rowS_nrm h) i hi 4 .u64 rfl
 have h6 := rowS_ok (rowS_nrm h) i hi 6 .u64 rfl
 rw [show ((z.map (nrm KAl.length)).take len).getD i [] = (na z len)[i] from getD_at hi] at h4 h6
 obtain ⟨n, b, e⟩ := nat_u64 h4
 obtain ⟨m, d, e2⟩ := nat_u64 h6
 rw [e, e2, inU_of b, inU_of d, hx8]; rfl
theorem na_len {w : World} {a : Option Addr} {len cap : Nat} {z : List (List Int)} (h : IsRowS KAl w a len cap z) : Nat.ble (na z len).length 9223372036854775807 = true := by
 have := rowS_len (rowS_nrm h)
 rw [show (na z len).length = len from this.1]; exact this.2
theorem walk_sholds (w : World) (c : List Int) (hl : c.length = chK.length) (hw : wfs chK c) (no h0 h1 rt : Int) (a_l : Option Addr) (len_l cap_l : Nat) (z_l : List (List Int)) (hr : IsRowS KCl w a_l len_l cap_l z_l) (hs : ∀ x, a_l = some x → x.spot = none ∧ x.block < w.heap.size) (a_m : Option Addr) (len_m cap_m : Nat) (z_m : List (List Int)) (hr2 : IsRowS KAl w a_m len_m cap_m z_m) (hs2 : ∀ x, a_m = some x → x.spot = none ∧ x.block < w.heap.size) :
  Calls Try.prog 5 #[.agg (zipV chK c).toArray, .agg #[.int .i64 no, .int .i64 h0, .int .i64 h1, .slice a_l len_l cap_l, .int .i64 rt], .slice a_m len_m cap_m] w fun e w' => e = .returned (.bool true) ∧ Kp w w' := by
 have hc := chB_zip hl hw
 have hn := nl_len hr
 have hd := nl_cnd hr
 have mn := na_len hr2
 have md := na_acts hr2
 generalize hC : (zipV chK c).toArray = C at *
 refine (calls_pats (ok_sholds I0 oo rfl (yO oo) rfl) [Value.slice a_l len_l cap_l, Value.slice a_m len_m cap_m] (fun i b => match i with | 0 => ∃ x, a_l = some x ∧ x.block = b | _ => ∃ x, a_m = some x ∧ x.block = b) (cs := [.structs KCl (nl z_l len_l), .structs KAl (na z_m len_m)]) (fun i c hi => ?_) (fun i c b hi hb => ?_)
  (xs := [.v (.agg C), .agg [.v (.int .i64 no), .v (.int .i64 h0), .v (.int .i64 h1), .row 0, .v (.int .i64 rt)], .row 1]) (v := .bool true) rfl (by simp) (hp := rfl) rfl (by
  unfold g_sholds
  simp only [hc, hn, hd, mn, md, Bool.and_self])).mono fun _ _ ⟨he, hf⟩ => ⟨he, fr_below hf⟩
 ·match i with
  | 0 =>
   simp only [List.getElem?_cons_zero, Option.some.injEq] at hi
   subst hi
   exact rowS_reads (by decide) (rowS_nrm hr) hs
  | 1 =>
   simp only [List.getElem?_cons_succ, List.getElem?_cons_zero, Option.some.injEq] at hi
   subst hi
   exact rowS_reads (by decide) (rowS_nrm hr2) hs2
  | i + 2 => simp at hi
 ·match i with
  | 0 =>
   obtain ⟨x, rfl, rfl⟩ := hb
   exact (hs x rfl).2
  | i + 1 =>
   obtain ⟨x, rfl, rfl⟩ := hb
   exact (hs2 x rfl).2
end Go.Proofs.Ytgekiddgdjeaiaa
