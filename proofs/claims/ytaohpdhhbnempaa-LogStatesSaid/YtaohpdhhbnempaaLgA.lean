/- LogStates: the law called. -/
import Derived.Test.YtaohpdhhbnempaaLg9
namespace Go.Proofs.Ytaohpdhhbnempaa
open Go.ChangeShapes Go.WideShapes Go.RowKit Go.Lib Ckp Cfd Cpd Sx
set_option linter.unusedVariables false
set_option linter.unusedSimpArgs false
set_option maxRecDepth 1000000
theorem st_all {l : List (List DD)} {n : Nat} (h : WfN (n + 2) stD l) : stAll l = true := by
 unfold stAll
 rw [List.all_eq_true]
 intro j hj
 obtain ⟨_, h3⟩ := h j (List.mem_range.1 hj)
 have h4 : WfN (n + 1) [.n .i64, .n .i64, .n .i64, .n .u64, .n .i64] (ddAt l j 3).l := h3 3 _ rfl
 unfold pqB
 rw [List.all_eq_true]
 intro x hx
 have e : stCs l j = (ddAt l j 3).l.map ddI := rfl
 rw [e] at hx
 obtain ⟨y, hy, rfl⟩ := List.mem_map.1 hx
 obtain ⟨k, hk, rfl⟩ := List.getElem_of_mem hy
 obtain ⟨h5, h6⟩ := h4 k hk
 have ek : (ddAt l j 3).l.getD k [] = (ddAt l j 3).l[k] := by rw [List.getD_eq_getElem?_getD, List.getElem?_eq_getElem hk]; rfl
 have hu : (Lit.int .u64 (ddAt (ddAt l j 3).l k 3).i).wf = true := h6 3 _ rfl
 obtain ⟨m, hm, em⟩ := nat_u64 hu
 have e3 : (ddI ((ddAt l j 3).l[k])).getD 3 0 = (ddAt (ddAt l j 3).l k 3).i := by
  show (((ddAt l j 3).l[k]).map DD.i).getD 3 0 = (((ddAt l j 3).l.getD k []).getD 3 (.n 0)).i
  rw [getD_map_dd, ek]
 rw [e3, em, inU_of hm, Bool.true_and, Nat.beq_eq]
 unfold ddI
 rw [List.length_map, ← ek]
 exact h5
theorem walk_gstates (w : World) (a_l : Option Addr) (len_l cap_l : Nat) (l : List (List DD)) (hd : DeepN (fun b => b < w.heap.size) w 9 stD (.slice a_l len_l cap_l) l) (hw : WfN 9 stD l) (bu : Int) (hbu : -9223372036854775808 ≤ bu ∧ bu ≤ 9223372036854775807) (mo : Int) (hmo : -9223372036854775808 ≤ mo ∧ mo ≤ 9223372036854775807) :
  Calls Try.prog 6 #[.slice a_l len_l cap_l, .int .i64 bu, .int .i64 mo] w fun e w' => e = .returned (.bool true) ∧ Kp w w' := by
 have hg : g_gstates oo bO [.deep l, .v (.int .i64 bu), .v (.int .i64 mo)] = some (true, [], fun _ => ⟨[.v (.bool true)], []⟩) := by
  unfold g_gstates
  simp only [st_all (n := 7) hw, show (iLe (-9223372036854775808) bu && iLe bu 9223372036854775807) = true by simp only [Sx.Bz, Sx.Cont.n]; exact hbu, show (iLe (-9223372036854775808) mo && iLe mo 9223372036854775807) = true by simp only [Sx.Bz, Sx.Cont.n]; exact hmo, Bool.and_self]
 exact (calls_patsD (ok_gstates I0 oo rfl bO rfl) [.slice a_l len_l cap_l] (fun _ b => b < w.heap.size) (fun i => match i with | 0 => some (.deep stD l) | _ => none) (xs := [.row 0, .v (.int .i64 bu), .v (.int .i64 mo)])
  (fun i r h => by
   match i, h with
   | 0, h => cases h; exact ⟨by omega, rfl, fun _ => rfl, ⟨9, hd⟩, fun b hb => hb⟩
   | _ + 1, h => cases h) rfl rfl rfl hg).mono fun _ _ ⟨he, hf⟩ => ⟨he, fr_below hf⟩
end Go.Proofs.Ytaohpdhhbnempaa
