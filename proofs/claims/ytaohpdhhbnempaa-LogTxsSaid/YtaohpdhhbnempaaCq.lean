/- A slice of slices of bytes that comes in as a law's argument, and the call of a law by patterns with such arguments. No statement of the program itself. -/
import Derived.Test.YtaohpdhhbnempaaRowS
namespace Go.Proofs.Ytaohpdhhbnempaa
open Go.ChangeShapes Go.WideShapes Go.RowKit Go.Lib Ckp Sx
set_option linter.unusedVariables false
set_option linter.unusedSimpArgs false
set_option maxRecDepth 1000000
def IsRow2 (w : World) (a : Option Addr) (len cap : Nat) (zss : List (List Int)) : Prop :=
 (a = none ∧ len = 0 ∧ cap = 0 ∧ zss = []) ∨
 ∃ x, a = some x ∧ len ≤ cap ∧ cap ≤ maxLen ∧ zss.length = cap ∧ ∀ i, i < cap → ∃ b l c zs, w.cell? (x.add i) = some (.slice b l c) ∧ IsRow .u8 w b l c zs ∧ zss.getD i [] = zs.take l
theorem cell_there {w : World} {x : Addr} {v : Value} (h : w.cell? (x.add 0) = some v) : x.spot = none ∧ x.block < w.heap.size := by
 have h0 : x.add 0 = x := by unfold Addr.add; rw [if_pos rfl]
 rw [h0] at h
 unfold World.cell? at h
 split at h
 ·rename_i c t f hc
  refine ⟨?_, (Array.getElem?_eq_some_iff.1 hc).1⟩
  split at h
  ·cases h
  ·rename_i hs
   cases hx : x.spot with
   | none => rfl
   | some k => rw [hx] at hs; exact absurd rfl hs
 ·cases h
theorem calls_patsR {I : Sx.Interp} {P : Program} {f : FuncId} {ps : List Pat} {g : List Dt → Option (Bool × List Bool × (List Bool → Post))} {al : Bool} (h : Sx.SpecOK I P f (pspec ps al g)) {w : World} (ss : List Value) (F : Nat → Nat → Prop) (M : Nat → Option Res) {xs : List SV} {ds : List Dt} {ns : List Nm} {v : Value}
  (hr : ∀ i r, M i = some r → i < 8 ∧ ((∃ c, r = .ro c ∧ ReadsC (F i) w (ss.getD i undef) c) ∨ ∃ l, r = .ros l ∧ ReadsInN (F i) w (ss.getD i undef) l)) (hF : ∀ i b, F i b → b < w.heap.size) (hx : SV.idss (fun i => Nat.blt i 8) xs = true) (hp : pms M ps xs = some (ds, ns)) (hap : (apN ns && (!al || frzOk M (readIds ns))) = true) (hg : g ds = some (true, [], fun _ => ⟨[.v v], []⟩)) (ha : AmbW I w := by first | assumption | exact And.intro trivial (fun _ h => h.elim)) :
  Calls P f (SV.dens ⟨fun _ => 0, fun i => ss.getD i undef, F⟩ xs).toArray w fun e w' => e = .returned v ∧ Fr (fun _ => False) w w' := by
 have nomut : ∀ i r, M i = some r → r.mut = false := fun i r hi => by
  rcases (hr i r hi).2 with ⟨c, rfl, _⟩ | ⟨l, rfl, _⟩ <;> rfl
 refine (h.calls ⟨fun _ => 0, fun i => ss.getD i undef, F⟩ (fun i => Nat.blt i 8) M xs w 64 ⟨fun i r hi => ?_, fun i r b hi hb => ?_, fun i j ri rj b hij hi hj hm => ?_⟩ (fun i r hi => ?_) hx (fun i hi => ?_) ⟨ha, fun b hb i r hi hmu => by rw [nomut i r hi] at hmu; cases hmu⟩ ?_).mono ?_
 ·rcases (hr i r hi).2 with ⟨c, rfl, hc⟩ | ⟨l, rfl, hc⟩
  ·exact hc
  ·exact hc
 ·rcases (hr i r hi).2 with ⟨c, rfl, hc⟩ | ⟨l, rfl, hc⟩
  ·exact hF i b hb
  ·exact hF i b hb
 ·rw [nomut i ri hi] at hm; cases hm
 ·have h8 := (hr i r hi).1
  refine ⟨by rw [Nat.blt_eq]; exact h8, ?_⟩
  rcases (hr i r hi).2 with ⟨c, rfl, _⟩ | ⟨l, rfl, _⟩ <;> rfl
 ·unfold fresh at hi
  simp only [zaT, Nat.ble_eq] at hi
  rw [Bool.eq_false_iff]
  intro e
  rw [Nat.blt_eq] at e
  omega
 ·simp only [pspec, hp, hap, hg]
 ·rintro e w' ⟨γ', he, _, _, _, hfr⟩
  have ho : ((pspec ps al g).out xs M 64).1 = .v v := by simp [Sx.Spec.out, pspec, hp, hg, SV.rens, SV.ren, tupled]
  refine ⟨by rw [he, ho]; simp [SV.den], hfr.mono fun x _ hx => ?_⟩
  obtain ⟨i, q, _, hq, hm, _⟩ := hx
  rw [nomut i q hq] at hm
  cases hm
end Go.Proofs.Ytaohpdhhbnempaa
