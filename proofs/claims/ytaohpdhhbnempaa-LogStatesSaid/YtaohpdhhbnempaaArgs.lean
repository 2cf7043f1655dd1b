/- How arguments are opened: integers as naturals, sums as lists of bytes, slices of integers. -/
import Derived.Test.YtaohpdhhbnempaaFrom
import Derived.WalkKit
import Derived.ProofKit
import Derived.OpenShut
import Derived.ShutString
import Derived.ChangeOld
import Derived.Below
namespace Go.Proofs.Ytaohpdhhbnempaa
open Go.ChangeShapes Go.WideShapes Go.ChangeAt Go.RowKit Ckp
set_option linter.unusedVariables false
set_option maxRecDepth 8192

theorem nat_u64 {a : Int} (h : (Lit.int .u64 a).wf = true) : ∃ n : Nat, n < 18446744073709551616 ∧ a = (n : Int) := by
 have hb := bounds_u64 h
 exact ⟨a.toNat, by omega, by omega⟩
theorem nat_u32 {a : Int} (h : (Lit.int .u32 a).wf = true) : ∃ n : Nat, n < 4294967296 ∧ a = (n : Int) := by
 have hb := bounds_u32 h
 exact ⟨a.toNat, by omega, by omega⟩
theorem nat_u8 {a : Int} (h : (Lit.int .u8 a).wf = true) : ∃ n : Nat, n < 256 ∧ a = (n : Int) := by
 have hb := bounds_u8 h
 exact ⟨a.toNat, by omega, by omega⟩
/-! A sum: 32 bytes by value. -/
def byteOf : Value → Nat | .int _ n => n.toNat | _ => 0
theorem hash_cells {H : Type} {enc : TypeId × Value → H} {w : World} {base : Nat} {spare : Nat → Bool} {held : Bool} {fuel : Nat} {cs : List Value} {x : DataW H × List MemPlace}
  (h : DataW.trod enc Try.prog w base spare held fuel 70 cs = some x) : ∃ l : List Nat, l.length = 32 ∧ (∀ i, l.getD i 0 < 256) ∧ cs.toArray = bcs l := by
 obtain ⟨xs, m, _, _, hlen, hxs, hel⟩ := DataW.trod_array Try.underlying70 h
 have h32 : cs.length = 32 := hlen.trans (by kernel_rfl)
 have hc1 : Try.prog.cellsOf 5 = 1 := by kernel_rfl
 rw [hc1] at hel
 have hat : ∀ i (hi : i < 32), ∃ n : Int, cs[i]'(by omega) = .int .u8 n ∧ (Lit.int .u8 n).wf = true := by
  intro i hi
  have h1 := hel i hi
  rw [List.getElem?_eq_getElem (by omega), Nat.mul_one, List.drop_eq_getElem_cons (by omega), List.take_succ_cons, List.take_zero] at h1
  obtain ⟨n, e, _, hw⟩ := DataW.trod_int Try.underlying5 h1
  injection e with e1 _
  exact ⟨n, e1, hw⟩
 refine ⟨cs.map byteOf, by simp [h32], ?_, ?_⟩
 ·intro i
  by_cases hi : i < 32
  ·obtain ⟨n, e, hw⟩ := hat i hi
   have hb := bounds_u8 hw
   rw [List.getD_eq_getElem?_getD, List.getElem?_eq_getElem (by simp; omega)]
   simp only [List.getElem_map, e, byteOf, Option.getD_some]
   omega
  ·rw [List.getD_eq_getElem?_getD, List.getElem?_eq_none (by simp; omega)]
   decide
 ·unfold bcs
  congr 1
  rw [List.map_map]
  apply List.ext_getElem
  ·simp
  ·intro i h1 h2
   obtain ⟨n, e, hw⟩ := hat i (by omega)
   have hb := bounds_u8 hw
   simp only [List.getElem_map, Function.comp, e, byteOf]
   congr 1
   omega
theorem okWide_arr {P : Program} {w : World} {r : Reach} {base : Nat} {t e : TypeId} {n : Nat} {v : Value} (ht : P.underlying t = some (.array n e)) (h : Value.okWide P w r base t v) : ∃ cs, v = .agg cs ∧ cs.size = P.cellsOf t := by
 simp only [Value.okWide, ht] at h
 obtain ⟨cs, h1, h2, _⟩ := h
 exact ⟨cs, h1, h2⟩
theorem open_hash {H : Type} {enc : TypeId × Value → H} {w : World} {base b0 : Nat} {spare : Nat → Bool} {held : Bool} {r : Reach} {v : Value} {d : DataW H} {p : List MemPlace}
  (hv : Value.okWide Try.prog w r b0 70 v) (h : DataW.Trod enc Try.prog w base spare held 70 v d p) :
  ∃ l : List Nat, l.length = 32 ∧ (∀ i, l.getD i 0 < 256) ∧ v = B8 l := by
 obtain ⟨cs, rfl, _⟩ := okWide_arr Try.underlying70 hv
 obtain ⟨fuel, hf⟩ := h
 obtain ⟨l, h1, h2, h3⟩ := hash_cells hf
 refine ⟨l, h1, h2, ?_⟩
 show Value.agg cs = .agg (bcs l)
 rw [← h3]
 simp [Value.cells]

/-- What a walk is told of a slice of integers that came in. -/
def IsRow (k : IntKind) (w : World) (a : Option Addr) (len cap : Nat) (zs : List Int) : Prop :=
 (a = none ∧ len = 0 ∧ cap = 0 ∧ zs = []) ∨
 ∃ x, a = some x ∧ len ≤ cap ∧ cap ≤ maxLen ∧ zs.length = cap ∧ (∀ i, i < zs.length → w.cell? (x.add i) = some (.int k (zs.getD i 0))) ∧ ∀ n ∈ zs, (Lit.int k n).wf = true
theorem open_row {H : Type} {enc : TypeId × Value → H} {P : Program} {w : World} {base : Nat} {t e : TypeId} {k : IntKind} {a : Option Addr} {len cap : Nat} {d : DataW H} {p : List MemPlace}
  (ht : P.underlying t = some (.slice e)) (he : P.underlying e = some (.int k)) (hc : P.cellsOf e = 1) (h : DataW.Trod enc P w base (fun _ => true) true t (.slice a len cap) d p) : ∃ zs, IsRow k w a len cap zs := by
 obtain ⟨fuel, hf⟩ := h
 rcases open_ints ht he hc hf with ⟨hcs, _⟩ | ⟨x, l, c, zs, hcs, _, hl, hm, hz, _, hcell, hwz⟩
 ·simp [Value.cells] at hcs
  obtain ⟨rfl, rfl, rfl⟩ := hcs
  exact ⟨[], .inl ⟨rfl, rfl, rfl, rfl⟩⟩
 ·simp [Value.cells] at hcs
  obtain ⟨rfl, rfl, rfl⟩ := hcs
  exact ⟨zs, .inr ⟨_, rfl, hl, hm, by simpa using hz, hcell, hwz⟩⟩
/-- The points of a row, as naturals. -/
def natsOf (zs : List Int) (len : Nat) : List Nat := (zs.take len).map Int.toNat
end Go.Proofs.Ytaohpdhhbnempaa
