/- SHA-256 by the symbolic machine: the document's answer, a block. -/
import Derived.Test.YtaohpdhhbnempaaDoorHi2
import Derived.IntWalk
namespace Go.Proofs.YtaohpdhhbnempaaDoor
open Go.RowKit Go.Lib Sx
set_option linter.unusedVariables false
set_option linter.unusedSimpArgs false
set_option maxRecDepth 1000000
theorem bv_wrap (z : BitVec 32) : BitVec.ofInt 32 (IntKind.u32.wrap ↑z.toNat) = z := by
 have h := z.isLt
 have : IntKind.u32.wrap ↑z.toNat = (z.toNat : Int) := IntWalk.u32_in _ (by omega)
 rw [this, BitVec.ofInt_natCast, BitVec.ofNat_toNat, BitVec.setWidth_eq]
theorem ch_same (e f g : Int) : xorI (andI e f) (andI (notI e) g) = xorI g (andI e (xorI f g)) := by
 have h1 : BitVec.ofInt 32 4294967295 = BitVec.allOnes 32 := by decide
 unfold notI xorI andI
 simp only [bv_wrap, h1]
 congr 3
 apply BitVec.eq_of_getLsbD_eq
 intro i hi
 simp only [BitVec.getLsbD_xor, BitVec.getLsbD_and, BitVec.getLsbD_allOnes, hi, decide_true]
 cases (BitVec.ofInt 32 e).getLsbD i <;> cases (BitVec.ofInt 32 f).getLsbD i <;> cases (BitVec.ofInt 32 g).getLsbD i <;> rfl
theorem maj_same (a b c : Int) : xorI (xorI (andI a b) (andI a c)) (andI b c) = orI (andI a b) (andI c (orI a b)) := by
 unfold xorI andI orI
 simp only [bv_wrap]
 congr 3
 apply BitVec.eq_of_getLsbD_eq
 intro i hi
 simp only [BitVec.getLsbD_xor, BitVec.getLsbD_and, BitVec.getLsbD_or]
 cases (BitVec.ofInt 32 a).getLsbD i <;> cases (BitVec.ofInt 32 b).getLsbD i <;> cases (BitVec.ofInt 32 c).getLsbD i <;> rfl
def rndR (O : OH) (k w a b c d e f g h : Int) (K : Int → Int → Int → Int → Int → Int → Int → Int → List Int) : List Int :=
 (fun t => K (addI (addI t (xorI (xorI (O.rot 2 a) (O.rot 13 a)) (O.rot 22 a))) (xorI (xorI (andI a b) (andI a c)) (andI b c))) a b c (addI d t) e f g)
  (addI (addI (addI (addI h (xorI (xorI (O.rot 6 e) (O.rot 11 e)) (O.rot 25 e))) (xorI (andI e f) (andI (notI e) g))) k) w)
def rndsR (O : OH) : List Int → List Int → (a b c d e f g h : Int) → (Int → Int → Int → Int → Int → Int → Int → Int → List Int) → List Int
 | k :: ks, w :: ws, a, b, c, d, e, f, g, h, K => rndR O k w a b c d e f g h fun a b c d e f g h => rndsR O ks ws a b c d e f g h K
 | _, _, a, b, c, d, e, f, g, h, K => K a b c d e f g h
def mixR (O : OH) (l : List Int) (a b c d e f g h : Int) : List Int :=
 rndsR O KI (tabI (O.sched l) 64) a b c d e f g h fun a' b' c' d' e' f' g' h' => [addI a' a, addI b' b, addI c' c, addI d' d, addI e' e, addI f' f, addI g' g, addI h' h]
theorem rndsR_eq (O : OH) : ∀ (ks ws : List Int) (a b c d e f g h : Int) (K : Int → Int → Int → Int → Int → Int → Int → Int → List Int), rndsR O ks ws a b c d e f g h K = rndsI O ks ws a b c d e f g h K
 | k :: ks, w :: ws, a, b, c, d, e, f, g, h, K => by
  simp only [rndsR, rndsI, rndR, rndI, ch_same, maj_same]
  exact rndsR_eq O ks ws _ _ _ _ _ _ _ _ K
 | [], _, a, b, c, d, e, f, g, h, K => by simp only [rndsR, rndsI]
 | k :: ks, [], a, b, c, d, e, f, g, h, K => by simp only [rndsR, rndsI]
theorem mixR_eq (O : OH) (l : List Int) (a b c d e f g h : Int) : mixR O l a b c d e f g h = mixI O l a b c d e f g h := rndsR_eq O _ _ _ _ _ _ _ _ _ _ _
def OH.raw (O : OH) : OH := ⟨O.sched, O.rot, binI⟩
def g_block (O : OM) (xs : List Arg) : Option (Bool × List Ret) := match xs with
 | [.ints [a, b, c, d, e, f, g, h], .ints l] => some (Nat.beq l.length 64, [.ints 74 .u32 (tabI (O.mix l [a, b, c, d, e, f, g, h]) 8)])
 | _ => none