/- SHA-256 by the symbolic machine: mixing a block into the words. -/
import Derived.Test.YtgekiddgdjeaiaaGreatHi1
namespace Go.Proofs.YtgekiddgdjeaiaaGreat
open Go.RowKit Go.Lib Sx
set_option linter.unusedVariables false
set_option linter.unusedSimpArgs false
set_option maxRecDepth 1000000
def bkq (O : OH) (k w a b c d e f g h : Int) (K : Int → Int → Int → Int → Int → Int → Int → Int → List Int) : List Int :=
 (fun t => K (aaj (aaj t (ach (ach (O.rot 2 a) (O.rot 13 a)) (O.rot 22 a))) (orI (afw a b) (afw c (orI a b)))) a b c (aaj d t) e f g)
  (aaj (aaj (aaj (aaj h (ach (ach (O.rot 6 e) (O.rot 11 e)) (O.rot 25 e))) (ach g (afw e (ach f g)))) k) w)
def ahw (O : OH) : List Int → List Int → (a b c d e f g h : Int) → (Int → Int → Int → Int → Int → Int → Int → Int → List Int) → List Int
 | k :: ks, w :: ws, a, b, c, d, e, f, g, h, K => bkq O k w a b c d e f g h fun a b c d e f g h => ahw O ks ws a b c d e f g h K
 | _, _, a, b, c, d, e, f, g, h, K => K a b c d e f g h
def bmu (O : OH) (l : List Int) (a b c d e f g h : Int) : List Int :=
 ahw O KI (jo (O.sched l) 64) a b c d e f g h fun a' b' c' d' e' f' g' h' => [aaj a' a, aaj b' b, aaj c' c, aaj d' d, aaj e' e, aaj f' f, aaj g' g, aaj h' h]
theorem asa (O : OH) : ∀ (ks ws : List Int) (a b c d e f g h : Int) (K : Int → Int → Int → Int → Int → Int → Int → Int → List Int), (∀ a b c d e f g h, (K a b c d e f g h).length = 8) → (ahw O ks ws a b c d e f g h K).length = 8
 | k :: ks, w :: ws, a, b, c, d, e, f, g, h, K, hK => by
  simp only [ahw, bkq]
  exact asa O ks ws _ _ _ _ _ _ _ _ K hK
 | [], _, a, b, c, d, e, f, g, h, K, hK => by simp only [ahw]; exact hK ..
 | k :: ks, [], a, b, c, d, e, f, g, h, K, hK => by simp only [ahw]; exact hK ..
theorem a8u (O : OH) (l : List Int) (a b c d e f g h : Int) : (bmu O l a b c d e f g h).length = 8 := asa O _ _ _ _ _ _ _ _ _ _ _ fun _ _ _ _ _ _ _ _ => rfl
structure OM where
 mix : List Int → List Int → Nat → Int
def a9w (l h : List Int) : List Int := bmu oh l (h.getD 0 0) (h.getD 1 0) (h.getD 2 0) (h.getD 3 0) (h.getD 4 0) (h.getD 5 0) (h.getD 6 0) (h.getD 7 0)
def om : OM := ⟨fun l h i => (a9w l h).getD i 0⟩
theorem a9u (l h : List Int) : (a9w l h).length = 8 := by unfold a9w; exact a8u _ _ _ _ _ _ _ _ _ _
theorem bop (l h : List Int) : om.mix l h = fun i => (a9w l h).getD i 0 := by kernel_rfl
theorem bjt (l h : List Int) : jo (om.mix l h) 8 = a9w l h := by rw [bop, agj (a9u l h)]
def bqy (O : OM) (xs : List Arg) : Option (Bool × List Ret) := match xs with
 | [.v (.agg ⟨[.int .u32 a, .int .u32 b, .int .u32 c, .int .u32 d, .int .u32 e, .int .u32 f, .int .u32 g, .int .u32 h]⟩), .ints l] => some (Nat.beq l.length 64, [.v (cellsOf .u32 (jo (O.mix l [a, b, c, d, e, f, g, h]) 8))])
 | _ => none