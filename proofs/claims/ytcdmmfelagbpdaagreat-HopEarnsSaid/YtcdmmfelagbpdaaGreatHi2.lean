/- SHA-256 by the symbolic machine: mixing a block into the words. -/
import Derived.Test.YtcdmmfelagbpdaaGreatHi1
namespace Go.Proofs.YtcdmmfelagbpdaaGreat
open Go.RowKit Go.Lib Sx
set_option linter.unusedVariables false
set_option linter.unusedSimpArgs false
set_option maxRecDepth 1000000
def rndI (O : OH) (k w a b c d e f g h : Int) (K : Int → Int → Int → Int → Int → Int → Int → Int → List Int) : List Int :=
 (fun t => K (addI (addI t (xorI (xorI (O.rot 2 a) (O.rot 13 a)) (O.rot 22 a))) (orI (andI a b) (andI c (orI a b)))) a b c (addI d t) e f g)
  (addI (addI (addI (addI h (xorI (xorI (O.rot 6 e) (O.rot 11 e)) (O.rot 25 e))) (xorI g (andI e (xorI f g)))) k) w)
def rndsI (O : OH) : List Int → List Int → (a b c d e f g h : Int) → (Int → Int → Int → Int → Int → Int → Int → Int → List Int) → List Int
 | k :: ks, w :: ws, a, b, c, d, e, f, g, h, K => rndI O k w a b c d e f g h fun a b c d e f g h => rndsI O ks ws a b c d e f g h K
 | _, _, a, b, c, d, e, f, g, h, K => K a b c d e f g h
def mixI (O : OH) (l : List Int) (a b c d e f g h : Int) : List Int :=
 rndsI O KI (tabI (O.sched l) 64) a b c d e f g h fun a' b' c' d' e' f' g' h' => [addI a' a, addI b' b, addI c' c, addI d' d, addI e' e, addI f' f, addI g' g, addI h' h]
theorem rndsI_len (O : OH) : ∀ (ks ws : List Int) (a b c d e f g h : Int) (K : Int → Int → Int → Int → Int → Int → Int → Int → List Int), (∀ a b c d e f g h, (K a b c d e f g h).length = 8) → (rndsI O ks ws a b c d e f g h K).length = 8
 | k :: ks, w :: ws, a, b, c, d, e, f, g, h, K, hK => by
  simp only [rndsI, rndI]
  exact rndsI_len O ks ws _ _ _ _ _ _ _ _ K hK
 | [], _, a, b, c, d, e, f, g, h, K, hK => by simp only [rndsI]; exact hK ..
 | k :: ks, [], a, b, c, d, e, f, g, h, K, hK => by simp only [rndsI]; exact hK ..
theorem mixI_len (O : OH) (l : List Int) (a b c d e f g h : Int) : (mixI O l a b c d e f g h).length = 8 := rndsI_len O _ _ _ _ _ _ _ _ _ _ _ fun _ _ _ _ _ _ _ _ => rfl
structure OM where
 mix : List Int → List Int → Nat → Int
def mixL (l h : List Int) : List Int := mixI oh l (h.getD 0 0) (h.getD 1 0) (h.getD 2 0) (h.getD 3 0) (h.getD 4 0) (h.getD 5 0) (h.getD 6 0) (h.getD 7 0)
def om : OM := ⟨fun l h i => (mixL l h).getD i 0⟩
theorem mixL_len (l h : List Int) : (mixL l h).length = 8 := by unfold mixL; exact mixI_len _ _ _ _ _ _ _ _ _ _
theorem om_mix (l h : List Int) : om.mix l h = fun i => (mixL l h).getD i 0 := by kernel_rfl
theorem mix_tab (l h : List Int) : tabI (om.mix l h) 8 = mixL l h := by rw [om_mix, tab_self (mixL_len l h)]
def g_mix (O : OM) (xs : List Arg) : Option (Bool × List Ret) := match xs with
 | [.v (.agg ⟨[.int .u32 a, .int .u32 b, .int .u32 c, .int .u32 d, .int .u32 e, .int .u32 f, .int .u32 g, .int .u32 h]⟩), .ints l] => some (Nat.beq l.length 64, [.v (cellsOf .u32 (tabI (O.mix l [a, b, c, d, e, f, g, h]) 8))])
 | _ => none