/- SHA-256 by the symbolic machine: the document's answer, a block. -/
import Derived.Test.YtaohpdhhbnempaaHi2
import Derived.IntWalk
namespace Go.Proofs.Ytaohpdhhbnempaa
open Go.RowKit Go.Lib Sx
set_option linter.unusedVariables false
set_option linter.unusedSimpArgs false
set_option maxRecDepth 1000000
def rndR (O : OH) (k w a b c d e f g h : Int) (K : Int → Int → Int → Int → Int → Int → Int → Int → List Int) : List Int :=
 (fun t => K (addI (addI t (xorI (xorI (O.rot 2 a) (O.rot 13 a)) (O.rot 22 a))) (xorI (xorI (andI a b) (andI a c)) (andI b c))) a b c (addI d t) e f g)
  (addI (addI (addI (addI h (xorI (xorI (O.rot 6 e) (O.rot 11 e)) (O.rot 25 e))) (xorI (andI e f) (andI (notI e) g))) k) w)
def rndsR (O : OH) : List Int → List Int → (a b c d e f g h : Int) → (Int → Int → Int → Int → Int → Int → Int → Int → List Int) → List Int
 | k :: ks, w :: ws, a, b, c, d, e, f, g, h, K => rndR O k w a b c d e f g h fun a b c d e f g h => rndsR O ks ws a b c d e f g h K
 | _, _, a, b, c, d, e, f, g, h, K => K a b c d e f g h
def mixR (O : OH) (l : List Int) (a b c d e f g h : Int) : List Int :=
 rndsR O KI (tabI (O.sched l) 64) a b c d e f g h fun a' b' c' d' e' f' g' h' => [addI a' a, addI b' b, addI c' c, addI d' d, addI e' e, addI f' f, addI g' g, addI h' h]
def OH.raw (O : OH) : OH := ⟨O.sched, O.rot, binI⟩
def g_block (O : OM) (xs : List Arg) : Option (Bool × List Ret) := match xs with
 | [.ints [a, b, c, d, e, f, g, h], .ints l] => some (Nat.beq l.length 64, [.ints 130 .u32 (tabI (O.mix l [a, b, c, d, e, f, g, h]) 8)])
 | _ => none