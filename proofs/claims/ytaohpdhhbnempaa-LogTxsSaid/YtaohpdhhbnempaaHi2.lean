/- SHA-256 by the symbolic machine: mixing a block into the words. -/
import Derived.Test.YtaohpdhhbnempaaHi1
namespace Go.Proofs.Ytaohpdhhbnempaa
open Go.RowKit Go.Lib Sx
set_option linter.unusedVariables false
set_option linter.unusedSimpArgs false
set_option maxRecDepth 1000000
def rndI (O : OH) (k w a b c d e f g h : Int) (K : Int → Int → Int → Int → Int → Int → Int → Int → List Int) : List Int :=
 (fun t => K (addI (addI t (xorI (xorI (O.rot 2 a) (O.rot 13 a)) (O.rot 22 a))) (orI (andI a b) (andI c (orI a b)))) a b c (addI d t) e f g)
  (addI (addI (addI (addI h (xorI (xorI (O.rot 6 e) (O.rot 11 e)) (O.rot 25 e))) (xorI g (andI e (xorI f g)))) k) w)
def rndsI (O : OH) : List Int → List Int → (a b c d e f g h : Int) → (Int → Int → Int → Int → Int → Int → Int → Int → List Int) → List Int
 | k :: ks, w :: ws, a, b, c, d, e, f, g, h, K => rndI O k w a b c d e f g h fun a b c d e f g h => rndsI O ks ws a b c d e f g h K
 | _, _, a, b, c, d, e, f, g, h, K => K a b c d e f g h
def mixI (O : OH) (l : List Int) (a b c d e f g h : Int) : List Int :=
 rndsI O KI (tabI (O.sched l) 64) a b c d e f g h fun a' b' c' d' e' f' g' h' => [addI a' a, addI b' b, addI c' c, addI d' d, addI e' e, addI f' f, addI g' g, addI h' h]
theorem rndsI_len (O : OH) : ∀ (ks ws : List Int) (a b c d e f g h : Int) (K : Int → Int → Int → Int → Int → Int → Int → Int → List Int), (∀ a b c d e f g h, (K a b c d e f g h).length = 8) → (rndsI O ks ws a b c d e f g h K).length = 8
 | k :: ks, w :: ws, a, b, c, d, e, f, g, h, K, hK => by
  simp only [rndsI, rndI]
  exact rndsI_len O ks ws _ _ _ _ _ _ _ _ K hK
 | [], _, a, b, c, d, e, f, g, h, K, hK => by simp only [rndsI]; exact hK ..
 | k :: ks, [], a, b, c, d, e, f, g, h, K, hK => by simp only [rndsI]; exact hK ..
theorem mixI_len (O : OH) (l : List Int) (a b c d e f g h : Int) : (mixI O l a b c d e f g h).length = 8 := rndsI_len O _ _ _ _ _ _ _ _ _ _ _ fun _ _ _ _ _ _ _ _ => rfl
structure OM where
 mix : List Int → List Int → Nat → Int
def mixL (l h : List Int) : List Int := mixI oh l (h.getD 0 0) (h.getD 1 0) (h.getD 2 0) (h.getD 3 0) (h.getD 4 0) (h.getD 5 0) (h.getD 6 0) (h.getD 7 0)
def om : OM := ⟨fun l h i => (mixL l h).getD i 0⟩
theorem mixL_len (l h : List Int) : (mixL l h).length = 8 := by unfold mixL; exact mixI_len _ _ _ _ _ _ _ _ _ _
theorem om_mix (l h : List Int) : om.mix l h = fun i => (mixL l h).getD i 0 := by kernel_rfl
theorem mix_tab (l h : List Int) : tabI (om.mix l h) 8 = mixL l h := by rw [om_mix, tab_self (mixL_len l h)]
def g_mix (O : OM) (xs : List Arg) : Option (Bool × List Ret) := match xs with
 | [.v (.agg ⟨[.int .u32 a, .int .u32 b, .int .u32 c, .int .u32 d, .int .u32 e, .int .u32 f, .int .u32 g, .int .u32 h]⟩), .ints l] => some (Nat.beq l.length 64, [.v (cellsOf .u32 (tabI (O.mix l [a, b, c, d, e, f, g, h]) 8))])
 | _ => none
def spB (O : OH) (f : FuncId) : Option Sx.Spec := match f with
 | 96 => some (gspec [.v, .v] (g_rot O))
 | 94 => some (gspec [.ro .u8] (g_sched O))
 | 95 => some (gspec [] (g_val (cellsOf .u32 KI)))
 | _ => none
theorem spB_ok (I : Sx.Interp) (O : OH) (hO : O = oh) : ∀ f s, spB O f = some s → Sx.SpecOK I Try.prog f s := by
 intro f s h
 unfold spB at h
 split at h
 ·cases h; exact ok_rot I O hO
 ·cases h; exact ok_sched I O hO
 ·cases h; exact ok_table I O hO
 ·cases h
theorem wpc_mix (O : OH) (h0 h1 h2 h3 h4 h5 h6 h7 b0 b1 b2 b3 b4 b5 b6 b7 b8 b9 b10 b11 b12 b13 b14 b15 b16 b17 b18 b19 b20 b21 b22 b23 b24 b25 b26 b27 b28 b29 b30 b31 b32 b33 b34 b35 b36 b37 b38 b39 b40 b41 b42 b43 b44 b45 b46 b47 b48 b49 b50 b51 b52 b53 b54 b55 b56 b57 b58 b59 b60 b61 b62 b63 : Int) : wpc Try.prog (spB O) Try.f75.ntmps [Ann.walk 65, Ann.walk 9] (bodyOf Try.f75) 0 64 (envA [.v, .ro .u8] [.v (cellsOf .u32 [h0, h1, h2, h3, h4, h5, h6, h7]), .ints [b0, b1, b2, b3, b4, b5, b6, b7, b8, b9, b10, b11, b12, b13, b14, b15, b16, b17, b18, b19, b20, b21, b22, b23, b24, b25, b26, b27, b28, b29, b30, b31, b32, b33, b34, b35, b36, b37, b38, b39, b40, b41, b42, b43, b44, b45, b46, b47, b48, b49, b50, b51, b52, b53, b54, b55, b56, b57, b58, b59, b60, b61, b62, b63]] 0) (memA [.v, .ro .u8] [.v (cellsOf .u32 [h0, h1, h2, h3, h4, h5, h6, h7]), .ints [b0, b1, b2, b3, b4, b5, b6, b7, b8, b9, b10, b11, b12, b13, b14, b15, b16, b17, b18, b19, b20, b21, b22, b23, b24, b25, b26, b27, b28, b29, b30, b31, b32, b33, b34, b35, b36, b37, b38, b39, b40, b41, b42, b43, b44, b45, b46, b47, b48, b49, b50, b51, b52, b53, b54, b55, b56, b57, b58, b59, b60, b61, b62, b63]] 0) (retG Try.prog Try.f75.results.toList [.v (cellsOf .u32 (mixI O [b0, b1, b2, b3, b4, b5, b6, b7, b8, b9, b10, b11, b12, b13, b14, b15, b16, b17, b18, b19, b20, b21, b22, b23, b24, b25, b26, b27, b28, b29, b30, b31, b32, b33, b34, b35, b36, b37, b38, b39, b40, b41, b42, b43, b44, b45, b46, b47, b48, b49, b50, b51, b52, b53, b54, b55, b56, b57, b58, b59, b60, b61, b62, b63] h0 h1 h2 h3 h4 h5 h6 h7))]) :=
 Eq.mpr (by kernel_rfl : _ = ((cellsOf .u32 (mixI O [b0, b1, b2, b3, b4, b5, b6, b7, b8, b9, b10, b11, b12, b13, b14, b15, b16, b17, b18, b19, b20, b21, b22, b23, b24, b25, b26, b27, b28, b29, b30, b31, b32, b33, b34, b35, b36, b37, b38, b39, b40, b41, b42, b43, b44, b45, b46, b47, b48, b49, b50, b51, b52, b53, b54, b55, b56, b57, b58, b59, b60, b61, b62, b63] h0 h1 h2 h3 h4 h5 h6 h7) = cellsOf .u32 (mixI O [b0, b1, b2, b3, b4, b5, b6, b7, b8, b9, b10, b11, b12, b13, b14, b15, b16, b17, b18, b19, b20, b21, b22, b23, b24, b25, b26, b27, b28, b29, b30, b31, b32, b33, b34, b35, b36, b37, b38, b39, b40, b41, b42, b43, b44, b45, b46, b47, b48, b49, b50, b51, b52, b53, b54, b55, b56, b57, b58, b59, b60, b61, b62, b63] h0 h1 h2 h3 h4 h5 h6 h7)) ∧ True)) ⟨rfl, trivial⟩
theorem ok_mix (I : Sx.Interp) (O : OH) (hO : O = oh) : Sx.SpecOK I Try.prog 75 (gspec [.v, .ro .u8] (g_mix om)) := by
 refine spec_gen (spB_ok I O hO) (by kernel_rfl) [Ann.walk 65, Ann.walk 9] Try.func75 (by kernel_rfl) (by kernel_rfl) rfl Try.ntmps75 (by decide) ?_ ?_
 ·intro xs p rs h; unfold g_mix at h; split at h <;> first | (simp only [zsI, zpI] at h; rw [← h.2]; simp) | cases h
 ·intro xs rs hl h
  unfold g_mix at h
  split at h
  ·simp only [zsI, zpI] at h
   obtain ⟨hc, rfl⟩ := h
   rename_i a b c d e' f g h' l
   have e := list64 hc
   have := wpc_mix O a b c d e' f g h' (l.getD 0 0) (l.getD 1 0) (l.getD 2 0) (l.getD 3 0) (l.getD 4 0) (l.getD 5 0) (l.getD 6 0) (l.getD 7 0) (l.getD 8 0) (l.getD 9 0) (l.getD 10 0) (l.getD 11 0) (l.getD 12 0) (l.getD 13 0) (l.getD 14 0) (l.getD 15 0) (l.getD 16 0) (l.getD 17 0) (l.getD 18 0) (l.getD 19 0) (l.getD 20 0) (l.getD 21 0) (l.getD 22 0) (l.getD 23 0) (l.getD 24 0) (l.getD 25 0) (l.getD 26 0) (l.getD 27 0) (l.getD 28 0) (l.getD 29 0) (l.getD 30 0) (l.getD 31 0) (l.getD 32 0) (l.getD 33 0) (l.getD 34 0) (l.getD 35 0) (l.getD 36 0) (l.getD 37 0) (l.getD 38 0) (l.getD 39 0) (l.getD 40 0) (l.getD 41 0) (l.getD 42 0) (l.getD 43 0) (l.getD 44 0) (l.getD 45 0) (l.getD 46 0) (l.getD 47 0) (l.getD 48 0) (l.getD 49 0) (l.getD 50 0) (l.getD 51 0) (l.getD 52 0) (l.getD 53 0) (l.getD 54 0) (l.getD 55 0) (l.getD 56 0) (l.getD 57 0) (l.getD 58 0) (l.getD 59 0) (l.getD 60 0) (l.getD 61 0) (l.getD 62 0) (l.getD 63 0)
   rw [← e] at this
   subst hO
   rw [mix_tab]
   exact this
  ·cases h
end Go.Proofs.Ytaohpdhhbnempaa