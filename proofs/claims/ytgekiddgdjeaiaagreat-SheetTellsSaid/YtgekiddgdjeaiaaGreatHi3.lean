/- SHA-256 by the symbolic machine: the document's answer, a block. -/
import Derived.Test.YtgekiddgdjeaiaaGreatHi2
import Derived.IntWalk
namespace Go.Proofs.YtgekiddgdjeaiaaGreat
open Go.RowKit Go.Lib Sx
set_option linter.unusedVariables false
set_option linter.unusedSimpArgs false
set_option maxRecDepth 1000000
theorem a2p (z : BitVec 32) : BitVec.ofInt 32 (IntKind.u32.wrap ↑z.toNat) = z := by
 have h := z.isLt
 have : IntKind.u32.wrap ↑z.toNat = (z.toNat : Int) := IntWalk.u32_in _ (by omega)
 rw [this, BitVec.ofInt_natCast, BitVec.ofNat_toNat, BitVec.setWidth_eq]
theorem bg4 (e f g : Int) : ach (afw e f) (afw (bnk e) g) = ach g (afw e (ach f g)) := by
 have h1 : BitVec.ofInt 32 4294967295 = BitVec.allOnes 32 := by decide
 unfold bnk ach afw
 simp only [a2p, h1]
 congr 3
 apply BitVec.eq_of_getLsbD_eq
 intro i hi
 simp only [BitVec.getLsbD_xor, BitVec.getLsbD_and, BitVec.getLsbD_allOnes, hi, decide_true]
 cases (BitVec.ofInt 32 e).getLsbD i <;> cases (BitVec.ofInt 32 f).getLsbD i <;> cases (BitVec.ofInt 32 g).getLsbD i <;> rfl
theorem bee (a b c : Int) : ach (ach (afw a b) (afw a c)) (afw b c) = orI (afw a b) (afw c (orI a b)) := by
 unfold ach afw orI
 simp only [a2p]
 congr 3
 apply BitVec.eq_of_getLsbD_eq
 intro i hi
 simp only [BitVec.getLsbD_xor, BitVec.getLsbD_and, BitVec.getLsbD_or]
 cases (BitVec.ofInt 32 a).getLsbD i <;> cases (BitVec.ofInt 32 b).getLsbD i <;> cases (BitVec.ofInt 32 c).getLsbD i <;> rfl
def bo7 (O : OH) (k w a b c d e f g h : Int) (K : Int → Int → Int → Int → Int → Int → Int → Int → List Int) : List Int :=
 (fun t => K (aaj (aaj t (ach (ach (O.rot 2 a) (O.rot 13 a)) (O.rot 22 a))) (ach (ach (afw a b) (afw a c)) (afw b c))) a b c (aaj d t) e f g)
  (aaj (aaj (aaj (aaj h (ach (ach (O.rot 6 e) (O.rot 11 e)) (O.rot 25 e))) (ach (afw e f) (afw (bnk e) g))) k) w)
def arf (O : OH) : List Int → List Int → (a b c d e f g h : Int) → (Int → Int → Int → Int → Int → Int → Int → Int → List Int) → List Int
 | k :: ks, w :: ws, a, b, c, d, e, f, g, h, K => bo7 O k w a b c d e f g h fun a b c d e f g h => arf O ks ws a b c d e f g h K
 | _, _, a, b, c, d, e, f, g, h, K => K a b c d e f g h
def biv (O : OH) (l : List Int) (a b c d e f g h : Int) : List Int :=
 arf O KI (jo (O.sched l) 64) a b c d e f g h fun a' b' c' d' e' f' g' h' => [aaj a' a, aaj b' b, aaj c' c, aaj d' d, aaj e' e, aaj f' f, aaj g' g, aaj h' h]
theorem aym (O : OH) : ∀ (ks ws : List Int) (a b c d e f g h : Int) (K : Int → Int → Int → Int → Int → Int → Int → Int → List Int), arf O ks ws a b c d e f g h K = ahw O ks ws a b c d e f g h K
 | k :: ks, w :: ws, a, b, c, d, e, f, g, h, K => by
  simp only [arf, ahw, bo7, bkq, bg4, bee]
  exact aym O ks ws _ _ _ _ _ _ _ _ K
 | [], _, a, b, c, d, e, f, g, h, K => by simp only [arf, ahw]
 | k :: ks, [], a, b, c, d, e, f, g, h, K => by simp only [arf, ahw]
theorem bg7 (O : OH) (l : List Int) (a b c d e f g h : Int) : biv O l a b c d e f g h = bmu O l a b c d e f g h := aym O _ _ _ _ _ _ _ _ _ _ _
def OH.raw (O : OH) : OH := ⟨O.sched, O.rot, bl5⟩
def spT (O : OH) (f : FuncId) : Option Sx.Spec := match f with
 | 131 => some (l7 [.v, .v] (ap4 O))
 | _ => none
theorem a2m (I : Sx.Interp) (O : OH) (hO : O = oh) : ag I Tryz.prog 131 (l7 [.v, .v] (ap4 O)) := by
 refine aan (ahn I) (by kernel_rfl) [] Tryz.func131 (by kernel_rfl) (by kernel_rfl) rfl Tryz.ntmps131 (by decide) ?_ ?_
 ·intro xs p rs h; unfold ap4 at h; split at h <;> first | (simp only [zsI, zpI] at h; rw [← h.2]; simp) | cases h
 ·intro xs rs hl h
  unfold ap4 at h
  split at h
  ·simp only [zsI, zpI] at h
   obtain ⟨hc, rfl⟩ := h
   subst hO
   rename_i x n
   unfold bbw a98 at hc
   split at hc
   ·cases hc
   ·split at hc
    ·refine Eq.mpr (by kernel_rfl : _ = ((Value.int .u32 (orI (akv 2 x) (ajm 30 x)) = Value.int .u32 (rI 2 x)) ∧ True)) ⟨?_, trivial⟩
     rw [aar]; rfl
    ·refine Eq.mpr (by kernel_rfl : _ = ((Value.int .u32 (orI (akv 6 x) (ajm 26 x)) = Value.int .u32 (rI 6 x)) ∧ True)) ⟨?_, trivial⟩
     rw [aar]; rfl
    ·refine Eq.mpr (by kernel_rfl : _ = ((Value.int .u32 (orI (akv 7 x) (ajm 25 x)) = Value.int .u32 (rI 7 x)) ∧ True)) ⟨?_, trivial⟩
     rw [aar]; rfl
    ·refine Eq.mpr (by kernel_rfl : _ = ((Value.int .u32 (orI (akv 11 x) (ajm 21 x)) = Value.int .u32 (rI 11 x)) ∧ True)) ⟨?_, trivial⟩
     rw [aar]; rfl
    ·refine Eq.mpr (by kernel_rfl : _ = ((Value.int .u32 (orI (akv 13 x) (ajm 19 x)) = Value.int .u32 (rI 13 x)) ∧ True)) ⟨?_, trivial⟩
     rw [aar]; rfl
    ·refine Eq.mpr (by kernel_rfl : _ = ((Value.int .u32 (orI (akv 17 x) (ajm 15 x)) = Value.int .u32 (rI 17 x)) ∧ True)) ⟨?_, trivial⟩
     rw [aar]; rfl
    ·refine Eq.mpr (by kernel_rfl : _ = ((Value.int .u32 (orI (akv 18 x) (ajm 14 x)) = Value.int .u32 (rI 18 x)) ∧ True)) ⟨?_, trivial⟩
     rw [aar]; rfl
    ·refine Eq.mpr (by kernel_rfl : _ = ((Value.int .u32 (orI (akv 19 x) (ajm 13 x)) = Value.int .u32 (rI 19 x)) ∧ True)) ⟨?_, trivial⟩
     rw [aar]; rfl
    ·refine Eq.mpr (by kernel_rfl : _ = ((Value.int .u32 (orI (akv 22 x) (ajm 10 x)) = Value.int .u32 (rI 22 x)) ∧ True)) ⟨?_, trivial⟩
     rw [aar]; rfl
    ·refine Eq.mpr (by kernel_rfl : _ = ((Value.int .u32 (orI (akv 25 x) (ajm 7 x)) = Value.int .u32 (rI 25 x)) ∧ True)) ⟨?_, trivial⟩
     rw [aar]; rfl
    ·cases hc
  ·cases h
theorem bm6 (I : Sx.Interp) (O : OH) (hO : O = oh) : ∀ f s, spT O f = some s → ag I Tryz.prog f s := by
 intro f s h
 unfold spT at h
 split at h
 ·cases h; exact a2m I O hO
 ·cases h
theorem a3z (O : OH) (b0 b1 b2 b3 b4 b5 b6 b7 b8 b9 b10 b11 b12 b13 b14 b15 b16 b17 b18 b19 b20 b21 b22 b23 b24 b25 b26 b27 b28 b29 b30 b31 b32 b33 b34 b35 b36 b37 b38 b39 b40 b41 b42 b43 b44 b45 b46 b47 b48 b49 b50 b51 b52 b53 b54 b55 b56 b57 b58 b59 b60 b61 b62 b63 : Int) : wpc Tryz.prog (spT O) Tryz.f129.ntmps [Ann.walk 17, Ann.walk 49] (wu Tryz.f129) 0 64 (ae5 [.ro .u8] [.ints [b0, b1, b2, b3, b4, b5, b6, b7, b8, b9, b10, b11, b12, b13, b14, b15, b16, b17, b18, b19, b20, b21, b22, b23, b24, b25, b26, b27, b28, b29, b30, b31, b32, b33, b34, b35, b36, b37, b38, b39, b40, b41, b42, b43, b44, b45, b46, b47, b48, b49, b50, b51, b52, b53, b54, b55, b56, b57, b58, b59, b60, b61, b62, b63]] 0) (afm [.ro .u8] [.ints [b0, b1, b2, b3, b4, b5, b6, b7, b8, b9, b10, b11, b12, b13, b14, b15, b16, b17, b18, b19, b20, b21, b22, b23, b24, b25, b26, b27, b28, b29, b30, b31, b32, b33, b34, b35, b36, b37, b38, b39, b40, b41, b42, b43, b44, b45, b46, b47, b48, b49, b50, b51, b52, b53, b54, b55, b56, b57, b58, b59, b60, b61, b62, b63]] 0) (aph Tryz.prog Tryz.f129.results.toList [.ints 141 .u32 (acd O.raw [b0, b1, b2, b3, b4, b5, b6, b7, b8, b9, b10, b11, b12, b13, b14, b15, b16, b17, b18, b19, b20, b21, b22, b23, b24, b25, b26, b27, b28, b29, b30, b31, b32, b33, b34, b35, b36, b37, b38, b39, b40, b41, b42, b43, b44, b45, b46, b47, b48, b49, b50, b51, b52, b53, b54, b55, b56, b57, b58, b59, b60, b61, b62, b63])]) :=
 Eq.mpr (by kernel_rfl : _ = ((acd O.raw [b0, b1, b2, b3, b4, b5, b6, b7, b8, b9, b10, b11, b12, b13, b14, b15, b16, b17, b18, b19, b20, b21, b22, b23, b24, b25, b26, b27, b28, b29, b30, b31, b32, b33, b34, b35, b36, b37, b38, b39, b40, b41, b42, b43, b44, b45, b46, b47, b48, b49, b50, b51, b52, b53, b54, b55, b56, b57, b58, b59, b60, b61, b62, b63] = acd O.raw [b0, b1, b2, b3, b4, b5, b6, b7, b8, b9, b10, b11, b12, b13, b14, b15, b16, b17, b18, b19, b20, b21, b22, b23, b24, b25, b26, b27, b28, b29, b30, b31, b32, b33, b34, b35, b36, b37, b38, b39, b40, b41, b42, b43, b44, b45, b46, b47, b48, b49, b50, b51, b52, b53, b54, b55, b56, b57, b58, b59, b60, b61, b62, b63]) ∧ True)) ⟨rfl, trivial⟩
theorem bds (I : Sx.Interp) (O : OH) (hO : O = oh) : ag I Tryz.prog 129 (l7 [.ro .u8] (al2 O)) := by
 refine aan (bm6 I O hO) (by kernel_rfl) [Ann.walk 17, Ann.walk 49] Tryz.func129 (by kernel_rfl) (by kernel_rfl) rfl Tryz.ntmps129 (by decide) ?_ ?_
 ·intro xs p rs h; unfold al2 at h; split at h <;> first | (simp only [zsI, zpI] at h; rw [← h.2]; simp) | cases h
 ·intro xs rs hl h
  unfold al2 at h
  split at h
  ·simp only [zsI, zpI] at h
   obtain ⟨hc, rfl⟩ := h
   rename_i l
   have e := ay7 hc
   have := a3z O (l.getD 0 0) (l.getD 1 0) (l.getD 2 0) (l.getD 3 0) (l.getD 4 0) (l.getD 5 0) (l.getD 6 0) (l.getD 7 0) (l.getD 8 0) (l.getD 9 0) (l.getD 10 0) (l.getD 11 0) (l.getD 12 0) (l.getD 13 0) (l.getD 14 0) (l.getD 15 0) (l.getD 16 0) (l.getD 17 0) (l.getD 18 0) (l.getD 19 0) (l.getD 20 0) (l.getD 21 0) (l.getD 22 0) (l.getD 23 0) (l.getD 24 0) (l.getD 25 0) (l.getD 26 0) (l.getD 27 0) (l.getD 28 0) (l.getD 29 0) (l.getD 30 0) (l.getD 31 0) (l.getD 32 0) (l.getD 33 0) (l.getD 34 0) (l.getD 35 0) (l.getD 36 0) (l.getD 37 0) (l.getD 38 0) (l.getD 39 0) (l.getD 40 0) (l.getD 41 0) (l.getD 42 0) (l.getD 43 0) (l.getD 44 0) (l.getD 45 0) (l.getD 46 0) (l.getD 47 0) (l.getD 48 0) (l.getD 49 0) (l.getD 50 0) (l.getD 51 0) (l.getD 52 0) (l.getD 53 0) (l.getD 54 0) (l.getD 55 0) (l.getD 56 0) (l.getD 57 0) (l.getD 58 0) (l.getD 59 0) (l.getD 60 0) (l.getD 61 0) (l.getD 62 0) (l.getD 63 0)
   rw [← e] at this
   subst hO
   have e2 : acd oh.raw l = acd oh0 l := bev l
   rw [e2] at this
   rw [a3y hc]
   exact this
  ·cases h
theorem bi3 (I : Sx.Interp) (O : OH) (hO : O = oh) : ag I Tryz.prog 130 (l7 [] (ag7 141 .u32 KI)) := by
 refine aan (ahn I) (by kernel_rfl) [] Tryz.func130 (by kernel_rfl) (by kernel_rfl) rfl Tryz.ntmps130 (by decide) ?_ ?_
 ·intro xs p rs h; unfold ag7 at h; split at h <;> first | (simp only [zsI, zpI] at h; rw [← h.2]; simp) | cases h
 ·intro xs rs hl h
  unfold ag7 at h
  split at h
  ·simp only [zsI, zpI] at h
   obtain ⟨hc, rfl⟩ := h
   exact Eq.mpr (by kernel_rfl : _ = (KI = KI ∧ True)) ⟨rfl, trivial⟩
  ·cases h
theorem a7w (I : Sx.Interp) (O : OH) (hO : O = oh) : ag I Tryz.prog 126 (l7 [] (ag7 141 .u32 HI)) := by
 refine aan (ahn I) (by kernel_rfl) [] Tryz.func126 (by kernel_rfl) (by kernel_rfl) rfl Tryz.ntmps126 (by decide) ?_ ?_
 ·intro xs p rs h; unfold ag7 at h; split at h <;> first | (simp only [zsI, zpI] at h; rw [← h.2]; simp) | cases h
 ·intro xs rs hl h
  unfold ag7 at h
  split at h
  ·simp only [zsI, zpI] at h
   obtain ⟨hc, rfl⟩ := h
   exact Eq.mpr (by kernel_rfl : _ = (HI = HI ∧ True)) ⟨rfl, trivial⟩
  ·cases h
def spR (O : OH) (f : FuncId) : Option Sx.Spec := match f with
 | 131 => some (l7 [.v, .v] (ap4 O))
 | 129 => some (l7 [.ro .u8] (al2 O))
 | 130 => some (l7 [] (ag7 141 .u32 KI))
 | _ => none
theorem bm5 (I : Sx.Interp) (O : OH) (hO : O = oh) : ∀ f s, spR O f = some s → ag I Tryz.prog f s := by
 intro f s h
 unfold spR at h
 split at h
 ·cases h; exact a2m I O hO
 ·cases h; exact bds I O hO
 ·cases h; exact bi3 I O hO
 ·cases h
def amo (O : OM) (xs : List Arg) : Option (Bool × List Ret) := match xs with
 | [.ints [a, b, c, d, e, f, g, h], .ints l] => some (Nat.beq l.length 64, [.ints 141 .u32 (jo (O.mix l [a, b, c, d, e, f, g, h]) 8)])
 | _ => none
theorem a5b (O : OH) (h0 h1 h2 h3 h4 h5 h6 h7 b0 b1 b2 b3 b4 b5 b6 b7 b8 b9 b10 b11 b12 b13 b14 b15 b16 b17 b18 b19 b20 b21 b22 b23 b24 b25 b26 b27 b28 b29 b30 b31 b32 b33 b34 b35 b36 b37 b38 b39 b40 b41 b42 b43 b44 b45 b46 b47 b48 b49 b50 b51 b52 b53 b54 b55 b56 b57 b58 b59 b60 b61 b62 b63 : Int) : wpc Tryz.prog (spR O) Tryz.f127.ntmps [Ann.walk 65, Ann.walk 9] (wu Tryz.f127) 0 64 (ae5 [.ro .u32, .ro .u8] [.ints [h0, h1, h2, h3, h4, h5, h6, h7], .ints [b0, b1, b2, b3, b4, b5, b6, b7, b8, b9, b10, b11, b12, b13, b14, b15, b16, b17, b18, b19, b20, b21, b22, b23, b24, b25, b26, b27, b28, b29, b30, b31, b32, b33, b34, b35, b36, b37, b38, b39, b40, b41, b42, b43, b44, b45, b46, b47, b48, b49, b50, b51, b52, b53, b54, b55, b56, b57, b58, b59, b60, b61, b62, b63]] 0) (afm [.ro .u32, .ro .u8] [.ints [h0, h1, h2, h3, h4, h5, h6, h7], .ints [b0, b1, b2, b3, b4, b5, b6, b7, b8, b9, b10, b11, b12, b13, b14, b15, b16, b17, b18, b19, b20, b21, b22, b23, b24, b25, b26, b27, b28, b29, b30, b31, b32, b33, b34, b35, b36, b37, b38, b39, b40, b41, b42, b43, b44, b45, b46, b47, b48, b49, b50, b51, b52, b53, b54, b55, b56, b57, b58, b59, b60, b61, b62, b63]] 0) (aph Tryz.prog Tryz.f127.results.toList [.ints 141 .u32 (biv O [b0, b1, b2, b3, b4, b5, b6, b7, b8, b9, b10, b11, b12, b13, b14, b15, b16, b17, b18, b19, b20, b21, b22, b23, b24, b25, b26, b27, b28, b29, b30, b31, b32, b33, b34, b35, b36, b37, b38, b39, b40, b41, b42, b43, b44, b45, b46, b47, b48, b49, b50, b51, b52, b53, b54, b55, b56, b57, b58, b59, b60, b61, b62, b63] h0 h1 h2 h3 h4 h5 h6 h7)]) :=
 Eq.mpr (by kernel_rfl : _ = ((biv O [b0, b1, b2, b3, b4, b5, b6, b7, b8, b9, b10, b11, b12, b13, b14, b15, b16, b17, b18, b19, b20, b21, b22, b23, b24, b25, b26, b27, b28, b29, b30, b31, b32, b33, b34, b35, b36, b37, b38, b39, b40, b41, b42, b43, b44, b45, b46, b47, b48, b49, b50, b51, b52, b53, b54, b55, b56, b57, b58, b59, b60, b61, b62, b63] h0 h1 h2 h3 h4 h5 h6 h7 = biv O [b0, b1, b2, b3, b4, b5, b6, b7, b8, b9, b10, b11, b12, b13, b14, b15, b16, b17, b18, b19, b20, b21, b22, b23, b24, b25, b26, b27, b28, b29, b30, b31, b32, b33, b34, b35, b36, b37, b38, b39, b40, b41, b42, b43, b44, b45, b46, b47, b48, b49, b50, b51, b52, b53, b54, b55, b56, b57, b58, b59, b60, b61, b62, b63] h0 h1 h2 h3 h4 h5 h6 h7) ∧ True)) ⟨rfl, trivial⟩
theorem bbe (I : Sx.Interp) (O : OH) (hO : O = oh) : ag I Tryz.prog 127 (l7 [.ro .u32, .ro .u8] (amo om)) := by
 refine aan (bm5 I O hO) (by kernel_rfl) [Ann.walk 65, Ann.walk 9] Tryz.func127 (by kernel_rfl) (by kernel_rfl) rfl Tryz.ntmps127 (by decide) ?_ ?_
 ·intro xs p rs h; unfold amo at h; split at h <;> first | (simp only [zsI, zpI] at h; rw [← h.2]; simp) | cases h
 ·intro xs rs hl h
  unfold amo at h
  split at h
  ·simp only [zsI, zpI] at h
   obtain ⟨hc, rfl⟩ := h
   rename_i a b c d e' f g h' l
   have e := ay7 hc
   have := a5b O a b c d e' f g h' (l.getD 0 0) (l.getD 1 0) (l.getD 2 0) (l.getD 3 0) (l.getD 4 0) (l.getD 5 0) (l.getD 6 0) (l.getD 7 0) (l.getD 8 0) (l.getD 9 0) (l.getD 10 0) (l.getD 11 0) (l.getD 12 0) (l.getD 13 0) (l.getD 14 0) (l.getD 15 0) (l.getD 16 0) (l.getD 17 0) (l.getD 18 0) (l.getD 19 0) (l.getD 20 0) (l.getD 21 0) (l.getD 22 0) (l.getD 23 0) (l.getD 24 0) (l.getD 25 0) (l.getD 26 0) (l.getD 27 0) (l.getD 28 0) (l.getD 29 0) (l.getD 30 0) (l.getD 31 0) (l.getD 32 0) (l.getD 33 0) (l.getD 34 0) (l.getD 35 0) (l.getD 36 0) (l.getD 37 0) (l.getD 38 0) (l.getD 39 0) (l.getD 40 0) (l.getD 41 0) (l.getD 42 0) (l.getD 43 0) (l.getD 44 0) (l.getD 45 0) (l.getD 46 0) (l.getD 47 0) (l.getD 48 0) (l.getD 49 0) (l.getD 50 0) (l.getD 51 0) (l.getD 52 0) (l.getD 53 0) (l.getD 54 0) (l.getD 55 0) (l.getD 56 0) (l.getD 57 0) (l.getD 58 0) (l.getD 59 0) (l.getD 60 0) (l.getD 61 0) (l.getD 62 0) (l.getD 63 0)
   rw [← e] at this
   subst hO
   rw [bg7] at this
   rw [bjt]
   exact this
  ·cases h
end Go.Proofs.YtgekiddgdjeaiaaGreat