/- SHA-256 by the symbolic machine: the document's answer, a block. -/
import Derived.Test.YtcdmmfelagbpdaaGreatHi2
import Derived.IntWalk
namespace Go.Proofs.YtcdmmfelagbpdaaGreat
open Go.RowKit Go.Lib Sx
set_option linter.unusedVariables false
set_option linter.unusedSimpArgs false
set_option maxRecDepth 1000000
theorem bv_wrap (z : BitVec 32) : BitVec.ofInt 32 (IntKind.u32.wrap ↑z.toNat) = z := by
 have h := z.isLt
 have : IntKind.u32.wrap ↑z.toNat = (z.toNat : Int) := IntWalk.u32_in _ (by omega)
 rw [this, BitVec.ofInt_natCast, BitVec.ofNat_toNat, BitVec.setWidth_eq]
theorem ch_same (e f g : Int) : xorI (andI e f) (andI (notI e) g) = xorI g (andI e (xorI f g)) := by
 have h1 : BitVec.ofInt 32 4294967295 = BitVec.allOnes 32 := by decide
 unfold notI xorI andI
 simp only [bv_wrap, h1]
 congr 3
 apply BitVec.eq_of_getLsbD_eq
 intro i hi
 simp only [BitVec.getLsbD_xor, BitVec.getLsbD_and, BitVec.getLsbD_allOnes, hi, decide_true]
 cases (BitVec.ofInt 32 e).getLsbD i <;> cases (BitVec.ofInt 32 f).getLsbD i <;> cases (BitVec.ofInt 32 g).getLsbD i <;> rfl
theorem maj_same (a b c : Int) : xorI (xorI (andI a b) (andI a c)) (andI b c) = orI (andI a b) (andI c (orI a b)) := by
 unfold xorI andI orI
 simp only [bv_wrap]
 congr 3
 apply BitVec.eq_of_getLsbD_eq
 intro i hi
 simp only [BitVec.getLsbD_xor, BitVec.getLsbD_and, BitVec.getLsbD_or]
 cases (BitVec.ofInt 32 a).getLsbD i <;> cases (BitVec.ofInt 32 b).getLsbD i <;> cases (BitVec.ofInt 32 c).getLsbD i <;> rfl
def rndR (O : OH) (k w a b c d e f g h : Int) (K : Int → Int → Int → Int → Int → Int → Int → Int → List Int) : List Int :=
 (fun t => K (addI (addI t (xorI (xorI (O.rot 2 a) (O.rot 13 a)) (O.rot 22 a))) (xorI (xorI (andI a b) (andI a c)) (andI b c))) a b c (addI d t) e f g)
  (addI (addI (addI (addI h (xorI (xorI (O.rot 6 e) (O.rot 11 e)) (O.rot 25 e))) (xorI (andI e f) (andI (notI e) g))) k) w)
def rndsR (O : OH) : List Int → List Int → (a b c d e f g h : Int) → (Int → Int → Int → Int → Int → Int → Int → Int → List Int) → List Int
 | k :: ks, w :: ws, a, b, c, d, e, f, g, h, K => rndR O k w a b c d e f g h fun a b c d e f g h => rndsR O ks ws a b c d e f g h K
 | _, _, a, b, c, d, e, f, g, h, K => K a b c d e f g h
def mixR (O : OH) (l : List Int) (a b c d e f g h : Int) : List Int :=
 rndsR O KI (tabI (O.sched l) 64) a b c d e f g h fun a' b' c' d' e' f' g' h' => [addI a' a, addI b' b, addI c' c, addI d' d, addI e' e, addI f' f, addI g' g, addI h' h]
theorem rndsR_eq (O : OH) : ∀ (ks ws : List Int) (a b c d e f g h : Int) (K : Int → Int → Int → Int → Int → Int → Int → Int → List Int), rndsR O ks ws a b c d e f g h K = rndsI O ks ws a b c d e f g h K
 | k :: ks, w :: ws, a, b, c, d, e, f, g, h, K => by
  simp only [rndsR, rndsI, rndR, rndI, ch_same, maj_same]
  exact rndsR_eq O ks ws _ _ _ _ _ _ _ _ K
 | [], _, a, b, c, d, e, f, g, h, K => by simp only [rndsR, rndsI]
 | k :: ks, [], a, b, c, d, e, f, g, h, K => by simp only [rndsR, rndsI]
theorem mixR_eq (O : OH) (l : List Int) (a b c d e f g h : Int) : mixR O l a b c d e f g h = mixI O l a b c d e f g h := rndsR_eq O _ _ _ _ _ _ _ _ _ _ _
def OH.raw (O : OH) : OH := ⟨O.sched, O.rot, binI⟩
def spT (O : OH) (f : FuncId) : Option Sx.Spec := match f with
 | 116 => some (gspec [.v, .v] (g_turn O))
 | _ => none
theorem ok_turn (I : Sx.Interp) (O : OH) (hO : O = oh) : Sx.SpecOK I Tryz.prog 116 (gspec [.v, .v] (g_turn O)) := by
 refine spec_gen (spH0_ok I) (by kernel_rfl) [] Tryz.func116 (by kernel_rfl) (by kernel_rfl) rfl Tryz.ntmps116 (by decide) ?_ ?_
 ·intro xs p rs h; unfold g_turn at h; split at h <;> first | (simp only [Option.some.injEq, Prod.mk.injEq] at h; rw [← h.2]; simp) | cases h
 ·intro xs rs hl h
  unfold g_turn at h
  split at h
  ·simp only [Option.some.injEq, Prod.mk.injEq] at h
   obtain ⟨hc, rfl⟩ := h
   subst hO
   rename_i x n
   unfold turnOk rotOk at hc
   split at hc
   ·cases hc
   ·split at hc
    ·refine Eq.mpr (by kernel_rfl : _ = ((Value.int .u32 (orI (shrI 2 x) (shlI 30 x)) = Value.int .u32 (rI 2 x)) ∧ True)) ⟨?_, trivial⟩
     rw [orI_comm]; rfl
    ·refine Eq.mpr (by kernel_rfl : _ = ((Value.int .u32 (orI (shrI 6 x) (shlI 26 x)) = Value.int .u32 (rI 6 x)) ∧ True)) ⟨?_, trivial⟩
     rw [orI_comm]; rfl
    ·refine Eq.mpr (by kernel_rfl : _ = ((Value.int .u32 (orI (shrI 7 x) (shlI 25 x)) = Value.int .u32 (rI 7 x)) ∧ True)) ⟨?_, trivial⟩
     rw [orI_comm]; rfl
    ·refine Eq.mpr (by kernel_rfl : _ = ((Value.int .u32 (orI (shrI 11 x) (shlI 21 x)) = Value.int .u32 (rI 11 x)) ∧ True)) ⟨?_, trivial⟩
     rw [orI_comm]; rfl
    ·refine Eq.mpr (by kernel_rfl : _ = ((Value.int .u32 (orI (shrI 13 x) (shlI 19 x)) = Value.int .u32 (rI 13 x)) ∧ True)) ⟨?_, trivial⟩
     rw [orI_comm]; rfl
    ·refine Eq.mpr (by kernel_rfl : _ = ((Value.int .u32 (orI (shrI 17 x) (shlI 15 x)) = Value.int .u32 (rI 17 x)) ∧ True)) ⟨?_, trivial⟩
     rw [orI_comm]; rfl
    ·refine Eq.mpr (by kernel_rfl : _ = ((Value.int .u32 (orI (shrI 18 x) (shlI 14 x)) = Value.int .u32 (rI 18 x)) ∧ True)) ⟨?_, trivial⟩
     rw [orI_comm]; rfl
    ·refine Eq.mpr (by kernel_rfl : _ = ((Value.int .u32 (orI (shrI 19 x) (shlI 13 x)) = Value.int .u32 (rI 19 x)) ∧ True)) ⟨?_, trivial⟩
     rw [orI_comm]; rfl
    ·refine Eq.mpr (by kernel_rfl : _ = ((Value.int .u32 (orI (shrI 22 x) (shlI 10 x)) = Value.int .u32 (rI 22 x)) ∧ True)) ⟨?_, trivial⟩
     rw [orI_comm]; rfl
    ·refine Eq.mpr (by kernel_rfl : _ = ((Value.int .u32 (orI (shrI 25 x) (shlI 7 x)) = Value.int .u32 (rI 25 x)) ∧ True)) ⟨?_, trivial⟩
     rw [orI_comm]; rfl
    ·cases hc
  ·cases h
theorem spT_ok (I : Sx.Interp) (O : OH) (hO : O = oh) : ∀ f s, spT O f = some s → Sx.SpecOK I Tryz.prog f s := by
 intro f s h
 unfold spT at h
 split at h
 ·cases h; exact ok_turn I O hO
 ·cases h
theorem wpc_words (O : OH) (b0 b1 b2 b3 b4 b5 b6 b7 b8 b9 b10 b11 b12 b13 b14 b15 b16 b17 b18 b19 b20 b21 b22 b23 b24 b25 b26 b27 b28 b29 b30 b31 b32 b33 b34 b35 b36 b37 b38 b39 b40 b41 b42 b43 b44 b45 b46 b47 b48 b49 b50 b51 b52 b53 b54 b55 b56 b57 b58 b59 b60 b61 b62 b63 : Int) : wpc Tryz.prog (spT O) Tryz.f114.ntmps [Ann.walk 17, Ann.walk 49] (bodyOf Tryz.f114) 0 64 (envA [.ro .u8] [.ints [b0, b1, b2, b3, b4, b5, b6, b7, b8, b9, b10, b11, b12, b13, b14, b15, b16, b17, b18, b19, b20, b21, b22, b23, b24, b25, b26, b27, b28, b29, b30, b31, b32, b33, b34, b35, b36, b37, b38, b39, b40, b41, b42, b43, b44, b45, b46, b47, b48, b49, b50, b51, b52, b53, b54, b55, b56, b57, b58, b59, b60, b61, b62, b63]] 0) (memA [.ro .u8] [.ints [b0, b1, b2, b3, b4, b5, b6, b7, b8, b9, b10, b11, b12, b13, b14, b15, b16, b17, b18, b19, b20, b21, b22, b23, b24, b25, b26, b27, b28, b29, b30, b31, b32, b33, b34, b35, b36, b37, b38, b39, b40, b41, b42, b43, b44, b45, b46, b47, b48, b49, b50, b51, b52, b53, b54, b55, b56, b57, b58, b59, b60, b61, b62, b63]] 0) (retG Tryz.prog Tryz.f114.results.toList [.ints 25 .u32 (schedI O.raw [b0, b1, b2, b3, b4, b5, b6, b7, b8, b9, b10, b11, b12, b13, b14, b15, b16, b17, b18, b19, b20, b21, b22, b23, b24, b25, b26, b27, b28, b29, b30, b31, b32, b33, b34, b35, b36, b37, b38, b39, b40, b41, b42, b43, b44, b45, b46, b47, b48, b49, b50, b51, b52, b53, b54, b55, b56, b57, b58, b59, b60, b61, b62, b63])]) :=
 Eq.mpr (by kernel_rfl : _ = ((schedI O.raw [b0, b1, b2, b3, b4, b5, b6, b7, b8, b9, b10, b11, b12, b13, b14, b15, b16, b17, b18, b19, b20, b21, b22, b23, b24, b25, b26, b27, b28, b29, b30, b31, b32, b33, b34, b35, b36, b37, b38, b39, b40, b41, b42, b43, b44, b45, b46, b47, b48, b49, b50, b51, b52, b53, b54, b55, b56, b57, b58, b59, b60, b61, b62, b63] = schedI O.raw [b0, b1, b2, b3, b4, b5, b6, b7, b8, b9, b10, b11, b12, b13, b14, b15, b16, b17, b18, b19, b20, b21, b22, b23, b24, b25, b26, b27, b28, b29, b30, b31, b32, b33, b34, b35, b36, b37, b38, b39, b40, b41, b42, b43, b44, b45, b46, b47, b48, b49, b50, b51, b52, b53, b54, b55, b56, b57, b58, b59, b60, b61, b62, b63]) ∧ True)) ⟨rfl, trivial⟩
theorem ok_words (I : Sx.Interp) (O : OH) (hO : O = oh) : Sx.SpecOK I Tryz.prog 114 (gspec [.ro .u8] (g_words O)) := by
 refine spec_gen (spT_ok I O hO) (by kernel_rfl) [Ann.walk 17, Ann.walk 49] Tryz.func114 (by kernel_rfl) (by kernel_rfl) rfl Tryz.ntmps114 (by decide) ?_ ?_
 ·intro xs p rs h; unfold g_words at h; split at h <;> first | (simp only [Option.some.injEq, Prod.mk.injEq] at h; rw [← h.2]; simp) | cases h
 ·intro xs rs hl h
  unfold g_words at h
  split at h
  ·simp only [Option.some.injEq, Prod.mk.injEq] at h
   obtain ⟨hc, rfl⟩ := h
   rename_i l
   have e := list64 hc
   have := wpc_words O (l.getD 0 0) (l.getD 1 0) (l.getD 2 0) (l.getD 3 0) (l.getD 4 0) (l.getD 5 0) (l.getD 6 0) (l.getD 7 0) (l.getD 8 0) (l.getD 9 0) (l.getD 10 0) (l.getD 11 0) (l.getD 12 0) (l.getD 13 0) (l.getD 14 0) (l.getD 15 0) (l.getD 16 0) (l.getD 17 0) (l.getD 18 0) (l.getD 19 0) (l.getD 20 0) (l.getD 21 0) (l.getD 22 0) (l.getD 23 0) (l.getD 24 0) (l.getD 25 0) (l.getD 26 0) (l.getD 27 0) (l.getD 28 0) (l.getD 29 0) (l.getD 30 0) (l.getD 31 0) (l.getD 32 0) (l.getD 33 0) (l.getD 34 0) (l.getD 35 0) (l.getD 36 0) (l.getD 37 0) (l.getD 38 0) (l.getD 39 0) (l.getD 40 0) (l.getD 41 0) (l.getD 42 0) (l.getD 43 0) (l.getD 44 0) (l.getD 45 0) (l.getD 46 0) (l.getD 47 0) (l.getD 48 0) (l.getD 49 0) (l.getD 50 0) (l.getD 51 0) (l.getD 52 0) (l.getD 53 0) (l.getD 54 0) (l.getD 55 0) (l.getD 56 0) (l.getD 57 0) (l.getD 58 0) (l.getD 59 0) (l.getD 60 0) (l.getD 61 0) (l.getD 62 0) (l.getD 63 0)
   rw [← e] at this
   subst hO
   have e2 : schedI oh.raw l = schedI oh0 l := sched_oh l
   rw [e2] at this
   rw [sched_tab hc]
   exact this
  ·cases h
theorem ok_adds (I : Sx.Interp) (O : OH) (hO : O = oh) : Sx.SpecOK I Tryz.prog 115 (gspec [] (g_ints 25 .u32 KI)) := by
 refine spec_gen (spH0_ok I) (by kernel_rfl) [] Tryz.func115 (by kernel_rfl) (by kernel_rfl) rfl Tryz.ntmps115 (by decide) ?_ ?_
 ·intro xs p rs h; unfold g_ints at h; split at h <;> first | (simp only [Option.some.injEq, Prod.mk.injEq] at h; rw [← h.2]; simp) | cases h
 ·intro xs rs hl h
  unfold g_ints at h
  split at h
  ·simp only [Option.some.injEq, Prod.mk.injEq] at h
   obtain ⟨hc, rfl⟩ := h
   exact Eq.mpr (by kernel_rfl : _ = (KI = KI ∧ True)) ⟨rfl, trivial⟩
  ·cases h
theorem ok_firsts (I : Sx.Interp) (O : OH) (hO : O = oh) : Sx.SpecOK I Tryz.prog 108 (gspec [] (g_ints 25 .u32 HI)) := by
 refine spec_gen (spH0_ok I) (by kernel_rfl) [] Tryz.func108 (by kernel_rfl) (by kernel_rfl) rfl Tryz.ntmps108 (by decide) ?_ ?_
 ·intro xs p rs h; unfold g_ints at h; split at h <;> first | (simp only [Option.some.injEq, Prod.mk.injEq] at h; rw [← h.2]; simp) | cases h
 ·intro xs rs hl h
  unfold g_ints at h
  split at h
  ·simp only [Option.some.injEq, Prod.mk.injEq] at h
   obtain ⟨hc, rfl⟩ := h
   exact Eq.mpr (by kernel_rfl : _ = (HI = HI ∧ True)) ⟨rfl, trivial⟩
  ·cases h
def spR (O : OH) (f : FuncId) : Option Sx.Spec := match f with
 | 116 => some (gspec [.v, .v] (g_turn O))
 | 114 => some (gspec [.ro .u8] (g_words O))
 | 115 => some (gspec [] (g_ints 25 .u32 KI))
 | _ => none
theorem spR_ok (I : Sx.Interp) (O : OH) (hO : O = oh) : ∀ f s, spR O f = some s → Sx.SpecOK I Tryz.prog f s := by
 intro f s h
 unfold spR at h
 split at h
 ·cases h; exact ok_turn I O hO
 ·cases h; exact ok_words I O hO
 ·cases h; exact ok_adds I O hO
 ·cases h
def g_block (O : OM) (xs : List Arg) : Option (Bool × List Ret) := match xs with
 | [.ints [a, b, c, d, e, f, g, h], .ints l] => some (Nat.beq l.length 64, [.ints 25 .u32 (tabI (O.mix l [a, b, c, d, e, f, g, h]) 8)])
 | _ => none
theorem wpc_block (O : OH) (h0 h1 h2 h3 h4 h5 h6 h7 b0 b1 b2 b3 b4 b5 b6 b7 b8 b9 b10 b11 b12 b13 b14 b15 b16 b17 b18 b19 b20 b21 b22 b23 b24 b25 b26 b27 b28 b29 b30 b31 b32 b33 b34 b35 b36 b37 b38 b39 b40 b41 b42 b43 b44 b45 b46 b47 b48 b49 b50 b51 b52 b53 b54 b55 b56 b57 b58 b59 b60 b61 b62 b63 : Int) : wpc Tryz.prog (spR O) Tryz.f109.ntmps [Ann.walk 65, Ann.walk 9] (bodyOf Tryz.f109) 0 64 (envA [.ro .u32, .ro .u8] [.ints [h0, h1, h2, h3, h4, h5, h6, h7], .ints [b0, b1, b2, b3, b4, b5, b6, b7, b8, b9, b10, b11, b12, b13, b14, b15, b16, b17, b18, b19, b20, b21, b22, b23, b24, b25, b26, b27, b28, b29, b30, b31, b32, b33, b34, b35, b36, b37, b38, b39, b40, b41, b42, b43, b44, b45, b46, b47, b48, b49, b50, b51, b52, b53, b54, b55, b56, b57, b58, b59, b60, b61, b62, b63]] 0) (memA [.ro .u32, .ro .u8] [.ints [h0, h1, h2, h3, h4, h5, h6, h7], .ints [b0, b1, b2, b3, b4, b5, b6, b7, b8, b9, b10, b11, b12, b13, b14, b15, b16, b17, b18, b19, b20, b21, b22, b23, b24, b25, b26, b27, b28, b29, b30, b31, b32, b33, b34, b35, b36, b37, b38, b39, b40, b41, b42, b43, b44, b45, b46, b47, b48, b49, b50, b51, b52, b53, b54, b55, b56, b57, b58, b59, b60, b61, b62, b63]] 0) (retG Tryz.prog Tryz.f109.results.toList [.ints 25 .u32 (mixR O [b0, b1, b2, b3, b4, b5, b6, b7, b8, b9, b10, b11, b12, b13, b14, b15, b16, b17, b18, b19, b20, b21, b22, b23, b24, b25, b26, b27, b28, b29, b30, b31, b32, b33, b34, b35, b36, b37, b38, b39, b40, b41, b42, b43, b44, b45, b46, b47, b48, b49, b50, b51, b52, b53, b54, b55, b56, b57, b58, b59, b60, b61, b62, b63] h0 h1 h2 h3 h4 h5 h6 h7)]) :=
 Eq.mpr (by kernel_rfl : _ = ((mixR O [b0, b1, b2, b3, b4, b5, b6, b7, b8, b9, b10, b11, b12, b13, b14, b15, b16, b17, b18, b19, b20, b21, b22, b23, b24, b25, b26, b27, b28, b29, b30, b31, b32, b33, b34, b35, b36, b37, b38, b39, b40, b41, b42, b43, b44, b45, b46, b47, b48, b49, b50, b51, b52, b53, b54, b55, b56, b57, b58, b59, b60, b61, b62, b63] h0 h1 h2 h3 h4 h5 h6 h7 = mixR O [b0, b1, b2, b3, b4, b5, b6, b7, b8, b9, b10, b11, b12, b13, b14, b15, b16, b17, b18, b19, b20, b21, b22, b23, b24, b25, b26, b27, b28, b29, b30, b31, b32, b33, b34, b35, b36, b37, b38, b39, b40, b41, b42, b43, b44, b45, b46, b47, b48, b49, b50, b51, b52, b53, b54, b55, b56, b57, b58, b59, b60, b61, b62, b63] h0 h1 h2 h3 h4 h5 h6 h7) ∧ True)) ⟨rfl, trivial⟩
theorem ok_block (I : Sx.Interp) (O : OH) (hO : O = oh) : Sx.SpecOK I Tryz.prog 109 (gspec [.ro .u32, .ro .u8] (g_block om)) := by
 refine spec_gen (spR_ok I O hO) (by kernel_rfl) [Ann.walk 65, Ann.walk 9] Tryz.func109 (by kernel_rfl) (by kernel_rfl) rfl Tryz.ntmps109 (by decide) ?_ ?_
 ·intro xs p rs h; unfold g_block at h; split at h <;> first | (simp only [Option.some.injEq, Prod.mk.injEq] at h; rw [← h.2]; simp) | cases h
 ·intro xs rs hl h
  unfold g_block at h
  split at h
  ·simp only [Option.some.injEq, Prod.mk.injEq] at h
   obtain ⟨hc, rfl⟩ := h
   rename_i a b c d e' f g h' l
   have e := list64 hc
   have := wpc_block O a b c d e' f g h' (l.getD 0 0) (l.getD 1 0) (l.getD 2 0) (l.getD 3 0) (l.getD 4 0) (l.getD 5 0) (l.getD 6 0) (l.getD 7 0) (l.getD 8 0) (l.getD 9 0) (l.getD 10 0) (l.getD 11 0) (l.getD 12 0) (l.getD 13 0) (l.getD 14 0) (l.getD 15 0) (l.getD 16 0) (l.getD 17 0) (l.getD 18 0) (l.getD 19 0) (l.getD 20 0) (l.getD 21 0) (l.getD 22 0) (l.getD 23 0) (l.getD 24 0) (l.getD 25 0) (l.getD 26 0) (l.getD 27 0) (l.getD 28 0) (l.getD 29 0) (l.getD 30 0) (l.getD 31 0) (l.getD 32 0) (l.getD 33 0) (l.getD 34 0) (l.getD 35 0) (l.getD 36 0) (l.getD 37 0) (l.getD 38 0) (l.getD 39 0) (l.getD 40 0) (l.getD 41 0) (l.getD 42 0) (l.getD 43 0) (l.getD 44 0) (l.getD 45 0) (l.getD 46 0) (l.getD 47 0) (l.getD 48 0) (l.getD 49 0) (l.getD 50 0) (l.getD 51 0) (l.getD 52 0) (l.getD 53 0) (l.getD 54 0) (l.getD 55 0) (l.getD 56 0) (l.getD 57 0) (l.getD 58 0) (l.getD 59 0) (l.getD 60 0) (l.getD 61 0) (l.getD 62 0) (l.getD 63 0)
   rw [← e] at this
   subst hO
   rw [mixR_eq] at this
   rw [mix_tab]
   exact this
  ·cases h
end Go.Proofs.YtcdmmfelagbpdaaGreat