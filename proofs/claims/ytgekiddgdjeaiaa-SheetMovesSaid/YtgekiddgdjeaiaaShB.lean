/- Sheet: the walk of SheetMoves (printed by genSh.py; VCs by VcTool). -/
import Derived.Test.YtgekiddgdjeaiaaSh9
namespace Go.Proofs.Ytgekiddgdjeaiaa
open Go.RowKit Go.Lib Ckp Cfd Cpd Sx
set_option linter.unusedVariables false
set_option linter.unusedSimpArgs false
set_option maxRecDepth 1000000
theorem dummyB : True := trivial
def g_smoves (O : OO) (Y : OY) (ds : List Dt) : Option (Bool × List Bool × (List Bool → Post)) := match ds with
  | [.v (.agg ch), .node [.v (.int .i64 no), .v (.int .i64 h0), .v (.int .i64 h1), .structs l, .v (.int .i64 rt)], .v (.agg ⟨[.int .i64 d, .int .i64 f, .int .i64 i, .int .i64 a, .int .u64 q, .int .i64 e, .int .u64 k, .int .i64 r]⟩)] => some ((chB ch) && (Nat.ble l.length 9223372036854775807) && (cnd l) && (inU q 18446744073709551616) && (inU k 18446744073709551616), [], fun _ => ⟨[.v (.bool true)], []⟩)
  | _ => none
set_option maxHeartbeats 4000000 in
theorem vc_smoves (O : OO) (Y : OY) (c : Nat → Int) (no h0 h1 rt : Int) (l : List (List Int)) (d f i a q e k r : Int) (F : FO O) (hy : Y = yO O) (hc : chB (chA c) = true) (g0 : Nat.ble l.length 9223372036854775807 = true) (g1 : cnd l = true) (g2 : inU q 18446744073709551616 = true) (g3 : inU k 18446744073709551616 = true) (ec : cz (chA c) = c) :
  If (!fewB h0 h1 rt l) (Value.bool true = Value.bool true ∧ True ∧ True) (If (chB (chA c) && l.length.ble 1000 && cnd l && inU q 18446744073709551616 && inU k 18446744073709551616)
    (If (iBne (dE O (cz (chA c)) no h0 h1 rt l d f i a q e k r) 0) (Value.bool true = Value.bool true ∧ True ∧ True) (If ((bif iBeq (dE O (cz (chA c)) no h0 h1 rt l d f i a q e k r) 0
    then dL l d f i a q e else []).length.ble 1000) (If (l.length.ble 1000) (If ((bif iBeq (dE O (cz (chA c)) no h0 h1 rt l d f i a q e k r) 0 then dL l d f i a q e else []).length.ble
    1000) (If (l.length.ble 1000) (If (iBne (IntKind.i64.wrap (iOf (BitVec.ofInt 64 d &&& BitVec.ofInt 64 3).toNat)) 1) (Value.bool (eqv (Array.mk ([Value.int .i64 (IntKind.i64.wrap
    (iSub (bif !allW 0 1 [0] then 0 else IntKind.i64.wrap (iAdd (haveO (bif iBeq (dE O (cz (chA c)) no h0 h1 rt l d f i a q e k r) 0 then dH0 h0 l d f i a else 0) (bif iBeq (dE O (cz
    (chA c)) no h0 h1 rt l d f i a q e k r) 0 then dH1 h1 l d f i a else 0) 0) (offM (IntKind.i64.wrap (iSub 1 0)) (bif iBeq (dE O (cz (chA c)) no h0 h1 rt l d f i a q e k r) 0 then dL
    l d f i a q e else [])))) (bif !allW 0 1 [0] then 0 else IntKind.i64.wrap (iAdd (haveO h0 h1 0) (offM (IntKind.i64.wrap (iSub 1 0)) l))))), Value.int .i64 0].set 1 (Value.int .i64
    (IntKind.i64.wrap (iSub (bif !allW 0 1 [1] then 0 else IntKind.i64.wrap (iAdd (haveO (bif iBeq (dE O (cz (chA c)) no h0 h1 rt l d f i a q e k r) 0 then dH0 h0 l d f i a else 0) (bif
    iBeq (dE O (cz (chA c)) no h0 h1 rt l d f i a q e k r) 0 then dH1 h1 l d f i a else 0) 1) (offM (IntKind.i64.wrap (iSub 1 1)) (bif iBeq (dE O (cz (chA c)) no h0 h1 rt l d f i a q e
    k r) 0 then dL l d f i a q e else [])))) (bif !allW 0 1 [1] then 0 else IntKind.i64.wrap (iAdd (haveO h0 h1 1) (offM (IntKind.i64.wrap (iSub 1 1)) l)))))))) (Array.mk [Value.int
    .i64 0, Value.int .i64 0])) = Value.bool true ∧ True ∧ True) (If (l.length.ble 1000) (If ((bif iBeq (dE O (cz (chA c)) no h0 h1 rt l d f i a q e k r) 0 then dL l d f i a q e else
    []).length.ble 1000) (If (!iLt (idxS (matchF f i) l) 0) (If (!!iLt (idxS (matchF f i) (bif iBeq (dE O (cz (chA c)) no h0 h1 rt l d f i a q e k r) 0 then dL l d f i a q e else []))
    0) (If (inU k 18446744073709551616) (If (iBeq (O.pbase k) (findC f i l 3)) (If (iEq (findC f i l 0) (iOf 0)) (If (iBeq (IntKind.i64.wrap (iSub (bif !allW 0 1 [0] then 0 else
    IntKind.i64.wrap (iAdd (haveO (bif iBeq (dE O (cz (chA c)) no h0 h1 rt l d f i a q e k r) 0 then dH0 h0 l d f i a else 0) (bif iBeq (dE O (cz (chA c)) no h0 h1 rt l d f i a q e k r)
    0 then dH1 h1 l d f i a else 0) 0) (offM (IntKind.i64.wrap (iSub 1 0)) (bif iBeq (dE O (cz (chA c)) no h0 h1 rt l d f i a q e k r) 0 then dL l d f i a q e else [])))) (bif !allW 0 1
    [0] then 0 else IntKind.i64.wrap (iAdd (haveO h0 h1 0) (offM (IntKind.i64.wrap (iSub 1 0)) l))))) (IntKind.i64.wrap (iSub 0 (findC f i l 2)))) (If (iEq (IntKind.i64.wrap (iSub 1
    (findC f i l 0))) (iOf 0)) (Value.bool (iBeq (IntKind.i64.wrap (iSub (bif !allW 0 1 [0] then 0 else IntKind.i64.wrap (iAdd (haveO (bif iBeq (dE O (cz (chA c)) no h0 h1 rt l d f i a
    q e k r) 0 then dH0 h0 l d f i a else 0) (bif iBeq (dE O (cz (chA c)) no h0 h1 rt l d f i a q e k r) 0 then dH1 h1 l d f i a else 0) 0) (offM (IntKind.i64.wrap (iSub 1 0)) (bif iBeq
    (dE O (cz (chA c)) no h0 h1 rt l d f i a q e k r) 0 then dL l d f i a q e else [])))) (bif !allW 0 1 [0] then 0 else IntKind.i64.wrap (iAdd (haveO h0 h1 0) (offM (IntKind.i64.wrap
    (iSub 1 0)) l))))) (findC f i l 2)) = Value.bool true ∧ True ∧ True) (If (iEq (IntKind.i64.wrap (iSub 1 (findC f i l 0))) (iOf (nAdd 0 1))) (Value.bool (iBeq (IntKind.i64.wrap (iSub
    (bif !allW 0 1 [1] then 0 else IntKind.i64.wrap (iAdd (haveO (bif iBeq (dE O (cz (chA c)) no h0 h1 rt l d f i a q e k r) 0 then dH0 h0 l d f i a else 0) (bif iBeq (dE O (cz (chA c))
    no h0 h1 rt l d f i a q e k r) 0 then dH1 h1 l d f i a else 0) 1) (offM (IntKind.i64.wrap (iSub 1 1)) (bif iBeq (dE O (cz (chA c)) no h0 h1 rt l d f i a q e k r) 0 then dL l d f i a
    q e else [])))) (bif !allW 0 1 [1] then 0 else IntKind.i64.wrap (iAdd (haveO h0 h1 1) (offM (IntKind.i64.wrap (iSub 1 1)) l))))) (findC f i l 2)) = Value.bool true ∧ True ∧ True)
    False)) (Value.bool false = Value.bool true ∧ True ∧ True)) (If (iEq (findC f i l 0) (iOf (nAdd 0 1))) (If (iBeq (IntKind.i64.wrap (iSub (bif !allW 0 1 [1] then 0 else
    IntKind.i64.wrap (iAdd (haveO (bif iBeq (dE O (cz (chA c)) no h0 h1 rt l d f i a q e k r) 0 then dH0 h0 l d f i a else 0) (bif iBeq (dE O (cz (chA c)) no h0 h1 rt l d f i a q e k r)
    0 then dH1 h1 l d f i a else 0) 1) (offM (IntKind.i64.wrap (iSub 1 1)) (bif iBeq (dE O (cz (chA c)) no h0 h1 rt l d f i a q e k r) 0 then dL l d f i a q e else [])))) (bif !allW 0 1
    [1] then 0 else IntKind.i64.wrap (iAdd (haveO h0 h1 1) (offM (IntKind.i64.wrap (iSub 1 1)) l))))) (IntKind.i64.wrap (iSub 0 (findC f i l 2)))) (If (iEq (IntKind.i64.wrap (iSub 1
    (findC f i l 0))) (iOf 0)) (Value.bool (iBeq (IntKind.i64.wrap (iSub (bif !allW 0 1 [0] then 0 else IntKind.i64.wrap (iAdd (haveO (bif iBeq (dE O (cz (chA c)) no h0 h1 rt l d f i a
    q e k r) 0 then dH0 h0 l d f i a else 0) (bif iBeq (dE O (cz (chA c)) no h0 h1 rt l d f i a q e k r) 0 then dH1 h1 l d f i a else 0) 0) (offM (IntKind.i64.wrap (iSub 1 0)) (bif iBeq
    (dE O (cz (chA c)) no h0 h1 rt l d f i a q e k r) 0 then dL l d f i a q e else [])))) (bif !allW 0 1 [0] then 0 else IntKind.i64.wrap (iAdd (haveO h0 h1 0) (offM (IntKind.i64.wrap
    (iSub 1 0)) l))))) (findC f i l 2)) = Value.bool true ∧ True ∧ True) (If (iEq (IntKind.i64.wrap (iSub 1 (findC f i l 0))) (iOf (nAdd 0 1))) (Value.bool (iBeq (IntKind.i64.wrap (iSub
    (bif !allW 0 1 [1] then 0 else IntKind.i64.wrap (iAdd (haveO (bif iBeq (dE O (cz (chA c)) no h0 h1 rt l d f i a q e k r) 0 then dH0 h0 l d f i a else 0) (bif iBeq (dE O (cz (chA c))
    no h0 h1 rt l d f i a q e k r) 0 then dH1 h1 l d f i a else 0) 1) (offM (IntKind.i64.wrap (iSub 1 1)) (bif iBeq (dE O (cz (chA c)) no h0 h1 rt l d f i a q e k r) 0 then dL l d f i a
    q e else [])))) (bif !allW 0 1 [1] then 0 else IntKind.i64.wrap (iAdd (haveO h0 h1 1) (offM (IntKind.i64.wrap (iSub 1 1)) l))))) (findC f i l 2)) = Value.bool true ∧ True ∧ True)
    False)) (Value.bool false = Value.bool true ∧ True ∧ True)) False)) (Value.bool false = Value.bool true ∧ True ∧ True)) False) (Value.bool false = Value.bool true ∧ True ∧ True))
    (Value.bool false = Value.bool true ∧ True ∧ True)) False) False)) False) False) False) False)) False) := by
  simp only [ec]
  refine Sx.if_both (fun _ => (by first | rfl | trivial)) (fun hf => ?_)
  have l20 := few_len hf
  have l1 : Nat.ble l.length 1000 = true := by rw [Nat.ble_eq]; omega
  refine Sx.if_true (by rw [hc, l1, g1, g2, g3]; rfl) (Sx.if_both (fun _ => (by first | rfl | trivial)) (fun hE => ?_))
  have hE := iBne_ff hE
  have D := done_right hc hE
  have zE : iBeq (dE O c no h0 h1 rt l d f i a q e k r) 0 = true := by rw [hE]; rfl
  simp only [zE, cond_true]
  generalize dH0 h0 l d f i a = H0 at *
  generalize dH1 h1 l d f i a = H1 at *
  generalize dRt rt d r = RT at *
  generalize dL l d f i a q e = L at *
  have ln := D.now.len
  have l2 : Nat.ble L.length 1000 = true := by rw [Nat.ble_eq]; omega
  have w0 : (bif !(allW 0 1 [0]) then 0 else IntKind.i64.wrap (iAdd (haveO h0 h1 0) (offM (IntKind.i64.wrap (iSub 1 0)) l))) = h0 + sumF 0 l := worth_0 D.was
  have w1 : (bif !(allW 0 1 [1]) then 0 else IntKind.i64.wrap (iAdd (haveO h0 h1 1) (offM (IntKind.i64.wrap (iSub 1 1)) l))) = h1 + sumF 1 l := worth_1 D.was
  have v0 : (bif !(allW 0 1 [0]) then 0 else IntKind.i64.wrap (iAdd (haveO H0 H1 0) (offM (IntKind.i64.wrap (iSub 1 0)) L))) = H0 + sumF 0 L := worth_0 D.now
  have v1 : (bif !(allW 0 1 [1]) then 0 else IntKind.i64.wrap (iAdd (haveO H0 H1 1) (offM (IntKind.i64.wrap (iSub 1 1)) L))) = H1 + sumF 1 L := worth_1 D.now
  simp only [w0, w1, v0, v1]
  refine Sx.if_true l2 (Sx.if_true l1 (Sx.if_true l2 (Sx.if_true l1 (Sx.if_both (fun t => ⟨?_, (by first | rfl | trivial)⟩) (fun t => Sx.if_true l1 (Sx.if_true l2 ?_))))))
  · have m := D.moved t
    rw [eqv_00 (by rw [m.1]; show IntKind.i64.wrap (_ - _) = 0; rw [Int.sub_self]; decide) (by rw [m.2]; show IntKind.i64.wrap (_ - _) = 0; rw [Int.sub_self]; decide)]
  · obtain ⟨hs, fi, ni, hp, hf0, ha, m0, m1⟩ := D.set t
    refine Sx.if_true (by rw [fi]; rfl) (Sx.if_true (by rw [ni]; rfl) (Sx.if_true g3 (Sx.if_true (by rw [hp, iBeq_t]) ?_)))
    rw [hf0]
    have eqw : ∀ {x y : Int}, x = y → iBeq (IntKind.i64.wrap x) (IntKind.i64.wrap y) = true := fun h => by rw [h, iBeq_t]
    have eqn : ∀ {x : Int}, x = findC f i l 2 → iBeq (IntKind.i64.wrap x) (findC f i l 2) = true := fun {x} h => by rw [h, wrap_in (by omega) (by omega), iBeq_t]
    rcases hs with rfl | rfl
    · have m := m0 rfl
      refine Sx.if_true rfl (Sx.if_true (eqw (by show _ - _ = 0 - _; omega)) (Sx.if_false rfl (Sx.if_true rfl ⟨?_, (by first | rfl | trivial)⟩)))
      rw [eqn (by show _ - _ = _; omega)]
    · have m := m1 rfl
      refine Sx.if_false rfl (Sx.if_true rfl (Sx.if_true (eqw (by show _ - _ = 0 - _; omega)) (Sx.if_true rfl ⟨?_, (by first | rfl | trivial)⟩)))
      rw [eqn (by show _ - _ = _; omega)]
theorem wpc_smoves (O : OO) (Y : OY) (c : Nat → Int) (no h0 h1 rt : Int) (l : List (List Int)) (d f i a q e k r : Int) (F : FO O) (hy : Y = yO O) (hc : chB (chA c) = true) (g0 : Nat.ble l.length 9223372036854775807 = true) (g1 : cnd l = true) (g2 : inU q 18446744073709551616 = true) (g3 : inU k 18446744073709551616 = true) (ec : cz (chA c) = c) : wpcI Try.prog (spS21 O Y) Try.f6.ntmps [] (bodyOf Try.f6) 0 64 (envP (mks [.v, .agg [.v, .v, .v, .roS [.i64, .i64, .i64, .u64, .i64], .v], .v] [.v (.agg (chA c)), .node [.v (.int .i64 no), .v (.int .i64 h0), .v (.int .i64 h1), .structs l, .v (.int .i64 rt)], .v (.agg ⟨[.int .i64 d, .int .i64 f, .int .i64 i, .int .i64 a, .int .u64 q, .int .i64 e, .int .u64 k, .int .i64 r]⟩)] 0).1 0) (mks [.v, .agg [.v, .v, .v, .roS [.i64, .i64, .i64, .u64, .i64], .v], .v] [.v (.agg (chA c)), .node [.v (.int .i64 no), .v (.int .i64 h0), .v (.int .i64 h1), .structs l, .v (.int .i64 rt)], .v (.agg ⟨[.int .i64 d, .int .i64 f, .int .i64 i, .int .i64 a, .int .u64 q, .int .i64 e, .int .u64 k, .int .i64 r]⟩)] 0).2 (retP Try.prog Try.f6.results.toList 12 (⟨[.v (.bool true)], []⟩ : Post)) :=
  Eq.mpr (by kernel_rfl) (vc_smoves O Y c no h0 h1 rt l d f i a q e k r F hy hc g0 g1 g2 g3 ec)
theorem ok_smoves (I : Sx.Interp) (O : OO) (hO : O = oo) (Y : OY) (hY : Y = yO O) : Sx.SpecOK I Try.prog 6 (pspec [.v, .agg [.v, .v, .v, .roS [.i64, .i64, .i64, .u64, .i64], .v], .v] false (g_smoves O Y)) := by
  refine spec_patI (spS21_ok I O hO Y hY) (by kernel_rfl) (fun ds => match ds with | [.v (.agg ch), .node [.v (.int .i64 no), .v (.int .i64 h0), .v (.int .i64 h1), .structs l, .v (.int .i64 rt)], .v (.agg ⟨[.int .i64 d, .int .i64 f, .int .i64 i, .int .i64 a, .int .u64 q, .int .i64 e, .int .u64 k, .int .i64 r]⟩)] => [] | _ => []) Try.func6 (by kernel_rfl) (by kernel_rfl) rfl Try.ntmps6 (by decide) ?_ ?_
  · intro ds p bs F h
    unfold g_smoves at h
    split at h
    · simp only [Option.some.injEq, Prod.mk.injEq] at h
      obtain ⟨_, _, rfl⟩ := h
      kernel_rfl
    · cases h
  · intro ds bs F hl h
    unfold g_smoves at h
    split at h
    · rename_i ch no h0 h1 l rt d f i a q e k r
      simp only [Option.some.injEq, Prod.mk.injEq, Bool.and_eq_true] at h
      obtain ⟨⟨⟨⟨⟨hc, g0⟩, g1⟩, g2⟩, g3⟩, _, rfl⟩ := h
      obtain ⟨c, ec, rfl⟩ : ∃ c, cz ch = c ∧ ch = chA c := ⟨_, rfl, chB_eq hc⟩
      simp only [ec]
      exact wpc_smoves O Y c no h0 h1 rt l d f i a q e k r (fo_oo O hO) hY hc g0 g1 g2 g3 (ec)
    · cases h
end Go.Proofs.Ytgekiddgdjeaiaa
