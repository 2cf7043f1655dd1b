/- Sheet: the document's Same, and what the laws are made of: few, plain, done (printed by genSh.py; VCs by VcTool). -/
import Derived.Test.YtcdmmfelagbpdaaGreatSh6
namespace Go.Proofs.YtcdmmfelagbpdaaGreat
open Go.RowKit Go.Lib Ckp Cfd Cpd Sx
set_option linter.unusedVariables false
set_option linter.unusedSimpArgs false
set_option maxRecDepth 1000000
def sameB (no h0 h1 rt : Int) (l : List (List Int)) (no' h0' h1' rt' : Int) (l' : List (List Int)) : Bool :=
 bif (bif (bif (bif iBne no no' then true else !(iBeq h0 h0' && iBeq h1 h1')) then true else iBne rt rt') then true else iBne (l.length : Int) (l'.length : Int)) then false else decide (l = l')
def farI (x : Int) : Bool := bif iLt 36028797018963968 x then true else iLt x (-36028797018963968)
def fewB (h0 h1 rt : Int) (l : List (List Int)) : Bool :=
 bif (bif (bif (bif (bif (bif (bif iLt 20 (l.length : Int) then true else iLt 36028797018963968 h0) then true else iLt 36028797018963968 h1) then true else iLt h0 (-36028797018963968)) then true else iLt h1 (-36028797018963968)) then true else iLt 1048576 rt) then true else iLt rt (-1048576)) then false else l.all fun x => !(farI (x.getD 2 0))
def actK (d : Int) : Int := IntKind.i64.wrap (((BitVec.ofInt 64 d &&& BitVec.ofNat 64 3).toNat : Nat) : Int)
def dE (O : OO) (c : Nat → Int) (no h0 h1 rt : Int) (l : List (List Int)) (d f i a q e k r : Int) : Int := bif iBeq (actK d) 0 then addE O c no h0 h1 rt l f i a q e else bif iBeq (actK d) 1 then setE O c no h0 h1 rt l f i k else bif iBeq (actK d) 2 then failE O c no h0 h1 rt l f i else rateE O c no h0 h1 rt l r
def dH0 (h0 : Int) (l : List (List Int)) (d f i a : Int) : Int := bif iBeq (actK d) 0 then hsub f h0 a 0 else bif iBeq (actK d) 1 then hadd f h0 (findC f i l 2) 1 else bif iBeq (actK d) 2 then hadd f h0 (findC f i l 2) 0 else h0
def dH1 (h1 : Int) (l : List (List Int)) (d f i a : Int) : Int := bif iBeq (actK d) 0 then hsub f h1 a 1 else bif iBeq (actK d) 1 then hadd f h1 (findC f i l 2) 0 else bif iBeq (actK d) 2 then hadd f h1 (findC f i l 2) 1 else h1
def dRt (rt d r : Int) : Int := bif iBeq (actK d) 0 then rt else bif iBeq (actK d) 1 then rt else bif iBeq (actK d) 2 then rt else r
def dL (l : List (List Int)) (d f i a q e : Int) : List (List Int) := bif iBeq (actK d) 0 then insC [f, i, a, q, e] l else bif iBeq (actK d) 1 then remC [findC f i l 0, findC f i l 1, findC f i l 2, findC f i l 3, findC f i l 4] l else bif iBeq (actK d) 2 then remC [findC f i l 0, findC f i l 1, findC f i l 2, findC f i l 3, findC f i l 4] l else l
def zTwo (O : OO) : Bool := O.isH (AV fun _ => 0) && O.isH (AV fun j => (1 :: List.replicate 31 (0 : Int)).getD j 0)
def kb (O : OO) (h n : Int) : Int := O.pbase (O.ffrom (AV (O.tag (ByteArray.mk (Array.mk [107, 105, 116])) [h :: List.replicate 31 0, [n]])))
def plL (O : OO) : List Int := 1 :: List.replicate 31 0 ++ [0, 5000, kb O 0 1, kb O 0 2, kb O 0 3, kb O 0 4, kb O 0 5, kb O 1 1, kb O 1 2, kb O 1 3, kb O 1 4, kb O 1 5, 100, 100, 10, 16, 1, 5000, 100, 100, 10, 16, 1, 5000, 0]
def plA (O : OO) (Y : OY) : Array Value := chA fun j => (plL O).getD j 0
def spS19 (O : OO) (Y : OY) (f : FuncId) : Option Sx.Spec := match f with
 | 10 => some (pspec [.v, .agg [.v, .v, .v, .roS [.i64, .i64, .i64, .u64, .i64], .v], .v] true (g_sadd O Y))
 | 12 => some (pspec [.v, .agg [.v, .v, .v, .roS [.i64, .i64, .i64, .u64, .i64], .v], .v, .v, .v] true (g_sset O Y))
 | 14 => some (pspec [.v, .agg [.v, .v, .v, .roS [.i64, .i64, .i64, .u64, .i64], .v], .v, .v] true (g_sfail O Y))
 | f => spS18 O Y f
theorem spS19_ok (I : Sx.Interp) (O : OO) (hO : O = oo) (Y : OY) (hY : Y = yO O) : ∀ f s, spS19 O Y f = some s → Sx.SpecOK I Tryz.prog f s := by
 intro f s h
 unfold spS19 at h
 split at h
 · cases h; exact ok_sadd I O hO Y hY
 · cases h; exact ok_sset I O hO Y hY
 · cases h; exact ok_sfail I O hO Y hY
 ·exact spS18_ok I O hO Y hY _ s h
def g_same (O : OO) (Y : OY) (ds : List Dt) : Option (Bool × List Bool × (List Bool → Post)) := match ds with
 | [.node [.v (.int .i64 no), .v (.int .i64 h0), .v (.int .i64 h1), .structs l, .v (.int .i64 rt)], .node [.v (.int .i64 no'), .v (.int .i64 h0'), .v (.int .i64 h1'), .structs l', .v (.int .i64 rt')]] => some ((Nat.ble l.length 1000) && (cnd l) && (Nat.ble l'.length 1000) && (cnd l'), [], fun _ => ⟨[.v (.bool (sameB no h0 h1 rt l no' h0' h1' rt' l'))], []⟩)
 | _ => none
def g_few (O : OO) (Y : OY) (ds : List Dt) : Option (Bool × List Bool × (List Bool → Post)) := match ds with
 | [.node [.v (.int .i64 no), .v (.int .i64 h0), .v (.int .i64 h1), .structs l, .v (.int .i64 rt)]] => some (true, [], fun _ => ⟨[.v (.bool (fewB h0 h1 rt l))], []⟩)
 | _ => none
def g_plain (O : OO) (Y : OY) (l : List Value) : Option (Bool × Value) := match l with
 | [] => some ((zTwo O), .agg (plA O Y))
 | _ => none
def g_done (O : OO) (Y : OY) (ds : List Dt) : Option (Bool × List Bool × (List Bool → Post)) := match ds with
 | [.v (.agg ch), .node [.v (.int .i64 no), .v (.int .i64 h0), .v (.int .i64 h1), .structs l, .v (.int .i64 rt)], .v (.agg ⟨[.int .i64 d, .int .i64 f, .int .i64 i, .int .i64 a, .int .u64 q, .int .i64 e, .int .u64 k, .int .i64 r]⟩)] => some ((chB ch) && (Nat.ble l.length 1000) && (cnd l) && (inU q 18446744073709551616) && (inU k 18446744073709551616), [], fun _ => ⟨[.agg [.v (.int .i64 (bif iBeq (dE O (cz ch) no h0 h1 rt l d f i a q e k r) 0 then no else 0)), .v (.int .i64 (bif iBeq (dE O (cz ch) no h0 h1 rt l d f i a q e k r) 0 then (dH0 h0 l d f i a) else 0)), .v (.int .i64 (bif iBeq (dE O (cz ch) no h0 h1 rt l d f i a q e k r) 0 then (dH1 h1 l d f i a) else 0)), .row 1, .v (.int .i64 (bif iBeq (dE O (cz ch) no h0 h1 rt l d f i a q e k r) 0 then (dRt rt d r) else 0))], .v (.int .i64 (dE O (cz ch) no h0 h1 rt l d f i a q e k r))], [(1, .ro (.structs [.i64, .i64, .i64, .u64, .i64] (bif iBeq (dE O (cz ch) no h0 h1 rt l d f i a q e k r) 0 then (dL l d f i a q e) else [])))]⟩)
 | _ => none