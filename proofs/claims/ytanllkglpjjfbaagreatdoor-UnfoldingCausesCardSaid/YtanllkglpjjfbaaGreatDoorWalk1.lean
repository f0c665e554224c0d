/- The functions marked, used, Equal, EqualFunc, IndexFunc and ContainsFunc on the abstract machine. -/
import Derived.Test.YtanllkglpjjfbaaGreatDoorRules
import Derived.Test.YtanllkglpjjfbaaGreatDoorProg
import Derived.KernelRfl
set_option linter.unusedVariables false
set_option linter.unusedSimpArgs false
namespace Go.Abs
open Go Go.Proofs
variable {ng n : Nat} {call : ACall} {v off i len : Nat} {lim : Option Nat} {k : IntKind}

theorem info3 : Tryz.prog.info? 3 = some Tryz.t3 := by kernel_rfl
theorem info4 : Tryz.prog.info? 4 = some Tryz.t4 := by kernel_rfl
theorem info33 : Tryz.prog.info? 33 = some Tryz.t33 := by kernel_rfl
theorem info50 : Tryz.prog.info? 50 = some Tryz.t50 := by kernel_rfl
theorem info53 : Tryz.prog.info? 53 = some Tryz.t53 := by kernel_rfl

theorem fa25_0 : aFieldAddr Tryz.prog 25 (.ptr v off) 0 = some (.ptr v (off + 0)) := by kernel_rfl
theorem fa25_1 : aFieldAddr Tryz.prog 25 (.ptr v off) 1 = some (.ptr v (off + 1)) := by kernel_rfl
theorem fa50_1 : aFieldAddr Tryz.prog 50 (.ptr v off) 1 = some (.ptr v (off + 1)) := by kernel_rfl
theorem fa50_2 : aFieldAddr Tryz.prog 50 (.ptr v off) 2 = some (.ptr v (off + 2)) := by kernel_rfl
theorem fa53_4 : aFieldAddr Tryz.prog 53 (.ptr v off) 4 = some (.ptr v (off + 4)) := by kernel_rfl

theorem ld_one {g : Nat → Option Row} {c : AVal} (h : readCells g v off 1 = some [c]) {t : TypeId} {d : TypeDesc} {j : TypeInfo} (ht : Tryz.prog.underlying t = some d) (hj : Tryz.prog.info? t = some j) (hd : isAggD d = false) : aLoad Tryz.prog g t (.ptr v off) = some c := by
  simp only [aLoad, ht, hj, hd, h]
theorem ld3 {g : Nat → Option Row} {c : AVal} (h : readCells g v off 1 = some [c]) : aLoad Tryz.prog g 3 (.ptr v off) = some c := ld_one h Tryz.underlying3 info3 rfl
theorem ld4 {g : Nat → Option Row} {c : AVal} (h : readCells g v off 1 = some [c]) : aLoad Tryz.prog g 4 (.ptr v off) = some c := ld_one h Tryz.underlying4 info4 rfl
theorem info22 : Tryz.prog.info? 22 = some Tryz.t22 := by kernel_rfl
theorem info23 : Tryz.prog.info? 23 = some Tryz.t23 := by kernel_rfl
theorem ld22 {g : Nat → Option Row} {c : AVal} (h : readCells g v off 1 = some [c]) : aLoad Tryz.prog g 22 (.ptr v off) = some c := ld_one h Tryz.underlying22 info22 rfl
theorem ld23 {g : Nat → Option Row} {c : AVal} (h : readCells g v off 1 = some [c]) : aLoad Tryz.prog g 23 (.ptr v off) = some c := ld_one h Tryz.underlying23 info23 rfl
theorem ld33 {g : Nat → Option Row} {c : AVal} (h : readCells g v off 1 = some [c]) : aLoad Tryz.prog g 33 (.ptr v off) = some c := ld_one h Tryz.underlying33 info33 rfl
theorem ld_agg {g : Nat → Option Row} {cs : List AVal} {m : Nat} (h : readCells g v off m = some cs) {t : TypeId} {d : TypeDesc} {j : TypeInfo} (ht : Tryz.prog.underlying t = some d) (hj : Tryz.prog.info? t = some j) (hd : isAggD d = true) (hm : j.size = m) : aLoad Tryz.prog g t (.ptr v off) = some (.agg cs) := by
  simp only [aLoad, ht, hj, hd, hm, h]
theorem info25 : Tryz.prog.info? 25 = some Tryz.t25 := by kernel_rfl
theorem ld50 {g : Nat → Option Row} {cs : List AVal} (h : readCells g v off 3 = some cs) : aLoad Tryz.prog g 50 (.ptr v off) = some (.agg cs) := ld_agg h Tryz.underlying50 info50 rfl rfl
theorem ld53 {g : Nat → Option Row} {cs : List AVal} (h : readCells g v off 5 = some cs) : aLoad Tryz.prog g 53 (.ptr v off) = some (.agg cs) := ld_agg h Tryz.underlying53 info53 rfl rfl
theorem ld25 {g : Nat → Option Row} {cs : List AVal} (h : readCells g v off 2 = some cs) : aLoad Tryz.prog g 25 (.ptr v off) = some (.agg cs) := ld_agg h Tryz.underlying25 info25 rfl rfl

theorem zero3 : zeroOf Tryz.prog 3 = some (.int .i64 0) := by kernel_rfl
theorem zero33 : zeroOf Tryz.prog 33 = some .nilSlice := by kernel_rfl

theorem app33 {H : AHeap} {m : Nat} {s x : AVal} {new : List AVal} (h : RSl H.objs.get 1 m x new) : aAppendB Tryz.prog H [33, 33] [s, x] = aAppend H 1 8 s m new := by
  have hs : Tryz.t3.size = 1 := rfl
  have hb : Tryz.t3.bytes = 8 := rfl
  simp only [aAppendB, Tryz.underlying33, info3, zero3, hs, hb, AVal.cells, List.length_singleton, h.lenOf, h.cells]
theorem app28 {H : AHeap} {m : Nat} {s x : AVal} {new : List AVal} (h : RSl H.objs.get 1 m x new) : aAppendB Tryz.prog H [28, 28] [s, x] = aAppend H 1 24 s m new := by
  have hs : Tryz.t33.size = 1 := rfl
  have hb : Tryz.t33.bytes = 24 := rfl
  simp only [aAppendB, Tryz.underlying28, info33, zero33, hs, hb, AVal.cells, List.length_singleton, h.lenOf, h.cells]

theorem bs33_1 {a : Int} : nBuildSlice Tryz.prog 33 1 (some [(0, .int .i64 a)]) = some ([.int .i64 a], 1, some 1) := by kernel_rfl
theorem bs33_0 : nBuildSlice Tryz.prog 33 0 (some []) = some ([], 1, some 0) := by kernel_rfl

theorem aBin_inc {P : Program} {t : TypeId} {i : Nat} (h : i ≤ 1000000) : aBin P .add t (.int .i64 (Int.ofNat i)) (.int .i64 1) = some (.int .i64 (Int.ofNat (i + 1))) := by
  rw [aBin_add (by unfold InK; simp only [Int.ofNat_eq_natCast]; omega)]
  rfl
theorem ofValue_int {k : IntKind} {a : Int} : ofValue (.int k a) = some (.int k a) := rfl
theorem ofValue_bool {b : Bool} : ofValue (.bool b) = some (.bool b) := rfl
theorem ofValue_nil : ofValue (.slice none 0 0) = some .nilSlice := rfl

end Go.Abs

namespace Go.Abs
open Go Go.Proofs
variable {call : ACall}
set_option maxRecDepth 4000

def ints (zs : List Int) : List AVal := zs.map (AVal.int .i64)
def markedTo (bs : List Bool) (i : Nat) : List Int := ((List.range i).filter (fun k => bs.getD k false)).map Int.ofNat

def FreshFm (H : AHeap) (fm : Option Nat) : Prop := fm = none ∨ ∃ f, H.next ≤ f ∧ fm = some f

theorem Fr.into {fm : Option Nat} {H K K' : AHeap} (g : Good H) (h : Fr none H K) (k : Fr fm K K') (hfm : FreshFm H fm) : Fr none H K' := by
  refine ⟨fun u r hu _ => k.row u r (h.row u r hu (by simp)) ?_, fun f m hf _ => k.fams f m (h.fams f m hf (by simp)) ?_, Nat.le_trans h.next k.next⟩
  · have := (g.wf u r hu).2
    rcases hfm with rfl | ⟨f, hf, rfl⟩
    · simp
    · simp; omega
  · have := (g.mem f m hf).1
    rcases hfm with rfl | ⟨f, hf, rfl⟩
    · simp
    · simp; omega
theorem FreshFm.into {fm fm' : Option Nat} {H K : AHeap} (hfm : FreshFm H fm) (hn : H.next ≤ K.next) (h : fm' = fm ∨ ∃ f, K.next ≤ f ∧ fm' = some f) : FreshFm H fm' := by
  rcases h with rfl | ⟨f, hf, rfl⟩
  · exact hfm
  · exact .inr ⟨f, by omega, rfl⟩

theorem marked_spec {H : AHeap} (g : Good H) {s : AVal} {bs : List Bool} (hs : RSl H.objs.get 1 bs.length s (bs.map AVal.bool)) (hb : bs.length ≤ 1000) :
    ∃ r, FnRes Tryz.prog 1 call 21 [s] H r ∧ ∃ fm, OwnSl r.2 1 (markedTo bs bs.length).length r.1 (ints (markedTo bs bs.length)) fm ∧ Fr none H r.2 ∧ Good r.2 ∧ FreshFm H fm := by
  refine fnRes_of_W Tryz.func21 rfl ?_
  show W Tryz.prog 1 call 20 _ _ _ _
  refine W_seq (W_region (by simp +decide only [aRegion_plain, aOps_cons2, aOps_nil, wantedA, if_true, aOp, cls, pOp, rOp, nOp, eOp, opd_tmp, opd_const, opd_func, withH, getT_setT2, pCall, rCall, eCallee, eApp, eStore, pBin, pUn, pField, pIndexAddr, pExtract, pPick, rLoad, nDone, newVal, opds_nil, opds_cons2, consO_some, partsOf, setT_no, aBin_lss, aBin_neq, aBin_geq, aBin_gtr, aBin_leq, aBin_eql, aUn_not, ofValue_int, ofValue_bool, ofValue_nil, if_false]; rfl) ?_)
  refine W_seq (W_region (by simp +decide only [aRegion_plain, aOps_cons2, aOps_nil, wantedA, if_true, aOp, cls, pOp, rOp, nOp, eOp, opd_tmp, opd_const, opd_func, withH, getT_setT2, pCall, rCall, eCallee, eApp, eStore, pBin, pUn, pField, pIndexAddr, pExtract, pPick, rLoad, nDone, newVal, opds_nil, opds_cons2, consO_some, partsOf, setT_no, aBin_lss, aBin_neq, aBin_geq, aBin_gtr, aBin_leq, aBin_eql, aUn_not, ofValue_int, ofValue_bool, ofValue_nil, if_false]; rfl) ?_)
  refine W_seq (W_seq (W_region (by simp +decide only [aRegion_plain, aOps_cons2, aOps_nil, wantedA, if_true, aOp, cls, pOp, rOp, nOp, eOp, opd_tmp, opd_const, opd_func, withH, getT_setT2, pCall, rCall, eCallee, eApp, eStore, pBin, pUn, pField, pIndexAddr, pExtract, pPick, rLoad, nDone, newVal, opds_nil, opds_cons2, consO_some, partsOf, setT_no, aBin_lss, aBin_neq, aBin_geq, aBin_gtr, aBin_leq, aBin_eql, aUn_not, ofValue_int, ofValue_bool, ofValue_nil, if_false]; rfl) ?_))
  refine W_block (W_loop_ind (fun j T K => ∃ i fm, j + i = bs.length ∧ getT T 4 = .int .i64 (.ofNat i) ∧ getT T 0 = s ∧ OwnSl K 1 (markedTo bs i).length (getT T 3) (ints (markedTo bs i)) fm ∧ Fr none H K ∧ Good K ∧ FreshFm H fm) ?_ bs.length _ _ ?_)
  · rintro j T K ⟨i, fm, hi, h4, h0, h3, hfr, gK, hfm⟩
    have hsK := hs.keep hfr
    refine W_seq (W_seq (W_region (by simp +decide only [aRegion_plain, aOps_cons2, aOps_nil, wantedA, if_true, aOp, cls, pOp, rOp, nOp, eOp, opd_tmp, opd_const, opd_func, withH, getT_setT2, pCall, rCall, eCallee, eApp, eStore, pBin, pUn, pField, pIndexAddr, pExtract, pPick, rLoad, nDone, newVal, opds_nil, opds_cons2, consO_some, partsOf, setT_no, aBin_lss, aBin_neq, aBin_geq, aBin_gtr, aBin_leq, aBin_eql, aUn_not, ofValue_int, ofValue_bool, ofValue_nil, if_false, h4, h0, hsK.aLen Tryz.underlying58]; rfl) ?_))
    refine W_cond (v := decide (Int.ofNat i < Int.ofNat bs.length)) (by simp +decide only [aRegion_plain, aOps_cons2, aOps_nil, wantedA, if_true, aOp, cls, pOp, rOp, nOp, eOp, opd_tmp, opd_const, opd_func, withH, getT_setT2, pCall, rCall, eCallee, eApp, eStore, pBin, pUn, pField, pIndexAddr, pExtract, pPick, rLoad, nDone, newVal, opds_nil, opds_cons2, consO_some, partsOf, setT_no, aBin_lss, aBin_neq, aBin_geq, aBin_gtr, aBin_leq, aBin_eql, aUn_not, ofValue_int, ofValue_bool, ofValue_nil, if_false]) (fun hlt => ?_) (fun hge => ?_)
    · have hlt : i < bs.length := by have := of_decide_eq_true hlt; simpa using this
      refine W_skip ?_
      obtain ⟨v, off, hix, _, hrd⟩ := hsK.index hlt Tryz.underlying58 info4 rfl
      have hrd := hrd 0 (.bool (bs.getD i false)) (by omega) (by simp [List.getD_eq_getElem?_getD, List.getElem?_eq_getElem hlt])
      rw [Nat.add_zero] at hrd
      refine W_seq (W_block (W_seq (W_region (by simp +decide only [aRegion_plain, aOps_cons2, aOps_nil, wantedA, if_true, aOp, cls, pOp, rOp, nOp, eOp, opd_tmp, opd_const, opd_func, withH, getT_setT2, pCall, rCall, eCallee, eApp, eStore, pBin, pUn, pField, pIndexAddr, pExtract, pPick, rLoad, nDone, newVal, opds_nil, opds_cons2, consO_some, partsOf, setT_no, aBin_lss, aBin_neq, aBin_geq, aBin_gtr, aBin_leq, aBin_eql, aUn_not, ofValue_int, ofValue_bool, ofValue_nil, if_false, h4, h0, hix, ld4 hrd]; rfl) ?_)))
      refine W_cond (v := bs.getD i false) (by simp +decide only [aRegion_plain, aOps_cons2, aOps_nil, wantedA, if_true, aOp, cls, pOp, rOp, nOp, eOp, opd_tmp, opd_const, opd_func, withH, getT_setT2, pCall, rCall, eCallee, eApp, eStore, pBin, pUn, pField, pIndexAddr, pExtract, pPick, rLoad, nDone, newVal, opds_nil, opds_cons2, consO_some, partsOf, setT_no, aBin_lss, aBin_neq, aBin_geq, aBin_gtr, aBin_leq, aBin_eql, aUn_not, ofValue_int, ofValue_bool, ofValue_nil, if_false]) (fun hbt => ?_) (fun hbf => ?_)
      · -- marked
        have hm : markedTo bs (i + 1) = markedTo bs i ++ [Int.ofNat i] := by
          simp only [markedTo, List.range_succ, List.filter_append, List.map_append]
          rw [show List.filter (fun k => bs.getD k false) [i] = [i] by simp only [List.filter, hbt]]; rfl
        have hml : (markedTo bs i).length ≤ i := by
          simp only [markedTo, List.length_map]
          exact Nat.le_trans (List.length_filter_le _ _) (by simp)
        have g1 := good_alloc gK [.int .i64 (Int.ofNat i)] true 1
        have fr1 := fr_alloc gK [.int .i64 (Int.ofNat i)] true 1
        have o1 := own_alloc K [.int .i64 (Int.ofNat i)] true 1
        have r1 : RSl (alloc K [.int .i64 (Int.ofNat i)] true 1).objs.get 1 1 (.slice K.next 0 1 none) [.int .i64 (Int.ofNat i)] := ⟨rfl, .inr ⟨_, 0, none, _, rfl, o1.row, by simp, by simp⟩⟩
        obtain ⟨s', H', fm', ha, ho, hf, g', hfm'⟩ := append_own (k := 1) (bytes := 8) (new := [.int .i64 (Int.ofNat i)]) g1 (by omega) (h3.keep0 fr1) rfl rfl (by unfold maxNeed; omega) (by unfold maxNeed; omega)
        refine W_region (by simp +decide only [aRegion_plain, aOps_cons2, aOps_nil, wantedA, if_true, aOp, cls, pOp, rOp, nOp, eOp, opd_tmp, opd_const, opd_func, withH, getT_setT2, pCall, rCall, eCallee, eApp, eStore, pBin, pUn, pField, pIndexAddr, pExtract, pPick, rLoad, nDone, newVal, opds_nil, opds_cons2, consO_some, partsOf, setT_no, aBin_lss, aBin_neq, aBin_geq, aBin_gtr, aBin_leq, aBin_eql, aUn_not, ofValue_int, ofValue_bool, ofValue_nil, if_false, h4, bs33_1, app33 r1, ha]; rfl) ?_
        refine W_region (by simp +decide only [aRegion_plain, aOps_cons2, aOps_nil, wantedA, if_true, aOp, cls, pOp, rOp, nOp, eOp, opd_tmp, opd_const, opd_func, withH, getT_setT2, pCall, rCall, eCallee, eApp, eStore, pBin, pUn, pField, pIndexAddr, pExtract, pPick, rLoad, nDone, newVal, opds_nil, opds_cons2, consO_some, partsOf, setT_no, aBin_lss, aBin_neq, aBin_geq, aBin_gtr, aBin_leq, aBin_eql, aUn_not, ofValue_int, ofValue_bool, ofValue_nil, if_false, h4, aBin_inc (show i ≤ 1000000 by omega)]; rfl) ?_
        refine ⟨j - 1, by omega, i + 1, fm', by omega, by simp +decide only [aRegion_plain, aOps_cons2, aOps_nil, wantedA, if_true, aOp, cls, pOp, rOp, nOp, eOp, opd_tmp, opd_const, opd_func, withH, getT_setT2, pCall, rCall, eCallee, eApp, eStore, pBin, pUn, pField, pIndexAddr, pExtract, pPick, rLoad, nDone, newVal, opds_nil, opds_cons2, consO_some, partsOf, setT_no, aBin_lss, aBin_neq, aBin_geq, aBin_gtr, aBin_leq, aBin_eql, aUn_not, ofValue_int, ofValue_bool, ofValue_nil, if_false], by simp +decide only [aRegion_plain, aOps_cons2, aOps_nil, wantedA, if_true, aOp, cls, pOp, rOp, nOp, eOp, opd_tmp, opd_const, opd_func, withH, getT_setT2, pCall, rCall, eCallee, eApp, eStore, pBin, pUn, pField, pIndexAddr, pExtract, pPick, rLoad, nDone, newVal, opds_nil, opds_cons2, consO_some, partsOf, setT_no, aBin_lss, aBin_neq, aBin_geq, aBin_gtr, aBin_leq, aBin_eql, aUn_not, ofValue_int, ofValue_bool, ofValue_nil, if_false, h0], ?_, Fr.into g (hfr.trans fr1) hf hfm, g', ?_⟩
        · have : (markedTo bs (i + 1)).length = (markedTo bs i).length + 1 := by rw [hm]; simp
          rw [this, hm]
          simp +decide only [aRegion_plain, aOps_cons2, aOps_nil, wantedA, if_true, aOp, cls, pOp, rOp, nOp, eOp, opd_tmp, opd_const, opd_func, withH, getT_setT2, pCall, rCall, eCallee, eApp, eStore, pBin, pUn, pField, pIndexAddr, pExtract, pPick, rLoad, nDone, newVal, opds_nil, opds_cons2, consO_some, partsOf, setT_no, aBin_lss, aBin_neq, aBin_geq, aBin_gtr, aBin_leq, aBin_eql, aUn_not, ofValue_int, ofValue_bool, ofValue_nil, if_false]
          have e : ints (markedTo bs i ++ [Int.ofNat i]) = ints (markedTo bs i) ++ [.int .i64 (Int.ofNat i)] := by simp [ints]
          rw [e]; exact ho
        · exact hfm.into (Nat.le_trans hfr.next fr1.next) hfm'
      · -- not marked
        have hm : markedTo bs (i + 1) = markedTo bs i := by
          simp only [markedTo, List.range_succ, List.filter_append, List.map_append]
          rw [show List.filter (fun k => bs.getD k false) [i] = [] by simp only [List.filter, hbf]]; simp
        refine W_skip (W_region (by simp +decide only [aRegion_plain, aOps_cons2, aOps_nil, wantedA, if_true, aOp, cls, pOp, rOp, nOp, eOp, opd_tmp, opd_const, opd_func, withH, getT_setT2, pCall, rCall, eCallee, eApp, eStore, pBin, pUn, pField, pIndexAddr, pExtract, pPick, rLoad, nDone, newVal, opds_nil, opds_cons2, consO_some, partsOf, setT_no, aBin_lss, aBin_neq, aBin_geq, aBin_gtr, aBin_leq, aBin_eql, aUn_not, ofValue_int, ofValue_bool, ofValue_nil, if_false, h4, aBin_inc (show i ≤ 1000000 by omega)]; rfl) ?_)
        refine ⟨j - 1, by omega, i + 1, fm, by omega, by simp +decide only [aRegion_plain, aOps_cons2, aOps_nil, wantedA, if_true, aOp, cls, pOp, rOp, nOp, eOp, opd_tmp, opd_const, opd_func, withH, getT_setT2, pCall, rCall, eCallee, eApp, eStore, pBin, pUn, pField, pIndexAddr, pExtract, pPick, rLoad, nDone, newVal, opds_nil, opds_cons2, consO_some, partsOf, setT_no, aBin_lss, aBin_neq, aBin_geq, aBin_gtr, aBin_leq, aBin_eql, aUn_not, ofValue_int, ofValue_bool, ofValue_nil, if_false], by simp +decide only [aRegion_plain, aOps_cons2, aOps_nil, wantedA, if_true, aOp, cls, pOp, rOp, nOp, eOp, opd_tmp, opd_const, opd_func, withH, getT_setT2, pCall, rCall, eCallee, eApp, eStore, pBin, pUn, pField, pIndexAddr, pExtract, pPick, rLoad, nDone, newVal, opds_nil, opds_cons2, consO_some, partsOf, setT_no, aBin_lss, aBin_neq, aBin_geq, aBin_gtr, aBin_leq, aBin_eql, aUn_not, ofValue_int, ofValue_bool, ofValue_nil, if_false, h0], ?_, hfr, gK, hfm⟩
        rw [hm]
        simp +decide only [aRegion_plain, aOps_cons2, aOps_nil, wantedA, if_true, aOp, cls, pOp, rOp, nOp, eOp, opd_tmp, opd_const, opd_func, withH, getT_setT2, pCall, rCall, eCallee, eApp, eStore, pBin, pUn, pField, pIndexAddr, pExtract, pPick, rLoad, nDone, newVal, opds_nil, opds_cons2, consO_some, partsOf, setT_no, aBin_lss, aBin_neq, aBin_geq, aBin_gtr, aBin_leq, aBin_eql, aUn_not, ofValue_int, ofValue_bool, ofValue_nil, if_false]
        exact h3
    · have hge : i = bs.length := by have := of_decide_eq_false hge; simp at this; omega
      subst hge
      refine W_exit ?_
      show W Tryz.prog 1 call 20 _ _ _ _
      refine W_seq (W_region (by simp +decide only [aRegion_plain, aOps_cons2, aOps_nil, wantedA, if_true, aOp, cls, pOp, rOp, nOp, eOp, opd_tmp, opd_const, opd_func, withH, getT_setT2, pCall, rCall, eCallee, eApp, eStore, pBin, pUn, pField, pIndexAddr, pExtract, pPick, rLoad, nDone, newVal, opds_nil, opds_cons2, consO_some, partsOf, setT_no, aBin_lss, aBin_neq, aBin_geq, aBin_gtr, aBin_leq, aBin_eql, aUn_not, ofValue_int, ofValue_bool, ofValue_nil, if_false]; rfl) (W_ret ⟨by simp, _, rfl, fm, ?_, hfr, gK, hfm⟩))
      simp +decide only [aRegion_plain, aOps_cons2, aOps_nil, wantedA, if_true, aOp, cls, pOp, rOp, nOp, eOp, opd_tmp, opd_const, opd_func, withH, getT_setT2, pCall, rCall, eCallee, eApp, eStore, pBin, pUn, pField, pIndexAddr, pExtract, pPick, rLoad, nDone, newVal, opds_nil, opds_cons2, consO_some, partsOf, setT_no, aBin_lss, aBin_neq, aBin_geq, aBin_gtr, aBin_leq, aBin_eql, aUn_not, ofValue_int, ofValue_bool, ofValue_nil, if_false, packA]
      exact h3
  · refine ⟨0, none, by omega, by simp +decide only [aRegion_plain, aOps_cons2, aOps_nil, wantedA, if_true, aOp, cls, pOp, rOp, nOp, eOp, opd_tmp, opd_const, opd_func, withH, getT_setT2, pCall, rCall, eCallee, eApp, eStore, pBin, pUn, pField, pIndexAddr, pExtract, pPick, rLoad, nDone, newVal, opds_nil, opds_cons2, consO_some, partsOf, setT_no, aBin_lss, aBin_neq, aBin_geq, aBin_gtr, aBin_leq, aBin_eql, aUn_not, ofValue_int, ofValue_bool, ofValue_nil, if_false]; rfl, by simp +decide only [aRegion_plain, aOps_cons2, aOps_nil, wantedA, if_true, aOp, cls, pOp, rOp, nOp, eOp, opd_tmp, opd_const, opd_func, withH, getT_setT2, pCall, rCall, eCallee, eApp, eStore, pBin, pUn, pField, pIndexAddr, pExtract, pPick, rLoad, nDone, newVal, opds_nil, opds_cons2, consO_some, partsOf, setT_no, aBin_lss, aBin_neq, aBin_geq, aBin_gtr, aBin_leq, aBin_eql, aUn_not, ofValue_int, ofValue_bool, ofValue_nil, if_false]; rfl, ?_, Fr.refl _ _, g, .inl rfl⟩
    simp +decide only [aRegion_plain, aOps_cons2, aOps_nil, wantedA, if_true, aOp, cls, pOp, rOp, nOp, eOp, opd_tmp, opd_const, opd_func, withH, getT_setT2, pCall, rCall, eCallee, eApp, eStore, pBin, pUn, pField, pIndexAddr, pExtract, pPick, rLoad, nDone, newVal, opds_nil, opds_cons2, consO_some, partsOf, setT_no, aBin_lss, aBin_neq, aBin_geq, aBin_gtr, aBin_leq, aBin_eql, aUn_not, ofValue_int, ofValue_bool, ofValue_nil, if_false]
    exact ⟨rfl, .inl ⟨rfl, rfl, rfl⟩⟩
end Go.Abs

namespace Go.Abs
open Go Go.Proofs
variable {call : ACall}
set_option maxRecDepth 4000

theorem ints_one (zs : List Int) : (ints zs).all AVal.oneCell = true := by simp [ints, AVal.oneCell]
theorem ints_length (zs : List Int) : (ints zs).length = zs.length := by simp [ints]
theorem ints_append (a b : List Int) : ints (a ++ b) = ints a ++ ints b := by simp [ints]

theorem readCells_at {g : Nat → Option Row} {v off : Nat} {r : Row} {x : AVal} (h : g v = some r) (hx : r.cells[off]? = some x) : readCells g v off 1 = some [x] := by
  have hlt : off < r.cells.length := (List.getElem?_eq_some_iff.1 hx).1
  simp only [readCells, h]
  rw [Nat.ble_eq_true_of_le (by omega)]
  simp only
  rw [List.drop_eq_getElem_cons hlt]
  rw [List.getElem?_eq_getElem hlt] at hx
  cases hx
  rfl

theorem used20_spec {H : AHeap} (g : Good H) {ru sN sE : AVal} {z1 z2 : List Int} (h1 : RSl H.objs.get 1 z1.length sN (ints z1)) (h2 : RSl H.objs.get 1 z2.length sE (ints z2)) (hb : z1.length ≤ 1000) (hb2 : z2.length ≤ 1000) :
    ∃ r, FnRes Tryz.prog 1 call 20 [.agg [ru, sN, sE]] H r ∧ ∃ fm, OwnSl r.2 1 (z1.length + z2.length) r.1 (ints (z1 ++ z2)) fm ∧ Fr none H r.2 ∧ Good r.2 ∧ FreshFm H fm := by
  refine fnRes_of_W Tryz.func20 rfl ?_
  show W Tryz.prog 1 call 10 _ _ _ _
  have g1 := good_alloc g [ru, sN, sE] true 1
  have f1 := fr_alloc g [ru, sN, sE] true 1
  have o1 := own_alloc H [ru, sN, sE] true 1
  generalize hH1 : alloc H [ru, sN, sE] true 1 = H1 at g1 f1 o1
  have hT0 : getT (setArgs [.agg [ru, sN, sE]] 0 .nil) 0 = .agg [ru, sN, sE] := rfl
  refine W_seq (W_region (by simp +decide only [aRegion_plain, aOps_cons2, aOps_nil, wantedA, if_true, aOp, cls, pOp, rOp, nOp, eOp, opd_tmp, opd_const, opd_func, withH, getT_setT2, pCall, rCall, eCallee, eApp, eStore, pBin, pUn, pField, pIndexAddr, pExtract, pPick, rLoad, nDone, newVal, opds_nil, opds_cons2, consO_some, partsOf, setT_no, aBin_lss, aBin_neq, aBin_geq, aBin_gtr, aBin_leq, aBin_eql, aUn_not, ofValue_int, ofValue_bool, ofValue_nil, if_false, hT0, nBox, AVal.cells, hH1]; rfl) ?_)
  have g2 := good_alloc g1 [] true 1
  have f2 := fr_alloc g1 [] true 1
  have o2 := own_alloc H1 [] true 1
  generalize hH2 : alloc H1 [] true 1 = H2 at g2 f2 o2
  have os2 : OwnSl H2 1 0 (.slice H1.next 0 0 none) [] (some H1.next) := ⟨rfl, .inr ⟨_, _, rfl, o2, rfl, by simp, by simp, rfl⟩⟩
  have r1 := (h1.keep f1).keep f2
  obtain ⟨s3, H3, fm3, ha3, os3, f3, g3, hfm3⟩ := append_own (k := z1.length) (bytes := 8) (new := ints z1) g2 (by omega) os2 (by rw [ints_length]; omega) (ints_one z1) (by unfold maxNeed; omega) (by unfold maxNeed; omega)
  have f3' : Fr none H1 H3 := Fr.into g1 f2 f3 (.inr ⟨H1.next, Nat.le_refl _, rfl⟩)
  have hfm3' : FreshFm H1 fm3 := FreshFm.into (.inr ⟨H1.next, Nat.le_refl _, rfl⟩) f2.next hfm3
  have r2 := (h2.keep f1).keep f3'
  obtain ⟨s4, H4, fm4, ha4, os4, f4, g4, hfm4⟩ := append_own (k := z2.length) (bytes := 8) (new := ints z2) g3 (by omega) os3 (by rw [ints_length]; omega) (ints_one z2) (by unfold maxNeed; omega) (by unfold maxNeed; omega)
  have f4' : Fr none H1 H4 := Fr.into g1 f3' f4 hfm3'
  have hfm4' : FreshFm H1 fm4 := FreshFm.into hfm3' f3'.next hfm4
  have rd : ∀ K : Tr Row, K.get H.next = some ⟨[ru, sN, sE], H.next, 0, true, false, 1⟩ → readCells K.get H.next (0 + 1) 1 = some [sN] ∧ readCells K.get H.next (0 + 2) 1 = some [sE] := fun K hK =>
    ⟨readCells_at hK rfl, readCells_at hK rfl⟩
  have rd1 := rd H1.objs o1.row
  have rd2 := rd H2.objs (f2.row _ _ o1.row (by simp))
  have rd3 := rd H3.objs (f3'.row _ _ o1.row (by simp))
  have rd4 := rd H4.objs (f4'.row _ _ o1.row (by simp))
  refine W_seq (W_region (aRegion_draw (by kernel_rfl) (by
    simp +decide only [aRegion_plain, aOps_cons2, aOps_nil, wantedA, if_true, aOp, cls, pOp, rOp, nOp, eOp, opd_tmp, opd_const, opd_func, withH, getT_setT2, pCall, rCall, eCallee, eApp, eStore, pBin, pUn, pField, pIndexAddr, pExtract, pPick, rLoad, nDone, newVal, opds_nil, opds_cons2, consO_some, partsOf, setT_no, aBin_lss, aBin_neq, aBin_geq, aBin_gtr, aBin_leq, aBin_eql, aUn_not, ofValue_int, ofValue_bool, ofValue_nil, if_false, aOpsR, recStep, fa50_1, fa50_2, bs33_0, hH2, ld33 rd2.1, ld33 rd3.2, app33 r1, app33 r2, ha3, ha4]; rfl) ?_) (W_ret ⟨by simp, _, rfl, fm4, ?_, f1.trans f4', g4, ?_⟩))
  · simp +decide only [List.forall_mem_cons, aRegion_plain, aOps_cons2, aOps_nil, wantedA, if_true, aOp, cls, pOp, rOp, nOp, eOp, opd_tmp, opd_const, opd_func, withH, getT_setT2, pCall, rCall, eCallee, eApp, eStore, pBin, pUn, pField, pIndexAddr, pExtract, pPick, rLoad, nDone, newVal, opds_nil, opds_cons2, consO_some, partsOf, setT_no, aBin_lss, aBin_neq, aBin_geq, aBin_gtr, aBin_leq, aBin_eql, aUn_not, ofValue_int, ofValue_bool, ofValue_nil, if_false, ld33 rd1.1, ld33 rd1.2, ld33 rd3.1, ld33 rd3.2, ld33 rd4.1, ld33 rd4.2, List.not_mem_nil, false_implies, implies_true, and_self, true_and]
  · simp +decide only [aRegion_plain, aOps_cons2, aOps_nil, wantedA, if_true, aOp, cls, pOp, rOp, nOp, eOp, opd_tmp, opd_const, opd_func, withH, getT_setT2, pCall, rCall, eCallee, eApp, eStore, pBin, pUn, pField, pIndexAddr, pExtract, pPick, rLoad, nDone, newVal, opds_nil, opds_cons2, consO_some, partsOf, setT_no, aBin_lss, aBin_neq, aBin_geq, aBin_gtr, aBin_leq, aBin_eql, aUn_not, ofValue_int, ofValue_bool, ofValue_nil, if_false, packA]
    rw [ints_append]
    rw [Nat.zero_add, List.nil_append] at os4
    exact os4
  · rcases hfm4' with rfl | ⟨f, hf, rfl⟩
    · exact .inl rfl
    · exact .inr ⟨f, Nat.le_trans f1.next hf, rfl⟩
end Go.Abs

namespace Go.Abs
open Go Go.Proofs
variable {call : ACall}
set_option maxRecDepth 4000

theorem ints_get {zs : List Int} {i : Nat} {z : Int} (h : zs[i]? = some z) : (ints zs)[i]? = some (.int .i64 z) := by simp [ints, h]

theorem equal_spec {H : AHeap} {s1 s2 : AVal} {z1 z2 : List Int} (h1 : RSl H.objs.get 1 z1.length s1 (ints z1)) (h2 : RSl H.objs.get 1 z2.length s2 (ints z2)) (hb : z1.length ≤ 1000) :
    FnRes Tryz.prog 1 call 9 [s1, s2] H (.bool (decide (z1 = z2)), H) := by
  suffices h : ∃ r, FnRes Tryz.prog 1 call 9 [s1, s2] H r ∧ r = (.bool (decide (z1 = z2)), H) by
    obtain ⟨r, h, rfl⟩ := h; exact h
  refine fnRes_of_W Tryz.func9 rfl ?_
  show W Tryz.prog 1 call 26 _ _ _ _
  have hT0 : getT (setArgs [s1, s2] 0 .nil) 0 = s1 := rfl
  have hT1 : getT (setArgs [s1, s2] 0 .nil) 1 = s2 := rfl
  refine W_seq (W_region (by simp +decide only [aRegion_plain, aOps_cons2, aOps_nil, wantedA, if_true, aOp, cls, pOp, rOp, nOp, eOp, opd_tmp, opd_const, opd_func, withH, getT_setT2, pCall, rCall, eCallee, eApp, eStore, pBin, pUn, pField, pIndexAddr, pExtract, pPick, rLoad, nDone, newVal, opds_nil, opds_cons2, consO_some, partsOf, setT_no, aBin_lss, aBin_neq, aBin_geq, aBin_gtr, aBin_leq, aBin_eql, aUn_not, ofValue_int, ofValue_bool, ofValue_nil, if_false]; rfl) ?_)
  refine W_seq (W_seq (W_region (by simp +decide only [aRegion_plain, aOps_cons2, aOps_nil, wantedA, if_true, aOp, cls, pOp, rOp, nOp, eOp, opd_tmp, opd_const, opd_func, withH, getT_setT2, pCall, rCall, eCallee, eApp, eStore, pBin, pUn, pField, pIndexAddr, pExtract, pPick, rLoad, nDone, newVal, opds_nil, opds_cons2, consO_some, partsOf, setT_no, aBin_lss, aBin_neq, aBin_geq, aBin_gtr, aBin_leq, aBin_eql, aUn_not, ofValue_int, ofValue_bool, ofValue_nil, if_false, hT0, hT1, h1.aLen Tryz.underlying33, h2.aLen Tryz.underlying33]; rfl) ?_))
  refine W_cond (v := !decide (Int.ofNat z1.length = Int.ofNat z2.length)) (by simp +decide only [aRegion_plain, aOps_cons2, aOps_nil, wantedA, if_true, aOp, cls, pOp, rOp, nOp, eOp, opd_tmp, opd_const, opd_func, withH, getT_setT2, pCall, rCall, eCallee, eApp, eStore, pBin, pUn, pField, pIndexAddr, pExtract, pPick, rLoad, nDone, newVal, opds_nil, opds_cons2, consO_some, partsOf, setT_no, aBin_lss, aBin_neq, aBin_geq, aBin_gtr, aBin_leq, aBin_eql, aUn_not, ofValue_int, ofValue_bool, ofValue_nil, if_false]) (fun hne => ?_) (fun heq => ?_)
  · have hne : z1.length ≠ z2.length := by simp at hne; omega
    refine W_seq (W_region (by simp +decide only [aRegion_plain, aOps_cons2, aOps_nil, wantedA, if_true, aOp, cls, pOp, rOp, nOp, eOp, opd_tmp, opd_const, opd_func, withH, getT_setT2, pCall, rCall, eCallee, eApp, eStore, pBin, pUn, pField, pIndexAddr, pExtract, pPick, rLoad, nDone, newVal, opds_nil, opds_cons2, consO_some, partsOf, setT_no, aBin_lss, aBin_neq, aBin_geq, aBin_gtr, aBin_leq, aBin_eql, aUn_not, ofValue_int, ofValue_bool, ofValue_nil, if_false]; rfl) (W_ret ⟨by simp, _, rfl, ?_⟩))
    have : z1 ≠ z2 := fun e => hne (by rw [e])
    rw [decide_eq_false this]; simp +decide only [aRegion_plain, aOps_cons2, aOps_nil, wantedA, if_true, aOp, cls, pOp, rOp, nOp, eOp, opd_tmp, opd_const, opd_func, withH, getT_setT2, pCall, rCall, eCallee, eApp, eStore, pBin, pUn, pField, pIndexAddr, pExtract, pPick, rLoad, nDone, newVal, opds_nil, opds_cons2, consO_some, partsOf, setT_no, aBin_lss, aBin_neq, aBin_geq, aBin_gtr, aBin_leq, aBin_eql, aUn_not, ofValue_int, ofValue_bool, ofValue_nil, if_false, packA]
  · have heq : z1.length = z2.length := by simp at heq; omega
    refine W_skip (W_seq (W_seq (W_region (by simp +decide only [aRegion_plain, aOps_cons2, aOps_nil, wantedA, if_true, aOp, cls, pOp, rOp, nOp, eOp, opd_tmp, opd_const, opd_func, withH, getT_setT2, pCall, rCall, eCallee, eApp, eStore, pBin, pUn, pField, pIndexAddr, pExtract, pPick, rLoad, nDone, newVal, opds_nil, opds_cons2, consO_some, partsOf, setT_no, aBin_lss, aBin_neq, aBin_geq, aBin_gtr, aBin_leq, aBin_eql, aUn_not, ofValue_int, ofValue_bool, ofValue_nil, if_false, hT0, h1.aLen Tryz.underlying33]; rfl) ?_)))
    refine W_block (W_loop_ind (fun j T K => K = H ∧ ∃ i, j + i = z1.length ∧ z1.take i = z2.take i ∧ getT T 0 = s1 ∧ getT T 1 = s2 ∧ getT T 12 = .int .i64 (Int.ofNat z1.length) ∧ getT T 13 = .int .i64 (Int.ofNat i)) ?_ z1.length _ _ ?_)
    · rintro j T K ⟨rfl, i, hi, ht, t0, t1, t12, t13⟩
      refine W_seq (W_region (by simp +decide only [aRegion_plain, aOps_cons2, aOps_nil, wantedA, if_true, aOp, cls, pOp, rOp, nOp, eOp, opd_tmp, opd_const, opd_func, withH, getT_setT2, pCall, rCall, eCallee, eApp, eStore, pBin, pUn, pField, pIndexAddr, pExtract, pPick, rLoad, nDone, newVal, opds_nil, opds_cons2, consO_some, partsOf, setT_no, aBin_lss, aBin_neq, aBin_geq, aBin_gtr, aBin_leq, aBin_eql, aUn_not, ofValue_int, ofValue_bool, ofValue_nil, if_false, t12, t13]; rfl) ?_)
      refine W_seq (W_cond (v := decide (Int.ofNat i < Int.ofNat z1.length)) (by simp +decide only [aRegion_plain, aOps_cons2, aOps_nil, wantedA, if_true, aOp, cls, pOp, rOp, nOp, eOp, opd_tmp, opd_const, opd_func, withH, getT_setT2, pCall, rCall, eCallee, eApp, eStore, pBin, pUn, pField, pIndexAddr, pExtract, pPick, rLoad, nDone, newVal, opds_nil, opds_cons2, consO_some, partsOf, setT_no, aBin_lss, aBin_neq, aBin_geq, aBin_gtr, aBin_leq, aBin_eql, aUn_not, ofValue_int, ofValue_bool, ofValue_nil, if_false]) (fun hlt => ?_) (fun hge => ?_))
      · have hlt : i < z1.length := by have := of_decide_eq_true hlt; simpa using this
        obtain ⟨v1, o1, hx1, _, hr1⟩ := h1.index hlt Tryz.underlying33 info3 rfl
        obtain ⟨v2, o2, hx2, _, hr2⟩ := h2.index (show i < z2.length by omega) Tryz.underlying33 info3 rfl
        have hr1 := hr1 0 (.int .i64 z1[i]) (by omega) (by simpa using ints_get (List.getElem?_eq_getElem hlt))
        have hr2 := hr2 0 (.int .i64 (z2[i]'(by omega))) (by omega) (by simpa using ints_get (List.getElem?_eq_getElem (show i < z2.length by omega)))
        rw [Nat.add_zero] at hr1 hr2
        refine W_skip (W_seq (W_block (W_seq (W_region (by simp +decide only [aRegion_plain, aOps_cons2, aOps_nil, wantedA, if_true, aOp, cls, pOp, rOp, nOp, eOp, opd_tmp, opd_const, opd_func, withH, getT_setT2, pCall, rCall, eCallee, eApp, eStore, pBin, pUn, pField, pIndexAddr, pExtract, pPick, rLoad, nDone, newVal, opds_nil, opds_cons2, consO_some, partsOf, setT_no, aBin_lss, aBin_neq, aBin_geq, aBin_gtr, aBin_leq, aBin_eql, aUn_not, ofValue_int, ofValue_bool, ofValue_nil, if_false, t13]; rfl) ?_))))
        refine W_seq (W_region (aRegion_reads (by kernel_rfl) (by simp +decide only [aRegion_plain, aOps_cons2, aOps_nil, wantedA, if_true, aOp, cls, pOp, rOp, nOp, eOp, opd_tmp, opd_const, opd_func, withH, getT_setT2, pCall, rCall, eCallee, eApp, eStore, pBin, pUn, pField, pIndexAddr, pExtract, pPick, rLoad, nDone, newVal, opds_nil, opds_cons2, consO_some, partsOf, setT_no, aBin_lss, aBin_neq, aBin_geq, aBin_gtr, aBin_leq, aBin_eql, aUn_not, ofValue_int, ofValue_bool, ofValue_nil, if_false, t0, t1, t13, hx1, hx2, ld3 hr1, ld3 hr2]; rfl)) ?_)
        refine W_cond (v := !decide (z1[i] = z2[i]'(by omega))) (by simp +decide only [aRegion_plain, aOps_cons2, aOps_nil, wantedA, if_true, aOp, cls, pOp, rOp, nOp, eOp, opd_tmp, opd_const, opd_func, withH, getT_setT2, pCall, rCall, eCallee, eApp, eStore, pBin, pUn, pField, pIndexAddr, pExtract, pPick, rLoad, nDone, newVal, opds_nil, opds_cons2, consO_some, partsOf, setT_no, aBin_lss, aBin_neq, aBin_geq, aBin_gtr, aBin_leq, aBin_eql, aUn_not, ofValue_int, ofValue_bool, ofValue_nil, if_false]) (fun hne => ?_) (fun he => ?_)
        · have hne : z1[i] ≠ z2[i]'(by omega) := by simpa using hne
          refine W_seq (W_region (by simp +decide only [aRegion_plain, aOps_cons2, aOps_nil, wantedA, if_true, aOp, cls, pOp, rOp, nOp, eOp, opd_tmp, opd_const, opd_func, withH, getT_setT2, pCall, rCall, eCallee, eApp, eStore, pBin, pUn, pField, pIndexAddr, pExtract, pPick, rLoad, nDone, newVal, opds_nil, opds_cons2, consO_some, partsOf, setT_no, aBin_lss, aBin_neq, aBin_geq, aBin_gtr, aBin_leq, aBin_eql, aUn_not, ofValue_int, ofValue_bool, ofValue_nil, if_false]; rfl) (W_ret ⟨by simp, _, rfl, ?_⟩))
          have : z1 ≠ z2 := fun e => hne (by simp [e])
          rw [decide_eq_false this]; simp +decide only [aRegion_plain, aOps_cons2, aOps_nil, wantedA, if_true, aOp, cls, pOp, rOp, nOp, eOp, opd_tmp, opd_const, opd_func, withH, getT_setT2, pCall, rCall, eCallee, eApp, eStore, pBin, pUn, pField, pIndexAddr, pExtract, pPick, rLoad, nDone, newVal, opds_nil, opds_cons2, consO_some, partsOf, setT_no, aBin_lss, aBin_neq, aBin_geq, aBin_gtr, aBin_leq, aBin_eql, aUn_not, ofValue_int, ofValue_bool, ofValue_nil, if_false, packA]
        · have he : z1[i] = z2[i]'(by omega) := by simpa using he
          refine W_skip (W_region (by simp +decide only [aRegion_plain, aOps_cons2, aOps_nil, wantedA, if_true, aOp, cls, pOp, rOp, nOp, eOp, opd_tmp, opd_const, opd_func, withH, getT_setT2, pCall, rCall, eCallee, eApp, eStore, pBin, pUn, pField, pIndexAddr, pExtract, pPick, rLoad, nDone, newVal, opds_nil, opds_cons2, consO_some, partsOf, setT_no, aBin_lss, aBin_neq, aBin_geq, aBin_gtr, aBin_leq, aBin_eql, aUn_not, ofValue_int, ofValue_bool, ofValue_nil, if_false, t13, aBin_inc (show i ≤ 1000000 by omega)]; rfl) ?_)
          refine ⟨j - 1, by omega, rfl, i + 1, by omega, ?_, by simp +decide only [aRegion_plain, aOps_cons2, aOps_nil, wantedA, if_true, aOp, cls, pOp, rOp, nOp, eOp, opd_tmp, opd_const, opd_func, withH, getT_setT2, pCall, rCall, eCallee, eApp, eStore, pBin, pUn, pField, pIndexAddr, pExtract, pPick, rLoad, nDone, newVal, opds_nil, opds_cons2, consO_some, partsOf, setT_no, aBin_lss, aBin_neq, aBin_geq, aBin_gtr, aBin_leq, aBin_eql, aUn_not, ofValue_int, ofValue_bool, ofValue_nil, if_false, t0], by simp +decide only [aRegion_plain, aOps_cons2, aOps_nil, wantedA, if_true, aOp, cls, pOp, rOp, nOp, eOp, opd_tmp, opd_const, opd_func, withH, getT_setT2, pCall, rCall, eCallee, eApp, eStore, pBin, pUn, pField, pIndexAddr, pExtract, pPick, rLoad, nDone, newVal, opds_nil, opds_cons2, consO_some, partsOf, setT_no, aBin_lss, aBin_neq, aBin_geq, aBin_gtr, aBin_leq, aBin_eql, aUn_not, ofValue_int, ofValue_bool, ofValue_nil, if_false, t1], by simp +decide only [aRegion_plain, aOps_cons2, aOps_nil, wantedA, if_true, aOp, cls, pOp, rOp, nOp, eOp, opd_tmp, opd_const, opd_func, withH, getT_setT2, pCall, rCall, eCallee, eApp, eStore, pBin, pUn, pField, pIndexAddr, pExtract, pPick, rLoad, nDone, newVal, opds_nil, opds_cons2, consO_some, partsOf, setT_no, aBin_lss, aBin_neq, aBin_geq, aBin_gtr, aBin_leq, aBin_eql, aUn_not, ofValue_int, ofValue_bool, ofValue_nil, if_false, t12], by simp +decide only [aRegion_plain, aOps_cons2, aOps_nil, wantedA, if_true, aOp, cls, pOp, rOp, nOp, eOp, opd_tmp, opd_const, opd_func, withH, getT_setT2, pCall, rCall, eCallee, eApp, eStore, pBin, pUn, pField, pIndexAddr, pExtract, pPick, rLoad, nDone, newVal, opds_nil, opds_cons2, consO_some, partsOf, setT_no, aBin_lss, aBin_neq, aBin_geq, aBin_gtr, aBin_leq, aBin_eql, aUn_not, ofValue_int, ofValue_bool, ofValue_nil, if_false]⟩
          rw [List.take_add_one, List.take_add_one, ht, List.getElem?_eq_getElem hlt, List.getElem?_eq_getElem (show i < z2.length by omega), he]
      · have hge : i = z1.length := by have := of_decide_eq_false hge; simp at this; omega
        refine W_exit ?_
        show W Tryz.prog 1 call 26 _ _ _ _
        refine W_seq (W_region (by simp +decide only [aRegion_plain, aOps_cons2, aOps_nil, wantedA, if_true, aOp, cls, pOp, rOp, nOp, eOp, opd_tmp, opd_const, opd_func, withH, getT_setT2, pCall, rCall, eCallee, eApp, eStore, pBin, pUn, pField, pIndexAddr, pExtract, pPick, rLoad, nDone, newVal, opds_nil, opds_cons2, consO_some, partsOf, setT_no, aBin_lss, aBin_neq, aBin_geq, aBin_gtr, aBin_leq, aBin_eql, aUn_not, ofValue_int, ofValue_bool, ofValue_nil, if_false]; rfl) (W_ret ⟨by simp, _, rfl, ?_⟩))
        have : z1 = z2 := by
          rw [hge, List.take_of_length_le (Nat.le_refl _), heq, List.take_of_length_le (Nat.le_refl _)] at ht
          exact ht
        rw [decide_eq_true this]; simp +decide only [aRegion_plain, aOps_cons2, aOps_nil, wantedA, if_true, aOp, cls, pOp, rOp, nOp, eOp, opd_tmp, opd_const, opd_func, withH, getT_setT2, pCall, rCall, eCallee, eApp, eStore, pBin, pUn, pField, pIndexAddr, pExtract, pPick, rLoad, nDone, newVal, opds_nil, opds_cons2, consO_some, partsOf, setT_no, aBin_lss, aBin_neq, aBin_geq, aBin_gtr, aBin_leq, aBin_eql, aUn_not, ofValue_int, ofValue_bool, ofValue_nil, if_false, packA]
    · exact ⟨rfl, 0, by omega, by simp, by simp +decide only [aRegion_plain, aOps_cons2, aOps_nil, wantedA, if_true, aOp, cls, pOp, rOp, nOp, eOp, opd_tmp, opd_const, opd_func, withH, getT_setT2, pCall, rCall, eCallee, eApp, eStore, pBin, pUn, pField, pIndexAddr, pExtract, pPick, rLoad, nDone, newVal, opds_nil, opds_cons2, consO_some, partsOf, setT_no, aBin_lss, aBin_neq, aBin_geq, aBin_gtr, aBin_leq, aBin_eql, aUn_not, ofValue_int, ofValue_bool, ofValue_nil, if_false, hT0], by simp +decide only [aRegion_plain, aOps_cons2, aOps_nil, wantedA, if_true, aOp, cls, pOp, rOp, nOp, eOp, opd_tmp, opd_const, opd_func, withH, getT_setT2, pCall, rCall, eCallee, eApp, eStore, pBin, pUn, pField, pIndexAddr, pExtract, pPick, rLoad, nDone, newVal, opds_nil, opds_cons2, consO_some, partsOf, setT_no, aBin_lss, aBin_neq, aBin_geq, aBin_gtr, aBin_leq, aBin_eql, aUn_not, ofValue_int, ofValue_bool, ofValue_nil, if_false, hT1], by simp +decide only [aRegion_plain, aOps_cons2, aOps_nil, wantedA, if_true, aOp, cls, pOp, rOp, nOp, eOp, opd_tmp, opd_const, opd_func, withH, getT_setT2, pCall, rCall, eCallee, eApp, eStore, pBin, pUn, pField, pIndexAddr, pExtract, pPick, rLoad, nDone, newVal, opds_nil, opds_cons2, consO_some, partsOf, setT_no, aBin_lss, aBin_neq, aBin_geq, aBin_gtr, aBin_leq, aBin_eql, aUn_not, ofValue_int, ofValue_bool, ofValue_nil, if_false], by simp +decide only [aRegion_plain, aOps_cons2, aOps_nil, wantedA, if_true, aOp, cls, pOp, rOp, nOp, eOp, opd_tmp, opd_const, opd_func, withH, getT_setT2, pCall, rCall, eCallee, eApp, eStore, pBin, pUn, pField, pIndexAddr, pExtract, pPick, rLoad, nDone, newVal, opds_nil, opds_cons2, consO_some, partsOf, setT_no, aBin_lss, aBin_neq, aBin_geq, aBin_gtr, aBin_leq, aBin_eql, aUn_not, ofValue_int, ofValue_bool, ofValue_nil, if_false]; rfl⟩
end Go.Abs

namespace Go.Abs
open Go Go.Proofs
variable {call : ACall}
set_option maxRecDepth 4000

/-- a slice of slices of numbers -/
def RLists (g : Nat → Option Row) (s : AVal) (l : List (List Int)) : Prop :=
  ∃ cs, RSl g 1 l.length s cs ∧ ∀ (i : Nat) (z : List Int) (c : AVal), l[i]? = some z → cs[i]? = some c → RSl g 1 z.length c (ints z) ∧ z.length ≤ 1000

theorem callF9 {l : List AVal} {H : AHeap} : aCallF Tryz.prog call 9 l H = call 9 l H := by
  simp only [aCallF, Tryz.func9]; rfl

theorem equalFunc_spec {H : AHeap} (hcall : ∀ s1 s2 z1 z2, RSl H.objs.get 1 z1.length s1 (ints z1) → RSl H.objs.get 1 z2.length s2 (ints z2) → z1.length ≤ 1000 → call 9 [s1, s2] H = some (.bool (decide (z1 = z2)), H))
    {s1 s2 : AVal} {l1 l2 : List (List Int)} (h1 : RLists H.objs.get s1 l1) (h2 : RLists H.objs.get s2 l2) (hb : l1.length ≤ 1000) :
    FnRes Tryz.prog 1 call 8 [s1, s2, .func 9 [] []] H (.bool (decide (l1 = l2)), H) := by
  suffices h : ∃ r, FnRes Tryz.prog 1 call 8 [s1, s2, .func 9 [] []] H r ∧ r = (.bool (decide (l1 = l2)), H) by
    obtain ⟨r, h, rfl⟩ := h; exact h
  obtain ⟨c1, h1, e1⟩ := h1
  obtain ⟨c2, h2, e2⟩ := h2
  have hc1 : c1.length = l1.length := by have := h1.1; omega
  have hc2 : c2.length = l2.length := by have := h2.1; omega
  refine fnRes_of_W Tryz.func8 rfl ?_
  show W Tryz.prog 1 call 32 _ _ _ _
  have hT0 : getT (setArgs [s1, s2, .func 9 [] []] 0 .nil) 0 = s1 := rfl
  have hT1 : getT (setArgs [s1, s2, .func 9 [] []] 0 .nil) 1 = s2 := rfl
  have hT2 : getT (setArgs [s1, s2, .func 9 [] []] 0 .nil) 2 = .func 9 [] [] := rfl
  refine W_seq (W_region (by simp +decide only [aRegion_plain, aOps_cons2, aOps_nil, wantedA, if_true, aOp, cls, pOp, rOp, nOp, eOp, opd_tmp, opd_const, opd_func, withH, getT_setT2, pCall, rCall, eCallee, eApp, eStore, pBin, pUn, pField, pIndexAddr, pExtract, pPick, rLoad, nDone, newVal, opds_nil, opds_cons2, consO_some, partsOf, setT_no, aBin_lss, aBin_neq, aBin_geq, aBin_gtr, aBin_leq, aBin_eql, aUn_not, ofValue_int, ofValue_bool, ofValue_nil, if_false]; rfl) ?_)
  refine W_seq (W_seq (W_region (by simp +decide only [aRegion_plain, aOps_cons2, aOps_nil, wantedA, if_true, aOp, cls, pOp, rOp, nOp, eOp, opd_tmp, opd_const, opd_func, withH, getT_setT2, pCall, rCall, eCallee, eApp, eStore, pBin, pUn, pField, pIndexAddr, pExtract, pPick, rLoad, nDone, newVal, opds_nil, opds_cons2, consO_some, partsOf, setT_no, aBin_lss, aBin_neq, aBin_geq, aBin_gtr, aBin_leq, aBin_eql, aUn_not, ofValue_int, ofValue_bool, ofValue_nil, if_false, hT0, hT1, h1.aLen Tryz.underlying28, h2.aLen Tryz.underlying28]; rfl) ?_))
  refine W_cond (v := !decide (Int.ofNat l1.length = Int.ofNat l2.length)) (by simp +decide only [aRegion_plain, aOps_cons2, aOps_nil, wantedA, if_true, aOp, cls, pOp, rOp, nOp, eOp, opd_tmp, opd_const, opd_func, withH, getT_setT2, pCall, rCall, eCallee, eApp, eStore, pBin, pUn, pField, pIndexAddr, pExtract, pPick, rLoad, nDone, newVal, opds_nil, opds_cons2, consO_some, partsOf, setT_no, aBin_lss, aBin_neq, aBin_geq, aBin_gtr, aBin_leq, aBin_eql, aUn_not, ofValue_int, ofValue_bool, ofValue_nil, if_false]) (fun hne => ?_) (fun heq => ?_)
  · have hne : l1.length ≠ l2.length := by simp at hne; omega
    refine W_seq (W_region (by simp +decide only [aRegion_plain, aOps_cons2, aOps_nil, wantedA, if_true, aOp, cls, pOp, rOp, nOp, eOp, opd_tmp, opd_const, opd_func, withH, getT_setT2, pCall, rCall, eCallee, eApp, eStore, pBin, pUn, pField, pIndexAddr, pExtract, pPick, rLoad, nDone, newVal, opds_nil, opds_cons2, consO_some, partsOf, setT_no, aBin_lss, aBin_neq, aBin_geq, aBin_gtr, aBin_leq, aBin_eql, aUn_not, ofValue_int, ofValue_bool, ofValue_nil, if_false]; rfl) (W_ret ⟨by simp, _, rfl, ?_⟩))
    have : l1 ≠ l2 := fun e => hne (by rw [e])
    rw [decide_eq_false this]; simp +decide only [aRegion_plain, aOps_cons2, aOps_nil, wantedA, if_true, aOp, cls, pOp, rOp, nOp, eOp, opd_tmp, opd_const, opd_func, withH, getT_setT2, pCall, rCall, eCallee, eApp, eStore, pBin, pUn, pField, pIndexAddr, pExtract, pPick, rLoad, nDone, newVal, opds_nil, opds_cons2, consO_some, partsOf, setT_no, aBin_lss, aBin_neq, aBin_geq, aBin_gtr, aBin_leq, aBin_eql, aUn_not, ofValue_int, ofValue_bool, ofValue_nil, if_false, packA]
  · have heq : l1.length = l2.length := by simp at heq; omega
    refine W_skip (W_seq (W_seq (W_region (by simp +decide only [aRegion_plain, aOps_cons2, aOps_nil, wantedA, if_true, aOp, cls, pOp, rOp, nOp, eOp, opd_tmp, opd_const, opd_func, withH, getT_setT2, pCall, rCall, eCallee, eApp, eStore, pBin, pUn, pField, pIndexAddr, pExtract, pPick, rLoad, nDone, newVal, opds_nil, opds_cons2, consO_some, partsOf, setT_no, aBin_lss, aBin_neq, aBin_geq, aBin_gtr, aBin_leq, aBin_eql, aUn_not, ofValue_int, ofValue_bool, ofValue_nil, if_false, hT0, h1.aLen Tryz.underlying28]; rfl) ?_)))
    refine W_block (W_loop_ind (fun j T K => K = H ∧ ∃ i, j + i = l1.length ∧ l1.take i = l2.take i ∧ getT T 0 = s1 ∧ getT T 1 = s2 ∧ getT T 2 = .func 9 [] [] ∧ getT T 15 = s1 ∧ getT T 16 = .int .i64 (Int.ofNat l1.length) ∧ getT T 17 = .int .i64 (Int.ofNat i)) ?_ l1.length _ _ ?_)
    · rintro j T K ⟨rfl, i, hi, ht, t0, t1, t2, t15, t16, t17⟩
      refine W_seq (W_region (by simp +decide only [aRegion_plain, aOps_cons2, aOps_nil, wantedA, if_true, aOp, cls, pOp, rOp, nOp, eOp, opd_tmp, opd_const, opd_func, withH, getT_setT2, pCall, rCall, eCallee, eApp, eStore, pBin, pUn, pField, pIndexAddr, pExtract, pPick, rLoad, nDone, newVal, opds_nil, opds_cons2, consO_some, partsOf, setT_no, aBin_lss, aBin_neq, aBin_geq, aBin_gtr, aBin_leq, aBin_eql, aUn_not, ofValue_int, ofValue_bool, ofValue_nil, if_false, t16, t17]; rfl) ?_)
      refine W_seq (W_cond (v := decide (Int.ofNat i < Int.ofNat l1.length)) (by simp +decide only [aRegion_plain, aOps_cons2, aOps_nil, wantedA, if_true, aOp, cls, pOp, rOp, nOp, eOp, opd_tmp, opd_const, opd_func, withH, getT_setT2, pCall, rCall, eCallee, eApp, eStore, pBin, pUn, pField, pIndexAddr, pExtract, pPick, rLoad, nDone, newVal, opds_nil, opds_cons2, consO_some, partsOf, setT_no, aBin_lss, aBin_neq, aBin_geq, aBin_gtr, aBin_leq, aBin_eql, aUn_not, ofValue_int, ofValue_bool, ofValue_nil, if_false]) (fun hlt => ?_) (fun hge => ?_))
      · have hlt : i < l1.length := by have := of_decide_eq_true hlt; simpa using this
        have hlt2 : i < l2.length := by omega
        obtain ⟨v1, o1, hx1, _, hr1⟩ := h1.index hlt Tryz.underlying28 info33 rfl
        obtain ⟨v2, o2, hx2, _, hr2⟩ := h2.index hlt2 Tryz.underlying28 info33 rfl
        have hr1 := hr1 0 c1[i] (by omega) (by simp)
        have hr2 := hr2 0 c2[i] (by omega) (by simp)
        rw [Nat.add_zero] at hr1 hr2
        obtain ⟨ea, eb⟩ := e1 i l1[i] c1[i] (by simp) (by simp)
        obtain ⟨fa, fb⟩ := e2 i l2[i] c2[i] (by simp) (by simp)
        have hcl := hcall _ _ _ _ ea fa eb
        refine W_skip (W_seq (W_block (W_seq (W_region (by simp +decide only [aRegion_plain, aOps_cons2, aOps_nil, wantedA, if_true, aOp, cls, pOp, rOp, nOp, eOp, opd_tmp, opd_const, opd_func, withH, getT_setT2, pCall, rCall, eCallee, eApp, eStore, pBin, pUn, pField, pIndexAddr, pExtract, pPick, rLoad, nDone, newVal, opds_nil, opds_cons2, consO_some, partsOf, setT_no, aBin_lss, aBin_neq, aBin_geq, aBin_gtr, aBin_leq, aBin_eql, aUn_not, ofValue_int, ofValue_bool, ofValue_nil, if_false, t15, t17, hx1, ld33 hr1]; rfl) ?_))))
        refine W_seq (W_region (by simp +decide only [aRegion_plain, aOps_cons2, aOps_nil, wantedA, if_true, aOp, cls, pOp, rOp, nOp, eOp, opd_tmp, opd_const, opd_func, withH, getT_setT2, pCall, rCall, eCallee, eApp, eStore, pBin, pUn, pField, pIndexAddr, pExtract, pPick, rLoad, nDone, newVal, opds_nil, opds_cons2, consO_some, partsOf, setT_no, aBin_lss, aBin_neq, aBin_geq, aBin_gtr, aBin_leq, aBin_eql, aUn_not, ofValue_int, ofValue_bool, ofValue_nil, if_false, t1, hx2, ld33 hr2]; rfl) ?_)
        refine W_seq (W_region (by simp +decide only [aRegion_plain, aOps_cons2, aOps_nil, wantedA, if_true, aOp, cls, pOp, rOp, nOp, eOp, opd_tmp, opd_const, opd_func, withH, getT_setT2, pCall, rCall, eCallee, eApp, eStore, pBin, pUn, pField, pIndexAddr, pExtract, pPick, rLoad, nDone, newVal, opds_nil, opds_cons2, consO_some, partsOf, setT_no, aBin_lss, aBin_neq, aBin_geq, aBin_gtr, aBin_leq, aBin_eql, aUn_not, ofValue_int, ofValue_bool, ofValue_nil, if_false, t2, eCall, List.nil_append, List.append_nil, callF9, hcl]; rfl) ?_)
        refine W_cond (v := !decide (l1[i] = l2[i])) (by simp +decide only [aRegion_plain, aOps_cons2, aOps_nil, wantedA, if_true, aOp, cls, pOp, rOp, nOp, eOp, opd_tmp, opd_const, opd_func, withH, getT_setT2, pCall, rCall, eCallee, eApp, eStore, pBin, pUn, pField, pIndexAddr, pExtract, pPick, rLoad, nDone, newVal, opds_nil, opds_cons2, consO_some, partsOf, setT_no, aBin_lss, aBin_neq, aBin_geq, aBin_gtr, aBin_leq, aBin_eql, aUn_not, ofValue_int, ofValue_bool, ofValue_nil, if_false]) (fun hne => ?_) (fun he => ?_)
        · have hne : l1[i] ≠ l2[i] := by simpa using hne
          refine W_seq (W_region (by simp +decide only [aRegion_plain, aOps_cons2, aOps_nil, wantedA, if_true, aOp, cls, pOp, rOp, nOp, eOp, opd_tmp, opd_const, opd_func, withH, getT_setT2, pCall, rCall, eCallee, eApp, eStore, pBin, pUn, pField, pIndexAddr, pExtract, pPick, rLoad, nDone, newVal, opds_nil, opds_cons2, consO_some, partsOf, setT_no, aBin_lss, aBin_neq, aBin_geq, aBin_gtr, aBin_leq, aBin_eql, aUn_not, ofValue_int, ofValue_bool, ofValue_nil, if_false]; rfl) (W_ret ⟨by simp, _, rfl, ?_⟩))
          have : l1 ≠ l2 := fun e => hne (by simp [e])
          rw [decide_eq_false this]; simp +decide only [aRegion_plain, aOps_cons2, aOps_nil, wantedA, if_true, aOp, cls, pOp, rOp, nOp, eOp, opd_tmp, opd_const, opd_func, withH, getT_setT2, pCall, rCall, eCallee, eApp, eStore, pBin, pUn, pField, pIndexAddr, pExtract, pPick, rLoad, nDone, newVal, opds_nil, opds_cons2, consO_some, partsOf, setT_no, aBin_lss, aBin_neq, aBin_geq, aBin_gtr, aBin_leq, aBin_eql, aUn_not, ofValue_int, ofValue_bool, ofValue_nil, if_false, packA]
        · have he : l1[i] = l2[i] := by simpa using he
          refine W_skip (W_region (by simp +decide only [aRegion_plain, aOps_cons2, aOps_nil, wantedA, if_true, aOp, cls, pOp, rOp, nOp, eOp, opd_tmp, opd_const, opd_func, withH, getT_setT2, pCall, rCall, eCallee, eApp, eStore, pBin, pUn, pField, pIndexAddr, pExtract, pPick, rLoad, nDone, newVal, opds_nil, opds_cons2, consO_some, partsOf, setT_no, aBin_lss, aBin_neq, aBin_geq, aBin_gtr, aBin_leq, aBin_eql, aUn_not, ofValue_int, ofValue_bool, ofValue_nil, if_false, t17, aBin_inc (show i ≤ 1000000 by omega)]; rfl) ?_)
          refine ⟨j - 1, by omega, rfl, i + 1, by omega, ?_, by simp +decide only [aRegion_plain, aOps_cons2, aOps_nil, wantedA, if_true, aOp, cls, pOp, rOp, nOp, eOp, opd_tmp, opd_const, opd_func, withH, getT_setT2, pCall, rCall, eCallee, eApp, eStore, pBin, pUn, pField, pIndexAddr, pExtract, pPick, rLoad, nDone, newVal, opds_nil, opds_cons2, consO_some, partsOf, setT_no, aBin_lss, aBin_neq, aBin_geq, aBin_gtr, aBin_leq, aBin_eql, aUn_not, ofValue_int, ofValue_bool, ofValue_nil, if_false, t0], by simp +decide only [aRegion_plain, aOps_cons2, aOps_nil, wantedA, if_true, aOp, cls, pOp, rOp, nOp, eOp, opd_tmp, opd_const, opd_func, withH, getT_setT2, pCall, rCall, eCallee, eApp, eStore, pBin, pUn, pField, pIndexAddr, pExtract, pPick, rLoad, nDone, newVal, opds_nil, opds_cons2, consO_some, partsOf, setT_no, aBin_lss, aBin_neq, aBin_geq, aBin_gtr, aBin_leq, aBin_eql, aUn_not, ofValue_int, ofValue_bool, ofValue_nil, if_false, t1], by simp +decide only [aRegion_plain, aOps_cons2, aOps_nil, wantedA, if_true, aOp, cls, pOp, rOp, nOp, eOp, opd_tmp, opd_const, opd_func, withH, getT_setT2, pCall, rCall, eCallee, eApp, eStore, pBin, pUn, pField, pIndexAddr, pExtract, pPick, rLoad, nDone, newVal, opds_nil, opds_cons2, consO_some, partsOf, setT_no, aBin_lss, aBin_neq, aBin_geq, aBin_gtr, aBin_leq, aBin_eql, aUn_not, ofValue_int, ofValue_bool, ofValue_nil, if_false, t2], by simp +decide only [aRegion_plain, aOps_cons2, aOps_nil, wantedA, if_true, aOp, cls, pOp, rOp, nOp, eOp, opd_tmp, opd_const, opd_func, withH, getT_setT2, pCall, rCall, eCallee, eApp, eStore, pBin, pUn, pField, pIndexAddr, pExtract, pPick, rLoad, nDone, newVal, opds_nil, opds_cons2, consO_some, partsOf, setT_no, aBin_lss, aBin_neq, aBin_geq, aBin_gtr, aBin_leq, aBin_eql, aUn_not, ofValue_int, ofValue_bool, ofValue_nil, if_false, t15], by simp +decide only [aRegion_plain, aOps_cons2, aOps_nil, wantedA, if_true, aOp, cls, pOp, rOp, nOp, eOp, opd_tmp, opd_const, opd_func, withH, getT_setT2, pCall, rCall, eCallee, eApp, eStore, pBin, pUn, pField, pIndexAddr, pExtract, pPick, rLoad, nDone, newVal, opds_nil, opds_cons2, consO_some, partsOf, setT_no, aBin_lss, aBin_neq, aBin_geq, aBin_gtr, aBin_leq, aBin_eql, aUn_not, ofValue_int, ofValue_bool, ofValue_nil, if_false, t16], by simp +decide only [aRegion_plain, aOps_cons2, aOps_nil, wantedA, if_true, aOp, cls, pOp, rOp, nOp, eOp, opd_tmp, opd_const, opd_func, withH, getT_setT2, pCall, rCall, eCallee, eApp, eStore, pBin, pUn, pField, pIndexAddr, pExtract, pPick, rLoad, nDone, newVal, opds_nil, opds_cons2, consO_some, partsOf, setT_no, aBin_lss, aBin_neq, aBin_geq, aBin_gtr, aBin_leq, aBin_eql, aUn_not, ofValue_int, ofValue_bool, ofValue_nil, if_false]⟩
          rw [List.take_add_one, List.take_add_one, ht, List.getElem?_eq_getElem hlt, List.getElem?_eq_getElem hlt2, he]
      · have hge : i = l1.length := by have := of_decide_eq_false hge; simp at this; omega
        refine W_exit ?_
        show W Tryz.prog 1 call 32 _ _ _ _
        refine W_seq (W_region (by simp +decide only [aRegion_plain, aOps_cons2, aOps_nil, wantedA, if_true, aOp, cls, pOp, rOp, nOp, eOp, opd_tmp, opd_const, opd_func, withH, getT_setT2, pCall, rCall, eCallee, eApp, eStore, pBin, pUn, pField, pIndexAddr, pExtract, pPick, rLoad, nDone, newVal, opds_nil, opds_cons2, consO_some, partsOf, setT_no, aBin_lss, aBin_neq, aBin_geq, aBin_gtr, aBin_leq, aBin_eql, aUn_not, ofValue_int, ofValue_bool, ofValue_nil, if_false]; rfl) (W_ret ⟨by simp, _, rfl, ?_⟩))
        have : l1 = l2 := by
          rw [hge, List.take_of_length_le (Nat.le_refl _), heq, List.take_of_length_le (Nat.le_refl _)] at ht
          exact ht
        rw [decide_eq_true this]; simp +decide only [aRegion_plain, aOps_cons2, aOps_nil, wantedA, if_true, aOp, cls, pOp, rOp, nOp, eOp, opd_tmp, opd_const, opd_func, withH, getT_setT2, pCall, rCall, eCallee, eApp, eStore, pBin, pUn, pField, pIndexAddr, pExtract, pPick, rLoad, nDone, newVal, opds_nil, opds_cons2, consO_some, partsOf, setT_no, aBin_lss, aBin_neq, aBin_geq, aBin_gtr, aBin_leq, aBin_eql, aUn_not, ofValue_int, ofValue_bool, ofValue_nil, if_false, packA]
    · exact ⟨rfl, 0, by omega, by simp, by simp +decide only [aRegion_plain, aOps_cons2, aOps_nil, wantedA, if_true, aOp, cls, pOp, rOp, nOp, eOp, opd_tmp, opd_const, opd_func, withH, getT_setT2, pCall, rCall, eCallee, eApp, eStore, pBin, pUn, pField, pIndexAddr, pExtract, pPick, rLoad, nDone, newVal, opds_nil, opds_cons2, consO_some, partsOf, setT_no, aBin_lss, aBin_neq, aBin_geq, aBin_gtr, aBin_leq, aBin_eql, aUn_not, ofValue_int, ofValue_bool, ofValue_nil, if_false, hT0], by simp +decide only [aRegion_plain, aOps_cons2, aOps_nil, wantedA, if_true, aOp, cls, pOp, rOp, nOp, eOp, opd_tmp, opd_const, opd_func, withH, getT_setT2, pCall, rCall, eCallee, eApp, eStore, pBin, pUn, pField, pIndexAddr, pExtract, pPick, rLoad, nDone, newVal, opds_nil, opds_cons2, consO_some, partsOf, setT_no, aBin_lss, aBin_neq, aBin_geq, aBin_gtr, aBin_leq, aBin_eql, aUn_not, ofValue_int, ofValue_bool, ofValue_nil, if_false, hT1], by simp +decide only [aRegion_plain, aOps_cons2, aOps_nil, wantedA, if_true, aOp, cls, pOp, rOp, nOp, eOp, opd_tmp, opd_const, opd_func, withH, getT_setT2, pCall, rCall, eCallee, eApp, eStore, pBin, pUn, pField, pIndexAddr, pExtract, pPick, rLoad, nDone, newVal, opds_nil, opds_cons2, consO_some, partsOf, setT_no, aBin_lss, aBin_neq, aBin_geq, aBin_gtr, aBin_leq, aBin_eql, aUn_not, ofValue_int, ofValue_bool, ofValue_nil, if_false, hT2], by simp +decide only [aRegion_plain, aOps_cons2, aOps_nil, wantedA, if_true, aOp, cls, pOp, rOp, nOp, eOp, opd_tmp, opd_const, opd_func, withH, getT_setT2, pCall, rCall, eCallee, eApp, eStore, pBin, pUn, pField, pIndexAddr, pExtract, pPick, rLoad, nDone, newVal, opds_nil, opds_cons2, consO_some, partsOf, setT_no, aBin_lss, aBin_neq, aBin_geq, aBin_gtr, aBin_leq, aBin_eql, aUn_not, ofValue_int, ofValue_bool, ofValue_nil, if_false], by simp +decide only [aRegion_plain, aOps_cons2, aOps_nil, wantedA, if_true, aOp, cls, pOp, rOp, nOp, eOp, opd_tmp, opd_const, opd_func, withH, getT_setT2, pCall, rCall, eCallee, eApp, eStore, pBin, pUn, pField, pIndexAddr, pExtract, pPick, rLoad, nDone, newVal, opds_nil, opds_cons2, consO_some, partsOf, setT_no, aBin_lss, aBin_neq, aBin_geq, aBin_gtr, aBin_leq, aBin_eql, aUn_not, ofValue_int, ofValue_bool, ofValue_nil, if_false], by simp +decide only [aRegion_plain, aOps_cons2, aOps_nil, wantedA, if_true, aOp, cls, pOp, rOp, nOp, eOp, opd_tmp, opd_const, opd_func, withH, getT_setT2, pCall, rCall, eCallee, eApp, eStore, pBin, pUn, pField, pIndexAddr, pExtract, pPick, rLoad, nDone, newVal, opds_nil, opds_cons2, consO_some, partsOf, setT_no, aBin_lss, aBin_neq, aBin_geq, aBin_gtr, aBin_leq, aBin_eql, aUn_not, ofValue_int, ofValue_bool, ofValue_nil, if_false]; rfl⟩
end Go.Abs

namespace Go.Abs
open Go Go.Proofs
variable {call : ACall}
set_option maxRecDepth 4000

/-- the elements, by their events -/
def RElems (g : Nat → Option Row) (s : AVal) (evs : List Int) : Prop :=
  ∃ cs, RSl g 5 evs.length s cs ∧ ∀ (i : Nat) (z : Int), evs[i]? = some z → cs[i * 5 + 4]? = some (.int .i64 z)

theorem RElems.keep {H H' : AHeap} {s : AVal} {evs : List Int} (h : RElems H.objs.get s evs) (k : Fr Option.none H H') : RElems H'.objs.get s evs := by
  obtain ⟨cs, h1, h2⟩ := h
  exact ⟨cs, h1.keep k, h2⟩

theorem closure_spec {H : AHeap} (g : Good H) {cs : List AVal} {z : Int} (hz : cs[4]? = some (.int .i64 z)) :
    ∃ r, FnRes Tryz.prog 1 call 16 [.agg cs] H r ∧ r.1 = .bool (decide (z < -1)) ∧ Fr none H r.2 ∧ Good r.2 := by
  refine fnRes_of_W Tryz.func16 rfl ?_
  show W Tryz.prog 1 call 6 _ _ _ _
  have g1 := good_alloc g cs true 1
  have f1 := fr_alloc g cs true 1
  have o1 := own_alloc H cs true 1
  generalize hH1 : alloc H cs true 1 = H1 at g1 f1 o1
  have hT0 : getT (setArgs [.agg cs] 0 .nil) 0 = .agg cs := rfl
  have rd := readCells_at (off := 0 + 4) o1.row hz
  refine W_seq (W_region (by simp +decide only [aRegion_plain, aOps_cons2, aOps_nil, wantedA, if_true, aOp, cls, pOp, rOp, nOp, eOp, opd_tmp, opd_const, opd_func, withH, getT_setT2, pCall, rCall, eCallee, eApp, eStore, pBin, pUn, pField, pIndexAddr, pExtract, pPick, rLoad, nDone, newVal, opds_nil, opds_cons2, consO_some, partsOf, setT_no, aBin_lss, aBin_neq, aBin_geq, aBin_gtr, aBin_leq, aBin_eql, aUn_not, ofValue_int, ofValue_bool, ofValue_nil, if_false, hT0, nBox, AVal.cells, hH1]; rfl) ?_)
  refine W_seq (W_region (by simp +decide only [aRegion_plain, aOps_cons2, aOps_nil, wantedA, if_true, aOp, cls, pOp, rOp, nOp, eOp, opd_tmp, opd_const, opd_func, withH, getT_setT2, pCall, rCall, eCallee, eApp, eStore, pBin, pUn, pField, pIndexAddr, pExtract, pPick, rLoad, nDone, newVal, opds_nil, opds_cons2, consO_some, partsOf, setT_no, aBin_lss, aBin_neq, aBin_geq, aBin_gtr, aBin_leq, aBin_eql, aUn_not, ofValue_int, ofValue_bool, ofValue_nil, if_false, fa53_4, ld3 rd]; rfl) (W_ret ⟨by simp, _, rfl, ?_, f1, g1⟩))
  simp +decide only [aRegion_plain, aOps_cons2, aOps_nil, wantedA, if_true, aOp, cls, pOp, rOp, nOp, eOp, opd_tmp, opd_const, opd_func, withH, getT_setT2, pCall, rCall, eCallee, eApp, eStore, pBin, pUn, pField, pIndexAddr, pExtract, pPick, rLoad, nDone, newVal, opds_nil, opds_cons2, consO_some, partsOf, setT_no, aBin_lss, aBin_neq, aBin_geq, aBin_gtr, aBin_leq, aBin_eql, aUn_not, ofValue_int, ofValue_bool, ofValue_nil, if_false, packA]

theorem callF16 {l : List AVal} {H : AHeap} : aCallF Tryz.prog call 16 l H = call 16 l H := by
  simp only [aCallF, Tryz.func16]; rfl
theorem callF34 {l : List AVal} {H : AHeap} : aCallF Tryz.prog call 34 l H = call 34 l H := by
  simp only [aCallF, Tryz.func34]; rfl

/-- what a call of the closure gives -/
def Spec16 (call : ACall) : Prop := ∀ (H : AHeap) (cs : List AVal) (z : Int), Good H → cs[4]? = some (.int .i64 z) → ∃ r, call 16 [.agg cs] H = some r ∧ r.1 = .bool (decide (z < -1)) ∧ Fr none H r.2 ∧ Good r.2

theorem indexFunc_spec (hcall : Spec16 call) {H : AHeap} (g : Good H) {s : AVal} {evs : List Int} (hs : RElems H.objs.get s evs) (hb : evs.length ≤ 1000) :
    ∃ r, FnRes Tryz.prog 1 call 34 [s, .func 16 [] []] H r ∧ (∃ k : Int, r.1 = .int .i64 k ∧ (decide (k ≥ 0) = evs.any (fun z => decide (z < -1)))) ∧ Fr none H r.2 ∧ Good r.2 := by
  obtain ⟨cs, h1, h2⟩ := hs
  refine fnRes_of_W Tryz.func34 rfl ?_
  show W Tryz.prog 1 call 19 _ _ _ _
  have hT0 : getT (setArgs [s, .func 16 [] []] 0 .nil) 0 = s := rfl
  have hT1 : getT (setArgs [s, .func 16 [] []] 0 .nil) 1 = .func 16 [] [] := rfl
  refine W_seq (W_region (by simp +decide only [aRegion_plain, aOps_cons2, aOps_nil, wantedA, if_true, aOp, cls, pOp, rOp, nOp, eOp, opd_tmp, opd_const, opd_func, withH, getT_setT2, pCall, rCall, eCallee, eApp, eStore, pBin, pUn, pField, pIndexAddr, pExtract, pPick, rLoad, nDone, newVal, opds_nil, opds_cons2, consO_some, partsOf, setT_no, aBin_lss, aBin_neq, aBin_geq, aBin_gtr, aBin_leq, aBin_eql, aUn_not, ofValue_int, ofValue_bool, ofValue_nil, if_false]; rfl) ?_)
  refine W_seq (W_seq (W_region (by simp +decide only [aRegion_plain, aOps_cons2, aOps_nil, wantedA, if_true, aOp, cls, pOp, rOp, nOp, eOp, opd_tmp, opd_const, opd_func, withH, getT_setT2, pCall, rCall, eCallee, eApp, eStore, pBin, pUn, pField, pIndexAddr, pExtract, pPick, rLoad, nDone, newVal, opds_nil, opds_cons2, consO_some, partsOf, setT_no, aBin_lss, aBin_neq, aBin_geq, aBin_gtr, aBin_leq, aBin_eql, aUn_not, ofValue_int, ofValue_bool, ofValue_nil, if_false, hT0, h1.aLen Tryz.underlying22]; rfl) ?_))
  refine W_block (W_loop_ind (fun j T K => ∃ i, j + i = evs.length ∧ (evs.take i).any (fun z => decide (z < -1)) = false ∧ getT T 0 = s ∧ getT T 1 = .func 16 [] [] ∧ getT T 7 = .int .i64 (Int.ofNat evs.length) ∧ getT T 8 = .int .i64 (Int.ofNat i) ∧ Fr none H K ∧ Good K) ?_ evs.length _ _ ?_)
  · rintro j T K ⟨i, hi, hno, t0, t1, t7, t8, fK, gK⟩
    refine W_seq (W_region (by simp +decide only [aRegion_plain, aOps_cons2, aOps_nil, wantedA, if_true, aOp, cls, pOp, rOp, nOp, eOp, opd_tmp, opd_const, opd_func, withH, getT_setT2, pCall, rCall, eCallee, eApp, eStore, pBin, pUn, pField, pIndexAddr, pExtract, pPick, rLoad, nDone, newVal, opds_nil, opds_cons2, consO_some, partsOf, setT_no, aBin_lss, aBin_neq, aBin_geq, aBin_gtr, aBin_leq, aBin_eql, aUn_not, ofValue_int, ofValue_bool, ofValue_nil, if_false, t7, t8]; rfl) ?_)
    refine W_seq (W_cond (v := decide (Int.ofNat i < Int.ofNat evs.length)) (by simp +decide only [aRegion_plain, aOps_cons2, aOps_nil, wantedA, if_true, aOp, cls, pOp, rOp, nOp, eOp, opd_tmp, opd_const, opd_func, withH, getT_setT2, pCall, rCall, eCallee, eApp, eStore, pBin, pUn, pField, pIndexAddr, pExtract, pPick, rLoad, nDone, newVal, opds_nil, opds_cons2, consO_some, partsOf, setT_no, aBin_lss, aBin_neq, aBin_geq, aBin_gtr, aBin_leq, aBin_eql, aUn_not, ofValue_int, ofValue_bool, ofValue_nil, if_false]) (fun hlt => ?_) (fun hge => ?_))
    · have hlt : i < evs.length := by have := of_decide_eq_true hlt; simpa using this
      obtain ⟨v, o, hx, hr, _⟩ := (h1.keep fK).index hlt Tryz.underlying22 info53 rfl
      have hz := h2 i evs[i] (by simp)
      obtain ⟨⟨b, K2⟩, hcl, rfl, fK2, gK2⟩ := hcall K ((cs.drop (i * 5)).take 5) evs[i] gK (by rw [List.getElem?_take, if_pos (by omega), List.getElem?_drop]; exact hz)
      refine W_skip (W_seq (W_block (W_seq (W_region (by simp +decide only [aRegion_plain, aOps_cons2, aOps_nil, wantedA, if_true, aOp, cls, pOp, rOp, nOp, eOp, opd_tmp, opd_const, opd_func, withH, getT_setT2, pCall, rCall, eCallee, eApp, eStore, pBin, pUn, pField, pIndexAddr, pExtract, pPick, rLoad, nDone, newVal, opds_nil, opds_cons2, consO_some, partsOf, setT_no, aBin_lss, aBin_neq, aBin_geq, aBin_gtr, aBin_leq, aBin_eql, aUn_not, ofValue_int, ofValue_bool, ofValue_nil, if_false, t8]; rfl) ?_))))
      refine W_seq (W_region (by simp +decide only [aRegion_plain, aOps_cons2, aOps_nil, wantedA, if_true, aOp, cls, pOp, rOp, nOp, eOp, opd_tmp, opd_const, opd_func, withH, getT_setT2, pCall, rCall, eCallee, eApp, eStore, pBin, pUn, pField, pIndexAddr, pExtract, pPick, rLoad, nDone, newVal, opds_nil, opds_cons2, consO_some, partsOf, setT_no, aBin_lss, aBin_neq, aBin_geq, aBin_gtr, aBin_leq, aBin_eql, aUn_not, ofValue_int, ofValue_bool, ofValue_nil, if_false, t0, t1, t8, hx, ld53 hr, eCall, List.nil_append, List.append_nil, callF16, hcl]; rfl) ?_)
      refine W_cond (v := decide (evs[i] < -1)) (by simp +decide only [aRegion_plain, aOps_cons2, aOps_nil, wantedA, if_true, aOp, cls, pOp, rOp, nOp, eOp, opd_tmp, opd_const, opd_func, withH, getT_setT2, pCall, rCall, eCallee, eApp, eStore, pBin, pUn, pField, pIndexAddr, pExtract, pPick, rLoad, nDone, newVal, opds_nil, opds_cons2, consO_some, partsOf, setT_no, aBin_lss, aBin_neq, aBin_geq, aBin_gtr, aBin_leq, aBin_eql, aUn_not, ofValue_int, ofValue_bool, ofValue_nil, if_false]) (fun hy => ?_) (fun hn => ?_)
      · refine W_seq (W_region (by simp +decide only [aRegion_plain, aOps_cons2, aOps_nil, wantedA, if_true, aOp, cls, pOp, rOp, nOp, eOp, opd_tmp, opd_const, opd_func, withH, getT_setT2, pCall, rCall, eCallee, eApp, eStore, pBin, pUn, pField, pIndexAddr, pExtract, pPick, rLoad, nDone, newVal, opds_nil, opds_cons2, consO_some, partsOf, setT_no, aBin_lss, aBin_neq, aBin_geq, aBin_gtr, aBin_leq, aBin_eql, aUn_not, ofValue_int, ofValue_bool, ofValue_nil, if_false]; rfl) (W_ret ⟨by simp, _, rfl, ⟨Int.ofNat i, by simp +decide only [aRegion_plain, aOps_cons2, aOps_nil, wantedA, if_true, aOp, cls, pOp, rOp, nOp, eOp, opd_tmp, opd_const, opd_func, withH, getT_setT2, pCall, rCall, eCallee, eApp, eStore, pBin, pUn, pField, pIndexAddr, pExtract, pPick, rLoad, nDone, newVal, opds_nil, opds_cons2, consO_some, partsOf, setT_no, aBin_lss, aBin_neq, aBin_geq, aBin_gtr, aBin_leq, aBin_eql, aUn_not, ofValue_int, ofValue_bool, ofValue_nil, if_false, packA], ?_⟩, fK.trans fK2, gK2⟩))
        have : evs.any (fun z => decide (z < -1)) = true := List.any_eq_true.2 ⟨evs[i], by simp, hy⟩
        rw [this]; simp
      · refine W_skip (W_region (by simp +decide only [aRegion_plain, aOps_cons2, aOps_nil, wantedA, if_true, aOp, cls, pOp, rOp, nOp, eOp, opd_tmp, opd_const, opd_func, withH, getT_setT2, pCall, rCall, eCallee, eApp, eStore, pBin, pUn, pField, pIndexAddr, pExtract, pPick, rLoad, nDone, newVal, opds_nil, opds_cons2, consO_some, partsOf, setT_no, aBin_lss, aBin_neq, aBin_geq, aBin_gtr, aBin_leq, aBin_eql, aUn_not, ofValue_int, ofValue_bool, ofValue_nil, if_false, t8, aBin_inc (show i ≤ 1000000 by omega)]; rfl) ?_)
        refine ⟨j - 1, by omega, i + 1, by omega, ?_, by simp +decide only [aRegion_plain, aOps_cons2, aOps_nil, wantedA, if_true, aOp, cls, pOp, rOp, nOp, eOp, opd_tmp, opd_const, opd_func, withH, getT_setT2, pCall, rCall, eCallee, eApp, eStore, pBin, pUn, pField, pIndexAddr, pExtract, pPick, rLoad, nDone, newVal, opds_nil, opds_cons2, consO_some, partsOf, setT_no, aBin_lss, aBin_neq, aBin_geq, aBin_gtr, aBin_leq, aBin_eql, aUn_not, ofValue_int, ofValue_bool, ofValue_nil, if_false, t0], by simp +decide only [aRegion_plain, aOps_cons2, aOps_nil, wantedA, if_true, aOp, cls, pOp, rOp, nOp, eOp, opd_tmp, opd_const, opd_func, withH, getT_setT2, pCall, rCall, eCallee, eApp, eStore, pBin, pUn, pField, pIndexAddr, pExtract, pPick, rLoad, nDone, newVal, opds_nil, opds_cons2, consO_some, partsOf, setT_no, aBin_lss, aBin_neq, aBin_geq, aBin_gtr, aBin_leq, aBin_eql, aUn_not, ofValue_int, ofValue_bool, ofValue_nil, if_false, t1], by simp +decide only [aRegion_plain, aOps_cons2, aOps_nil, wantedA, if_true, aOp, cls, pOp, rOp, nOp, eOp, opd_tmp, opd_const, opd_func, withH, getT_setT2, pCall, rCall, eCallee, eApp, eStore, pBin, pUn, pField, pIndexAddr, pExtract, pPick, rLoad, nDone, newVal, opds_nil, opds_cons2, consO_some, partsOf, setT_no, aBin_lss, aBin_neq, aBin_geq, aBin_gtr, aBin_leq, aBin_eql, aUn_not, ofValue_int, ofValue_bool, ofValue_nil, if_false, t7], by simp +decide only [aRegion_plain, aOps_cons2, aOps_nil, wantedA, if_true, aOp, cls, pOp, rOp, nOp, eOp, opd_tmp, opd_const, opd_func, withH, getT_setT2, pCall, rCall, eCallee, eApp, eStore, pBin, pUn, pField, pIndexAddr, pExtract, pPick, rLoad, nDone, newVal, opds_nil, opds_cons2, consO_some, partsOf, setT_no, aBin_lss, aBin_neq, aBin_geq, aBin_gtr, aBin_leq, aBin_eql, aUn_not, ofValue_int, ofValue_bool, ofValue_nil, if_false], fK.trans fK2, gK2⟩
        rw [List.take_add_one, List.any_append, hno, List.getElem?_eq_getElem hlt]
        simp only [Option.toList_some, List.any_cons, List.any_nil, Bool.or_false, Bool.false_or]
        exact hn
    · have hge : i = evs.length := by have := of_decide_eq_false hge; simp at this; omega
      refine W_exit ?_
      show W Tryz.prog 1 call 19 _ _ _ _
      refine W_seq (W_region (by simp +decide only [aRegion_plain, aOps_cons2, aOps_nil, wantedA, if_true, aOp, cls, pOp, rOp, nOp, eOp, opd_tmp, opd_const, opd_func, withH, getT_setT2, pCall, rCall, eCallee, eApp, eStore, pBin, pUn, pField, pIndexAddr, pExtract, pPick, rLoad, nDone, newVal, opds_nil, opds_cons2, consO_some, partsOf, setT_no, aBin_lss, aBin_neq, aBin_geq, aBin_gtr, aBin_leq, aBin_eql, aUn_not, ofValue_int, ofValue_bool, ofValue_nil, if_false]; rfl) (W_ret ⟨by simp, _, rfl, ⟨-1, by simp +decide only [aRegion_plain, aOps_cons2, aOps_nil, wantedA, if_true, aOp, cls, pOp, rOp, nOp, eOp, opd_tmp, opd_const, opd_func, withH, getT_setT2, pCall, rCall, eCallee, eApp, eStore, pBin, pUn, pField, pIndexAddr, pExtract, pPick, rLoad, nDone, newVal, opds_nil, opds_cons2, consO_some, partsOf, setT_no, aBin_lss, aBin_neq, aBin_geq, aBin_gtr, aBin_leq, aBin_eql, aUn_not, ofValue_int, ofValue_bool, ofValue_nil, if_false, packA], ?_⟩, fK, gK⟩))
      rw [hge, List.take_of_length_le (Nat.le_refl _)] at hno
      rw [hno]; rfl
  · exact ⟨0, by omega, by simp, by simp +decide only [aRegion_plain, aOps_cons2, aOps_nil, wantedA, if_true, aOp, cls, pOp, rOp, nOp, eOp, opd_tmp, opd_const, opd_func, withH, getT_setT2, pCall, rCall, eCallee, eApp, eStore, pBin, pUn, pField, pIndexAddr, pExtract, pPick, rLoad, nDone, newVal, opds_nil, opds_cons2, consO_some, partsOf, setT_no, aBin_lss, aBin_neq, aBin_geq, aBin_gtr, aBin_leq, aBin_eql, aUn_not, ofValue_int, ofValue_bool, ofValue_nil, if_false, hT0], by simp +decide only [aRegion_plain, aOps_cons2, aOps_nil, wantedA, if_true, aOp, cls, pOp, rOp, nOp, eOp, opd_tmp, opd_const, opd_func, withH, getT_setT2, pCall, rCall, eCallee, eApp, eStore, pBin, pUn, pField, pIndexAddr, pExtract, pPick, rLoad, nDone, newVal, opds_nil, opds_cons2, consO_some, partsOf, setT_no, aBin_lss, aBin_neq, aBin_geq, aBin_gtr, aBin_leq, aBin_eql, aUn_not, ofValue_int, ofValue_bool, ofValue_nil, if_false, hT1], by simp +decide only [aRegion_plain, aOps_cons2, aOps_nil, wantedA, if_true, aOp, cls, pOp, rOp, nOp, eOp, opd_tmp, opd_const, opd_func, withH, getT_setT2, pCall, rCall, eCallee, eApp, eStore, pBin, pUn, pField, pIndexAddr, pExtract, pPick, rLoad, nDone, newVal, opds_nil, opds_cons2, consO_some, partsOf, setT_no, aBin_lss, aBin_neq, aBin_geq, aBin_gtr, aBin_leq, aBin_eql, aUn_not, ofValue_int, ofValue_bool, ofValue_nil, if_false], by simp +decide only [aRegion_plain, aOps_cons2, aOps_nil, wantedA, if_true, aOp, cls, pOp, rOp, nOp, eOp, opd_tmp, opd_const, opd_func, withH, getT_setT2, pCall, rCall, eCallee, eApp, eStore, pBin, pUn, pField, pIndexAddr, pExtract, pPick, rLoad, nDone, newVal, opds_nil, opds_cons2, consO_some, partsOf, setT_no, aBin_lss, aBin_neq, aBin_geq, aBin_gtr, aBin_leq, aBin_eql, aUn_not, ofValue_int, ofValue_bool, ofValue_nil, if_false]; rfl, Fr.refl _ _, g⟩

def Spec34 (call : ACall) : Prop := ∀ (H : AHeap) (s : AVal) (evs : List Int), Good H → RElems H.objs.get s evs → evs.length ≤ 1000 →
  ∃ r, call 34 [s, .func 16 [] []] H = some r ∧ (∃ k : Int, r.1 = .int .i64 k ∧ (decide (k ≥ 0) = evs.any (fun z => decide (z < -1)))) ∧ Fr none H r.2 ∧ Good r.2

theorem containsFunc_spec (hcall : Spec34 call) {H : AHeap} (g : Good H) {s : AVal} {evs : List Int} (hs : RElems H.objs.get s evs) (hb : evs.length ≤ 1000) :
    ∃ r, FnRes Tryz.prog 1 call 15 [s, .func 16 [] []] H r ∧ r.1 = .bool (evs.any (fun z => decide (z < -1))) ∧ Fr none H r.2 ∧ Good r.2 := by
  refine fnRes_of_W Tryz.func15 rfl ?_
  show W Tryz.prog 1 call 9 _ _ _ _
  have hT0 : getT (setArgs [s, .func 16 [] []] 0 .nil) 0 = s := rfl
  have hT1 : getT (setArgs [s, .func 16 [] []] 0 .nil) 1 = .func 16 [] [] := rfl
  obtain ⟨⟨v, K⟩, hcl, ⟨k, rfl, hk⟩, fK, gK⟩ := hcall H s evs g hs hb
  refine W_seq (W_region (by simp +decide only [aRegion_plain, aOps_cons2, aOps_nil, wantedA, if_true, aOp, cls, pOp, rOp, nOp, eOp, opd_tmp, opd_const, opd_func, withH, getT_setT2, pCall, rCall, eCallee, eApp, eStore, pBin, pUn, pField, pIndexAddr, pExtract, pPick, rLoad, nDone, newVal, opds_nil, opds_cons2, consO_some, partsOf, setT_no, aBin_lss, aBin_neq, aBin_geq, aBin_gtr, aBin_leq, aBin_eql, aUn_not, ofValue_int, ofValue_bool, ofValue_nil, if_false]; rfl) ?_)
  refine W_seq (W_region (by simp +decide only [aRegion_plain, aOps_cons2, aOps_nil, wantedA, if_true, aOp, cls, pOp, rOp, nOp, eOp, opd_tmp, opd_const, opd_func, withH, getT_setT2, pCall, rCall, eCallee, eApp, eStore, pBin, pUn, pField, pIndexAddr, pExtract, pPick, rLoad, nDone, newVal, opds_nil, opds_cons2, consO_some, partsOf, setT_no, aBin_lss, aBin_neq, aBin_geq, aBin_gtr, aBin_leq, aBin_eql, aUn_not, ofValue_int, ofValue_bool, ofValue_nil, if_false, hT0, hT1, eCall, List.nil_append, List.append_nil, callF34, hcl]; rfl) (W_ret ⟨by simp, _, rfl, ?_, fK, gK⟩))
  simp +decide only [aRegion_plain, aOps_cons2, aOps_nil, wantedA, if_true, aOp, cls, pOp, rOp, nOp, eOp, opd_tmp, opd_const, opd_func, withH, getT_setT2, pCall, rCall, eCallee, eApp, eStore, pBin, pUn, pField, pIndexAddr, pExtract, pPick, rLoad, nDone, newVal, opds_nil, opds_cons2, consO_some, partsOf, setT_no, aBin_lss, aBin_neq, aBin_geq, aBin_gtr, aBin_leq, aBin_eql, aUn_not, ofValue_int, ofValue_bool, ofValue_nil, if_false, packA]
  rw [← hk]
end Go.Abs
