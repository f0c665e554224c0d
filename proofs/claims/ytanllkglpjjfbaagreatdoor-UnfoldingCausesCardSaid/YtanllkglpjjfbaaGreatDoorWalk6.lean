/- The law on the abstract machine, and all its calls. -/
import Derived.Test.YtanllkglpjjfbaaGreatDoorWalk5
import Derived.Test.YtanllkglpjjfbaaGreatDoorWalk3
import Derived.Test.YtanllkglpjjfbaaGreatDoorKnown
import Derived.Test.YtanllkglpjjfbaaGreatDoorShelf
set_option linter.unusedVariables false
set_option linter.unusedSimpArgs false
namespace Go.Abs
open Go Go.Proofs Go.Abs.Law
variable {call : ACall}
set_option maxRecDepth 4000

theorem callF4 {l : List AVal} {H : AHeap} : aCallF Tryz.prog call 4 l H = call 4 l H := by
  simp only [aCallF, Tryz.func4]; rfl
theorem callF5 {l : List AVal} {H : AHeap} : aCallF Tryz.prog call 5 l H = call 5 l H := by
  simp only [aCallF, Tryz.func5]; rfl
theorem callF6 {l : List AVal} {H : AHeap} : aCallF Tryz.prog call 6 l H = call 6 l H := by
  simp only [aCallF, Tryz.func6]; rfl
theorem callF7 {l : List AVal} {H : AHeap} : aCallF Tryz.prog call 7 l H = call 7 l H := by
  simp only [aCallF, Tryz.func7]; rfl
theorem callF8 {l : List AVal} {H : AHeap} : aCallF Tryz.prog call 8 l H = call 8 l H := by
  simp only [aCallF, Tryz.func8]; rfl

def Spec4 (call : ACall) (row0 : Row) : Prop := ∀ (H : AHeap), H.objs.get 0 = some row0 → call 4 [] H = some (.bool true, H)
def Spec5 (call : ACall) : Prop := ∀ (H : AHeap) (sL sV : AVal) (evs : List Int) (us : List Use), Good H → RElems H.objs.get sL evs → REvents H.objs.get sV us → (∀ u ∈ us, InK (Int.ofNat u.nodes.length + Int.ofNat u.edges.length)) →
  ∃ r, call 5 [.agg [sL, sV]] H = some r ∧ r.1 = .bool (fewP evs.length us) ∧ Fr none H r.2 ∧ Good r.2
def SpecC (call : ACall) (f : FuncId) (F : List Int → List (List Int) → Nat → List Int → List Int) : Prop := ∀ (H : AHeap) (sL sV : AVal) (evs : List Int) (us : List Use), Good H → RElems H.objs.get sL evs → REvents H.objs.get sV us →
    evs.length ≤ 1000 → us.length ≤ 40 → (∀ u ∈ us, u.nodes.length + u.edges.length ≤ 20) →
    ∃ r, call f [.agg [sL, sV]] H = some r ∧ Fr none H r.2 ∧ Good r.2 ∧ ((¬ AllOk evs (usesOf us) ∧ r.1 = .tuple [.nilSlice, .int .i64 1]) ∨
      (AllOk evs (usesOf us) ∧ ∃ s, r.1 = .tuple [s, .int .i64 0] ∧ RLists r.2.objs.get s (outAt (F evs) (usesOf us) us.length)))
def Spec8 (call : ACall) : Prop := ∀ (H : AHeap) (s1 s2 : AVal) (l1 l2 : List (List Int)), RLists H.objs.get s1 l1 → RLists H.objs.get s2 l2 → l1.length ≤ 1000 →
  call 8 [s1, s2, .func 9 [] []] H = some (.bool (decide (l1 = l2)), H)

theorem RLists_nil (g : Nat → Option Row) : RLists g .nilSlice [] := ⟨[], ⟨rfl, .inl ⟨rfl, .inl rfl⟩⟩, fun i z c hz => by simp at hz⟩
theorem UBox.all {g : Nat → Option Row} {p : Nat} {sL sV : AVal} (h : UBox g p sL sV) : readCells g p 0 2 = some [sL, sV] := by
  obtain ⟨r, h1, h2⟩ := h
  simp only [readCells, h1, h2]
  rfl

theorem fewP_bounds {n : Nat} {us : List Use} (h : fewP n us = true) : n ≤ 1000 ∧ us.length ≤ 40 ∧ ∀ u ∈ us, u.nodes.length + u.edges.length ≤ 20 := by
  unfold fewP at h
  simp only [Bool.and_eq_true, Bool.not_eq_true', Bool.or_eq_false_iff, Bool.and_eq_false_iff, decide_eq_false_iff_not, List.all_eq_true, decide_eq_true_eq] at h
  exact ⟨by omega, by omega, h.2⟩

set_option maxHeartbeats 4000000 in
theorem law3_spec {row0 : Row} (c4 : Spec4 call row0) (c5 : Spec5 call) (c6 : SpecC call 6 fP) (c7 : SpecC call 7 fR) (c8 : Spec8 call) {H : AHeap} (g : Good H) (h0 : H.objs.get 0 = some row0) {sL sV : AVal} {evs : List Int} {us : List Use} (h1 : RElems H.objs.get sL evs) (h2 : REvents H.objs.get sV us)
    (hbig : ∀ u ∈ us, InK (Int.ofNat u.nodes.length + Int.ofNat u.edges.length)) :
    ∃ r, FnRes Tryz.prog 1 call 3 [.agg [sL, sV]] H r ∧ r.1 = .bool true := by
  refine fnRes_of_W Tryz.func3 rfl ?_
  show W Tryz.prog 1 call 33 _ _ _ _
  have g1 := good_alloc g [sL, sV] true 1
  have f1 := fr_alloc g [sL, sV] true 1
  have o1 := own_alloc H [sL, sV] true 1
  generalize hH1 : alloc H [sL, sV] true 1 = H1 at g1 f1 o1
  have hT0 : getT (setArgs [.agg [sL, sV]] 0 .nil) 0 = .agg [sL, sV] := rfl
  have hu : UBox H1.objs.get H.next sL sV := ⟨_, o1.row, rfl⟩
  have h01 : H1.objs.get 0 = some row0 := f1.row _ _ h0 (by simp)
  refine W_seq (W_regionF (H' := H1) (fun S => getT S 1 = .ptr H.next 0) ?_ ?_)
  · (repeat (first | (apply ops_go (wanted_none rfl); (simp +decide only [aRegion_plain, aOps_cons2, aOps_nil, wantedA, if_true, aOp, cls, pOp, rOp, nOp, eOp, opd_tmp, opd_const, opd_func, withH, getT_setT2, pCall, rCall, eCallee, eApp, eStore, pBin, pUn, pField, pIndexAddr, pExtract, pPick, rLoad, nDone, newVal, opds_nil, opds_cons2, consO_some, partsOf, setT_no, aBin_lss, aBin_neq, aBin_geq, aBin_gtr, aBin_leq, aBin_eql, aUn_not, ofValue_int, ofValue_bool, ofValue_nil, if_false, hT0, nBox, AVal.cells, hH1]; rfl)) | (apply ops_goG (b := true) rfl rfl rfl rfl; (focus (simp +decide only [aRegion_plain, aOps_cons2, aOps_nil, wantedA, if_true, aOp, cls, pOp, rOp, nOp, eOp, opd_tmp, opd_const, opd_func, withH, getT_setT2, pCall, rCall, eCallee, eApp, eStore, pBin, pUn, pField, pIndexAddr, pExtract, pPick, rLoad, nDone, newVal, opds_nil, opds_cons2, consO_some, partsOf, setT_no, aBin_lss, aBin_neq, aBin_geq, aBin_gtr, aBin_leq, aBin_eql, aUn_not, ofValue_int, ofValue_bool, ofValue_nil, if_false, hT0, nBox, AVal.cells, hH1]; done)); (simp +decide only [aRegion_plain, aOps_cons2, aOps_nil, wantedA, if_true, aOp, cls, pOp, rOp, nOp, eOp, opd_tmp, opd_const, opd_func, withH, getT_setT2, pCall, rCall, eCallee, eApp, eStore, pBin, pUn, pField, pIndexAddr, pExtract, pPick, rLoad, nDone, newVal, opds_nil, opds_cons2, consO_some, partsOf, setT_no, aBin_lss, aBin_neq, aBin_geq, aBin_gtr, aBin_leq, aBin_eql, aUn_not, ofValue_int, ofValue_bool, ofValue_nil, if_false, hT0, nBox, AVal.cells, hH1]; rfl)) | (apply ops_missG (b := true) rfl rfl rfl rfl; (focus (simp +decide only [aRegion_plain, aOps_cons2, aOps_nil, wantedA, if_true, aOp, cls, pOp, rOp, nOp, eOp, opd_tmp, opd_const, opd_func, withH, getT_setT2, pCall, rCall, eCallee, eApp, eStore, pBin, pUn, pField, pIndexAddr, pExtract, pPick, rLoad, nDone, newVal, opds_nil, opds_cons2, consO_some, partsOf, setT_no, aBin_lss, aBin_neq, aBin_geq, aBin_gtr, aBin_leq, aBin_eql, aUn_not, ofValue_int, ofValue_bool, ofValue_nil, if_false, hT0, nBox, AVal.cells, hH1]; done))) | (apply ops_goG (b := false) rfl rfl rfl rfl; (focus (simp +decide only [aRegion_plain, aOps_cons2, aOps_nil, wantedA, if_true, aOp, cls, pOp, rOp, nOp, eOp, opd_tmp, opd_const, opd_func, withH, getT_setT2, pCall, rCall, eCallee, eApp, eStore, pBin, pUn, pField, pIndexAddr, pExtract, pPick, rLoad, nDone, newVal, opds_nil, opds_cons2, consO_some, partsOf, setT_no, aBin_lss, aBin_neq, aBin_geq, aBin_gtr, aBin_leq, aBin_eql, aUn_not, ofValue_int, ofValue_bool, ofValue_nil, if_false, hT0, nBox, AVal.cells, hH1]; done)); (simp +decide only [aRegion_plain, aOps_cons2, aOps_nil, wantedA, if_true, aOp, cls, pOp, rOp, nOp, eOp, opd_tmp, opd_const, opd_func, withH, getT_setT2, pCall, rCall, eCallee, eApp, eStore, pBin, pUn, pField, pIndexAddr, pExtract, pPick, rLoad, nDone, newVal, opds_nil, opds_cons2, consO_some, partsOf, setT_no, aBin_lss, aBin_neq, aBin_geq, aBin_gtr, aBin_leq, aBin_eql, aUn_not, ofValue_int, ofValue_bool, ofValue_nil, if_false, hT0, nBox, AVal.cells, hH1]; rfl)) | (apply ops_missG (b := false) rfl rfl rfl rfl; (focus (simp +decide only [aRegion_plain, aOps_cons2, aOps_nil, wantedA, if_true, aOp, cls, pOp, rOp, nOp, eOp, opd_tmp, opd_const, opd_func, withH, getT_setT2, pCall, rCall, eCallee, eApp, eStore, pBin, pUn, pField, pIndexAddr, pExtract, pPick, rLoad, nDone, newVal, opds_nil, opds_cons2, consO_some, partsOf, setT_no, aBin_lss, aBin_neq, aBin_geq, aBin_gtr, aBin_leq, aBin_eql, aUn_not, ofValue_int, ofValue_bool, ofValue_nil, if_false, hT0, nBox, AVal.cells, hH1]; done))) | (apply ops_missN rfl rfl rfl; (focus (simp +decide only [aRegion_plain, aOps_cons2, aOps_nil, wantedA, if_true, aOp, cls, pOp, rOp, nOp, eOp, opd_tmp, opd_const, opd_func, withH, getT_setT2, pCall, rCall, eCallee, eApp, eStore, pBin, pUn, pField, pIndexAddr, pExtract, pPick, rLoad, nDone, newVal, opds_nil, opds_cons2, consO_some, partsOf, setT_no, aBin_lss, aBin_neq, aBin_geq, aBin_gtr, aBin_leq, aBin_eql, aUn_not, ofValue_int, ofValue_bool, ofValue_nil, if_false, hT0, nBox, AVal.cells, hH1]; done)))))
    exact ops_nil (by simp +decide only [aRegion_plain, aOps_cons2, aOps_nil, wantedA, if_true, aOp, cls, pOp, rOp, nOp, eOp, opd_tmp, opd_const, opd_func, withH, getT_setT2, pCall, rCall, eCallee, eApp, eStore, pBin, pUn, pField, pIndexAddr, pExtract, pPick, rLoad, nDone, newVal, opds_nil, opds_cons2, consO_some, partsOf, setT_no, aBin_lss, aBin_neq, aBin_geq, aBin_gtr, aBin_leq, aBin_eql, aUn_not, ofValue_int, ofValue_bool, ofValue_nil, if_false])
  intro S1 s1 _
  obtain ⟨⟨v5, H2⟩, hc5, hv5, f2, g2⟩ := c5 H1 sL sV evs us g1 (h1.keep f1) (h2.keep f1) hbig
  simp only at hv5 f2 g2
  subst hv5
  refine W_seq (W_seq (W_regionF (H' := H2) (fun S => getT S 13 = .bool (!fewP evs.length us)) ?_ ?_))
  · (repeat (first | (apply ops_go (wanted_none rfl); (simp +decide only [aRegion_plain, aOps_cons2, aOps_nil, wantedA, if_true, aOp, cls, pOp, rOp, nOp, eOp, opd_tmp, opd_const, opd_func, withH, getT_setT2, pCall, rCall, eCallee, eApp, eStore, pBin, pUn, pField, pIndexAddr, pExtract, pPick, rLoad, nDone, newVal, opds_nil, opds_cons2, consO_some, partsOf, setT_no, aBin_lss, aBin_neq, aBin_geq, aBin_gtr, aBin_leq, aBin_eql, aUn_not, ofValue_int, ofValue_bool, ofValue_nil, if_false, s1, Bool.not_true, eCall, List.nil_append, List.append_nil, callF4, c4 H1 h01, ld25 hu.all, callF5, hc5]; rfl)) | (apply ops_goG (b := true) rfl rfl rfl rfl; (focus (simp +decide only [aRegion_plain, aOps_cons2, aOps_nil, wantedA, if_true, aOp, cls, pOp, rOp, nOp, eOp, opd_tmp, opd_const, opd_func, withH, getT_setT2, pCall, rCall, eCallee, eApp, eStore, pBin, pUn, pField, pIndexAddr, pExtract, pPick, rLoad, nDone, newVal, opds_nil, opds_cons2, consO_some, partsOf, setT_no, aBin_lss, aBin_neq, aBin_geq, aBin_gtr, aBin_leq, aBin_eql, aUn_not, ofValue_int, ofValue_bool, ofValue_nil, if_false, s1, Bool.not_true, eCall, List.nil_append, List.append_nil, callF4, c4 H1 h01, ld25 hu.all, callF5, hc5]; done)); (simp +decide only [aRegion_plain, aOps_cons2, aOps_nil, wantedA, if_true, aOp, cls, pOp, rOp, nOp, eOp, opd_tmp, opd_const, opd_func, withH, getT_setT2, pCall, rCall, eCallee, eApp, eStore, pBin, pUn, pField, pIndexAddr, pExtract, pPick, rLoad, nDone, newVal, opds_nil, opds_cons2, consO_some, partsOf, setT_no, aBin_lss, aBin_neq, aBin_geq, aBin_gtr, aBin_leq, aBin_eql, aUn_not, ofValue_int, ofValue_bool, ofValue_nil, if_false, s1, Bool.not_true, eCall, List.nil_append, List.append_nil, callF4, c4 H1 h01, ld25 hu.all, callF5, hc5]; rfl)) | (apply ops_missG (b := true) rfl rfl rfl rfl; (focus (simp +decide only [aRegion_plain, aOps_cons2, aOps_nil, wantedA, if_true, aOp, cls, pOp, rOp, nOp, eOp, opd_tmp, opd_const, opd_func, withH, getT_setT2, pCall, rCall, eCallee, eApp, eStore, pBin, pUn, pField, pIndexAddr, pExtract, pPick, rLoad, nDone, newVal, opds_nil, opds_cons2, consO_some, partsOf, setT_no, aBin_lss, aBin_neq, aBin_geq, aBin_gtr, aBin_leq, aBin_eql, aUn_not, ofValue_int, ofValue_bool, ofValue_nil, if_false, s1, Bool.not_true, eCall, List.nil_append, List.append_nil, callF4, c4 H1 h01, ld25 hu.all, callF5, hc5]; done))) | (apply ops_goG (b := false) rfl rfl rfl rfl; (focus (simp +decide only [aRegion_plain, aOps_cons2, aOps_nil, wantedA, if_true, aOp, cls, pOp, rOp, nOp, eOp, opd_tmp, opd_const, opd_func, withH, getT_setT2, pCall, rCall, eCallee, eApp, eStore, pBin, pUn, pField, pIndexAddr, pExtract, pPick, rLoad, nDone, newVal, opds_nil, opds_cons2, consO_some, partsOf, setT_no, aBin_lss, aBin_neq, aBin_geq, aBin_gtr, aBin_leq, aBin_eql, aUn_not, ofValue_int, ofValue_bool, ofValue_nil, if_false, s1, Bool.not_true, eCall, List.nil_append, List.append_nil, callF4, c4 H1 h01, ld25 hu.all, callF5, hc5]; done)); (simp +decide only [aRegion_plain, aOps_cons2, aOps_nil, wantedA, if_true, aOp, cls, pOp, rOp, nOp, eOp, opd_tmp, opd_const, opd_func, withH, getT_setT2, pCall, rCall, eCallee, eApp, eStore, pBin, pUn, pField, pIndexAddr, pExtract, pPick, rLoad, nDone, newVal, opds_nil, opds_cons2, consO_some, partsOf, setT_no, aBin_lss, aBin_neq, aBin_geq, aBin_gtr, aBin_leq, aBin_eql, aUn_not, ofValue_int, ofValue_bool, ofValue_nil, if_false, s1, Bool.not_true, eCall, List.nil_append, List.append_nil, callF4, c4 H1 h01, ld25 hu.all, callF5, hc5]; rfl)) | (apply ops_missG (b := false) rfl rfl rfl rfl; (focus (simp +decide only [aRegion_plain, aOps_cons2, aOps_nil, wantedA, if_true, aOp, cls, pOp, rOp, nOp, eOp, opd_tmp, opd_const, opd_func, withH, getT_setT2, pCall, rCall, eCallee, eApp, eStore, pBin, pUn, pField, pIndexAddr, pExtract, pPick, rLoad, nDone, newVal, opds_nil, opds_cons2, consO_some, partsOf, setT_no, aBin_lss, aBin_neq, aBin_geq, aBin_gtr, aBin_leq, aBin_eql, aUn_not, ofValue_int, ofValue_bool, ofValue_nil, if_false, s1, Bool.not_true, eCall, List.nil_append, List.append_nil, callF4, c4 H1 h01, ld25 hu.all, callF5, hc5]; done))) | (apply ops_missN rfl rfl rfl; (focus (simp +decide only [aRegion_plain, aOps_cons2, aOps_nil, wantedA, if_true, aOp, cls, pOp, rOp, nOp, eOp, opd_tmp, opd_const, opd_func, withH, getT_setT2, pCall, rCall, eCallee, eApp, eStore, pBin, pUn, pField, pIndexAddr, pExtract, pPick, rLoad, nDone, newVal, opds_nil, opds_cons2, consO_some, partsOf, setT_no, aBin_lss, aBin_neq, aBin_geq, aBin_gtr, aBin_leq, aBin_eql, aUn_not, ofValue_int, ofValue_bool, ofValue_nil, if_false, s1, Bool.not_true, eCall, List.nil_append, List.append_nil, callF4, c4 H1 h01, ld25 hu.all, callF5, hc5]; done)))))
    exact ops_nil (by simp +decide only [aRegion_plain, aOps_cons2, aOps_nil, wantedA, if_true, aOp, cls, pOp, rOp, nOp, eOp, opd_tmp, opd_const, opd_func, withH, getT_setT2, pCall, rCall, eCallee, eApp, eStore, pBin, pUn, pField, pIndexAddr, pExtract, pPick, rLoad, nDone, newVal, opds_nil, opds_cons2, consO_some, partsOf, setT_no, aBin_lss, aBin_neq, aBin_geq, aBin_gtr, aBin_leq, aBin_eql, aUn_not, ofValue_int, ofValue_bool, ofValue_nil, if_false])
  intro S2 s13 hS2
  have h02 : H2.objs.get 0 = some row0 := f2.row _ _ h01 (by simp)
  refine W_cond (by rw [opd_tmp, s13]) (fun hno => ?_) (fun hyes => ?_)
  · refine W_seq (W_regionF (H' := H2) (fun S => getT S 2 = .bool true) ?_ ?_)
    · (repeat (first | (apply ops_go (wanted_none rfl); (simp +decide only [aRegion_plain, aOps_cons2, aOps_nil, wantedA, if_true, aOp, cls, pOp, rOp, nOp, eOp, opd_tmp, opd_const, opd_func, withH, getT_setT2, pCall, rCall, eCallee, eApp, eStore, pBin, pUn, pField, pIndexAddr, pExtract, pPick, rLoad, nDone, newVal, opds_nil, opds_cons2, consO_some, partsOf, setT_no, aBin_lss, aBin_neq, aBin_geq, aBin_gtr, aBin_leq, aBin_eql, aUn_not, ofValue_int, ofValue_bool, ofValue_nil, if_false, eCall, List.nil_append, List.append_nil, callF4, c4 H2 h02]; rfl)) | (apply ops_goG (b := true) rfl rfl rfl rfl; (focus (simp +decide only [aRegion_plain, aOps_cons2, aOps_nil, wantedA, if_true, aOp, cls, pOp, rOp, nOp, eOp, opd_tmp, opd_const, opd_func, withH, getT_setT2, pCall, rCall, eCallee, eApp, eStore, pBin, pUn, pField, pIndexAddr, pExtract, pPick, rLoad, nDone, newVal, opds_nil, opds_cons2, consO_some, partsOf, setT_no, aBin_lss, aBin_neq, aBin_geq, aBin_gtr, aBin_leq, aBin_eql, aUn_not, ofValue_int, ofValue_bool, ofValue_nil, if_false, eCall, List.nil_append, List.append_nil, callF4, c4 H2 h02]; done)); (simp +decide only [aRegion_plain, aOps_cons2, aOps_nil, wantedA, if_true, aOp, cls, pOp, rOp, nOp, eOp, opd_tmp, opd_const, opd_func, withH, getT_setT2, pCall, rCall, eCallee, eApp, eStore, pBin, pUn, pField, pIndexAddr, pExtract, pPick, rLoad, nDone, newVal, opds_nil, opds_cons2, consO_some, partsOf, setT_no, aBin_lss, aBin_neq, aBin_geq, aBin_gtr, aBin_leq, aBin_eql, aUn_not, ofValue_int, ofValue_bool, ofValue_nil, if_false, eCall, List.nil_append, List.append_nil, callF4, c4 H2 h02]; rfl)) | (apply ops_missG (b := true) rfl rfl rfl rfl; (focus (simp +decide only [aRegion_plain, aOps_cons2, aOps_nil, wantedA, if_true, aOp, cls, pOp, rOp, nOp, eOp, opd_tmp, opd_const, opd_func, withH, getT_setT2, pCall, rCall, eCallee, eApp, eStore, pBin, pUn, pField, pIndexAddr, pExtract, pPick, rLoad, nDone, newVal, opds_nil, opds_cons2, consO_some, partsOf, setT_no, aBin_lss, aBin_neq, aBin_geq, aBin_gtr, aBin_leq, aBin_eql, aUn_not, ofValue_int, ofValue_bool, ofValue_nil, if_false, eCall, List.nil_append, List.append_nil, callF4, c4 H2 h02]; done))) | (apply ops_goG (b := false) rfl rfl rfl rfl; (focus (simp +decide only [aRegion_plain, aOps_cons2, aOps_nil, wantedA, if_true, aOp, cls, pOp, rOp, nOp, eOp, opd_tmp, opd_const, opd_func, withH, getT_setT2, pCall, rCall, eCallee, eApp, eStore, pBin, pUn, pField, pIndexAddr, pExtract, pPick, rLoad, nDone, newVal, opds_nil, opds_cons2, consO_some, partsOf, setT_no, aBin_lss, aBin_neq, aBin_geq, aBin_gtr, aBin_leq, aBin_eql, aUn_not, ofValue_int, ofValue_bool, ofValue_nil, if_false, eCall, List.nil_append, List.append_nil, callF4, c4 H2 h02]; done)); (simp +decide only [aRegion_plain, aOps_cons2, aOps_nil, wantedA, if_true, aOp, cls, pOp, rOp, nOp, eOp, opd_tmp, opd_const, opd_func, withH, getT_setT2, pCall, rCall, eCallee, eApp, eStore, pBin, pUn, pField, pIndexAddr, pExtract, pPick, rLoad, nDone, newVal, opds_nil, opds_cons2, consO_some, partsOf, setT_no, aBin_lss, aBin_neq, aBin_geq, aBin_gtr, aBin_leq, aBin_eql, aUn_not, ofValue_int, ofValue_bool, ofValue_nil, if_false, eCall, List.nil_append, List.append_nil, callF4, c4 H2 h02]; rfl)) | (apply ops_missG (b := false) rfl rfl rfl rfl; (focus (simp +decide only [aRegion_plain, aOps_cons2, aOps_nil, wantedA, if_true, aOp, cls, pOp, rOp, nOp, eOp, opd_tmp, opd_const, opd_func, withH, getT_setT2, pCall, rCall, eCallee, eApp, eStore, pBin, pUn, pField, pIndexAddr, pExtract, pPick, rLoad, nDone, newVal, opds_nil, opds_cons2, consO_some, partsOf, setT_no, aBin_lss, aBin_neq, aBin_geq, aBin_gtr, aBin_leq, aBin_eql, aUn_not, ofValue_int, ofValue_bool, ofValue_nil, if_false, eCall, List.nil_append, List.append_nil, callF4, c4 H2 h02]; done))) | (apply ops_missN rfl rfl rfl; (focus (simp +decide only [aRegion_plain, aOps_cons2, aOps_nil, wantedA, if_true, aOp, cls, pOp, rOp, nOp, eOp, opd_tmp, opd_const, opd_func, withH, getT_setT2, pCall, rCall, eCallee, eApp, eStore, pBin, pUn, pField, pIndexAddr, pExtract, pPick, rLoad, nDone, newVal, opds_nil, opds_cons2, consO_some, partsOf, setT_no, aBin_lss, aBin_neq, aBin_geq, aBin_gtr, aBin_leq, aBin_eql, aUn_not, ofValue_int, ofValue_bool, ofValue_nil, if_false, eCall, List.nil_append, List.append_nil, callF4, c4 H2 h02]; done)))))
      exact ops_nil (by simp +decide only [aRegion_plain, aOps_cons2, aOps_nil, wantedA, if_true, aOp, cls, pOp, rOp, nOp, eOp, opd_tmp, opd_const, opd_func, withH, getT_setT2, pCall, rCall, eCallee, eApp, eStore, pBin, pUn, pField, pIndexAddr, pExtract, pPick, rLoad, nDone, newVal, opds_nil, opds_cons2, consO_some, partsOf, setT_no, aBin_lss, aBin_neq, aBin_geq, aBin_gtr, aBin_leq, aBin_eql, aUn_not, ofValue_int, ofValue_bool, ofValue_nil, if_false])
    intro S3 s2 _
    refine W_ret ⟨by simp, [_], rfl, ?_⟩
    exact s2
  · have hfew : fewP evs.length us = true := by simpa using hyes
    obtain ⟨hne, hnu, hus⟩ := fewP_bounds hfew
    have hu2 := hu.keep f2
    have f12 := f1.trans f2
    obtain ⟨⟨v6, H3⟩, hc6, f3, g3, hr6⟩ := c6 H2 sL sV evs us g2 (h1.keep f12) (h2.keep f12) hne hnu hus
    simp only at f3 g3 hr6
    have f13 := f12.trans f3
    obtain ⟨⟨v7, H4⟩, hc7, f4, g4, hr7⟩ := c7 H3 sL sV evs us g3 (h1.keep f13) (h2.keep f13) hne hnu hus
    simp only at f4 g4 hr7
    have hu3 := hu2.keep f3
    have key : ∃ a b e, v6 = .tuple [a, .int .i64 e] ∧ v7 = .tuple [b, .int .i64 e] ∧ ∃ l, RLists H4.objs.get a l ∧ RLists H4.objs.get b l ∧ l.length ≤ 1000 := by
      rcases hr6 with ⟨n6, e6⟩ | ⟨a6, s, e6, l6⟩
      · rcases hr7 with ⟨n7, e7⟩ | ⟨a7, _⟩
        · exact ⟨_, _, 1, e6, e7, [], RLists_nil _, RLists_nil _, by simp⟩
        · exact absurd a7 n6
      · rcases hr7 with ⟨n7, e7⟩ | ⟨a7, s', e7, l7⟩
        · exact absurd a6 n7
        · refine ⟨s, s', 0, e6, e7, _, l6.keep f4, ?_, ?_⟩
          · have hul : (usesOf us).length = us.length := by simp [usesOf]
            rw [(outAt_bound us.length (by omega) (fun i z _ => a6.2 i z)).1]
            exact l7
          · rw [outAt_length]; omega
    obtain ⟨a, b, e, rfl, rfl, l, la, lb, hll⟩ := key
    have u1 := (hS2 1 rfl).trans s1
    refine W_skip (W_seq (W_regionF (H' := H3) (fun S => getT S 3 = a ∧ getT S 4 = .int .i64 e) ?_ ?_))
    · (repeat (first | (apply ops_go (wanted_none rfl); (simp +decide only [aRegion_plain, aOps_cons2, aOps_nil, wantedA, if_true, aOp, cls, pOp, rOp, nOp, eOp, opd_tmp, opd_const, opd_func, withH, getT_setT2, pCall, rCall, eCallee, eApp, eStore, pBin, pUn, pField, pIndexAddr, pExtract, pPick, rLoad, nDone, newVal, opds_nil, opds_cons2, consO_some, partsOf, setT_no, aBin_lss, aBin_neq, aBin_geq, aBin_gtr, aBin_leq, aBin_eql, aUn_not, ofValue_int, ofValue_bool, ofValue_nil, if_false, u1, ld25 hu2.all, eCall, List.nil_append, List.append_nil, callF6, hc6, List.getElem?_cons_zero, List.getElem?_cons_succ]; rfl)) | (apply ops_goG (b := true) rfl rfl rfl rfl; (focus (simp +decide only [aRegion_plain, aOps_cons2, aOps_nil, wantedA, if_true, aOp, cls, pOp, rOp, nOp, eOp, opd_tmp, opd_const, opd_func, withH, getT_setT2, pCall, rCall, eCallee, eApp, eStore, pBin, pUn, pField, pIndexAddr, pExtract, pPick, rLoad, nDone, newVal, opds_nil, opds_cons2, consO_some, partsOf, setT_no, aBin_lss, aBin_neq, aBin_geq, aBin_gtr, aBin_leq, aBin_eql, aUn_not, ofValue_int, ofValue_bool, ofValue_nil, if_false, u1, ld25 hu2.all, eCall, List.nil_append, List.append_nil, callF6, hc6, List.getElem?_cons_zero, List.getElem?_cons_succ]; done)); (simp +decide only [aRegion_plain, aOps_cons2, aOps_nil, wantedA, if_true, aOp, cls, pOp, rOp, nOp, eOp, opd_tmp, opd_const, opd_func, withH, getT_setT2, pCall, rCall, eCallee, eApp, eStore, pBin, pUn, pField, pIndexAddr, pExtract, pPick, rLoad, nDone, newVal, opds_nil, opds_cons2, consO_some, partsOf, setT_no, aBin_lss, aBin_neq, aBin_geq, aBin_gtr, aBin_leq, aBin_eql, aUn_not, ofValue_int, ofValue_bool, ofValue_nil, if_false, u1, ld25 hu2.all, eCall, List.nil_append, List.append_nil, callF6, hc6, List.getElem?_cons_zero, List.getElem?_cons_succ]; rfl)) | (apply ops_missG (b := true) rfl rfl rfl rfl; (focus (simp +decide only [aRegion_plain, aOps_cons2, aOps_nil, wantedA, if_true, aOp, cls, pOp, rOp, nOp, eOp, opd_tmp, opd_const, opd_func, withH, getT_setT2, pCall, rCall, eCallee, eApp, eStore, pBin, pUn, pField, pIndexAddr, pExtract, pPick, rLoad, nDone, newVal, opds_nil, opds_cons2, consO_some, partsOf, setT_no, aBin_lss, aBin_neq, aBin_geq, aBin_gtr, aBin_leq, aBin_eql, aUn_not, ofValue_int, ofValue_bool, ofValue_nil, if_false, u1, ld25 hu2.all, eCall, List.nil_append, List.append_nil, callF6, hc6, List.getElem?_cons_zero, List.getElem?_cons_succ]; done))) | (apply ops_goG (b := false) rfl rfl rfl rfl; (focus (simp +decide only [aRegion_plain, aOps_cons2, aOps_nil, wantedA, if_true, aOp, cls, pOp, rOp, nOp, eOp, opd_tmp, opd_const, opd_func, withH, getT_setT2, pCall, rCall, eCallee, eApp, eStore, pBin, pUn, pField, pIndexAddr, pExtract, pPick, rLoad, nDone, newVal, opds_nil, opds_cons2, consO_some, partsOf, setT_no, aBin_lss, aBin_neq, aBin_geq, aBin_gtr, aBin_leq, aBin_eql, aUn_not, ofValue_int, ofValue_bool, ofValue_nil, if_false, u1, ld25 hu2.all, eCall, List.nil_append, List.append_nil, callF6, hc6, List.getElem?_cons_zero, List.getElem?_cons_succ]; done)); (simp +decide only [aRegion_plain, aOps_cons2, aOps_nil, wantedA, if_true, aOp, cls, pOp, rOp, nOp, eOp, opd_tmp, opd_const, opd_func, withH, getT_setT2, pCall, rCall, eCallee, eApp, eStore, pBin, pUn, pField, pIndexAddr, pExtract, pPick, rLoad, nDone, newVal, opds_nil, opds_cons2, consO_some, partsOf, setT_no, aBin_lss, aBin_neq, aBin_geq, aBin_gtr, aBin_leq, aBin_eql, aUn_not, ofValue_int, ofValue_bool, ofValue_nil, if_false, u1, ld25 hu2.all, eCall, List.nil_append, List.append_nil, callF6, hc6, List.getElem?_cons_zero, List.getElem?_cons_succ]; rfl)) | (apply ops_missG (b := false) rfl rfl rfl rfl; (focus (simp +decide only [aRegion_plain, aOps_cons2, aOps_nil, wantedA, if_true, aOp, cls, pOp, rOp, nOp, eOp, opd_tmp, opd_const, opd_func, withH, getT_setT2, pCall, rCall, eCallee, eApp, eStore, pBin, pUn, pField, pIndexAddr, pExtract, pPick, rLoad, nDone, newVal, opds_nil, opds_cons2, consO_some, partsOf, setT_no, aBin_lss, aBin_neq, aBin_geq, aBin_gtr, aBin_leq, aBin_eql, aUn_not, ofValue_int, ofValue_bool, ofValue_nil, if_false, u1, ld25 hu2.all, eCall, List.nil_append, List.append_nil, callF6, hc6, List.getElem?_cons_zero, List.getElem?_cons_succ]; done))) | (apply ops_missN rfl rfl rfl; (focus (simp +decide only [aRegion_plain, aOps_cons2, aOps_nil, wantedA, if_true, aOp, cls, pOp, rOp, nOp, eOp, opd_tmp, opd_const, opd_func, withH, getT_setT2, pCall, rCall, eCallee, eApp, eStore, pBin, pUn, pField, pIndexAddr, pExtract, pPick, rLoad, nDone, newVal, opds_nil, opds_cons2, consO_some, partsOf, setT_no, aBin_lss, aBin_neq, aBin_geq, aBin_gtr, aBin_leq, aBin_eql, aUn_not, ofValue_int, ofValue_bool, ofValue_nil, if_false, u1, ld25 hu2.all, eCall, List.nil_append, List.append_nil, callF6, hc6, List.getElem?_cons_zero, List.getElem?_cons_succ]; done)))))
      exact ops_nil ⟨by simp +decide only [aRegion_plain, aOps_cons2, aOps_nil, wantedA, if_true, aOp, cls, pOp, rOp, nOp, eOp, opd_tmp, opd_const, opd_func, withH, getT_setT2, pCall, rCall, eCallee, eApp, eStore, pBin, pUn, pField, pIndexAddr, pExtract, pPick, rLoad, nDone, newVal, opds_nil, opds_cons2, consO_some, partsOf, setT_no, aBin_lss, aBin_neq, aBin_geq, aBin_gtr, aBin_leq, aBin_eql, aUn_not, ofValue_int, ofValue_bool, ofValue_nil, if_false], by simp +decide only [aRegion_plain, aOps_cons2, aOps_nil, wantedA, if_true, aOp, cls, pOp, rOp, nOp, eOp, opd_tmp, opd_const, opd_func, withH, getT_setT2, pCall, rCall, eCallee, eApp, eStore, pBin, pUn, pField, pIndexAddr, pExtract, pPick, rLoad, nDone, newVal, opds_nil, opds_cons2, consO_some, partsOf, setT_no, aBin_lss, aBin_neq, aBin_geq, aBin_gtr, aBin_leq, aBin_eql, aUn_not, ofValue_int, ofValue_bool, ofValue_nil, if_false]⟩
    rintro S3 ⟨s3, s4⟩ hS3
    have v1 := (hS3 1 rfl).trans u1
    refine W_seq (W_regionF (H' := H4) (fun S => getT S 5 = b ∧ getT S 6 = .int .i64 e) ?_ ?_)
    · (repeat (first | (apply ops_go (wanted_none rfl); (simp +decide only [aRegion_plain, aOps_cons2, aOps_nil, wantedA, if_true, aOp, cls, pOp, rOp, nOp, eOp, opd_tmp, opd_const, opd_func, withH, getT_setT2, pCall, rCall, eCallee, eApp, eStore, pBin, pUn, pField, pIndexAddr, pExtract, pPick, rLoad, nDone, newVal, opds_nil, opds_cons2, consO_some, partsOf, setT_no, aBin_lss, aBin_neq, aBin_geq, aBin_gtr, aBin_leq, aBin_eql, aUn_not, ofValue_int, ofValue_bool, ofValue_nil, if_false, v1, ld25 hu3.all, eCall, List.nil_append, List.append_nil, callF7, hc7, List.getElem?_cons_zero, List.getElem?_cons_succ]; rfl)) | (apply ops_goG (b := true) rfl rfl rfl rfl; (focus (simp +decide only [aRegion_plain, aOps_cons2, aOps_nil, wantedA, if_true, aOp, cls, pOp, rOp, nOp, eOp, opd_tmp, opd_const, opd_func, withH, getT_setT2, pCall, rCall, eCallee, eApp, eStore, pBin, pUn, pField, pIndexAddr, pExtract, pPick, rLoad, nDone, newVal, opds_nil, opds_cons2, consO_some, partsOf, setT_no, aBin_lss, aBin_neq, aBin_geq, aBin_gtr, aBin_leq, aBin_eql, aUn_not, ofValue_int, ofValue_bool, ofValue_nil, if_false, v1, ld25 hu3.all, eCall, List.nil_append, List.append_nil, callF7, hc7, List.getElem?_cons_zero, List.getElem?_cons_succ]; done)); (simp +decide only [aRegion_plain, aOps_cons2, aOps_nil, wantedA, if_true, aOp, cls, pOp, rOp, nOp, eOp, opd_tmp, opd_const, opd_func, withH, getT_setT2, pCall, rCall, eCallee, eApp, eStore, pBin, pUn, pField, pIndexAddr, pExtract, pPick, rLoad, nDone, newVal, opds_nil, opds_cons2, consO_some, partsOf, setT_no, aBin_lss, aBin_neq, aBin_geq, aBin_gtr, aBin_leq, aBin_eql, aUn_not, ofValue_int, ofValue_bool, ofValue_nil, if_false, v1, ld25 hu3.all, eCall, List.nil_append, List.append_nil, callF7, hc7, List.getElem?_cons_zero, List.getElem?_cons_succ]; rfl)) | (apply ops_missG (b := true) rfl rfl rfl rfl; (focus (simp +decide only [aRegion_plain, aOps_cons2, aOps_nil, wantedA, if_true, aOp, cls, pOp, rOp, nOp, eOp, opd_tmp, opd_const, opd_func, withH, getT_setT2, pCall, rCall, eCallee, eApp, eStore, pBin, pUn, pField, pIndexAddr, pExtract, pPick, rLoad, nDone, newVal, opds_nil, opds_cons2, consO_some, partsOf, setT_no, aBin_lss, aBin_neq, aBin_geq, aBin_gtr, aBin_leq, aBin_eql, aUn_not, ofValue_int, ofValue_bool, ofValue_nil, if_false, v1, ld25 hu3.all, eCall, List.nil_append, List.append_nil, callF7, hc7, List.getElem?_cons_zero, List.getElem?_cons_succ]; done))) | (apply ops_goG (b := false) rfl rfl rfl rfl; (focus (simp +decide only [aRegion_plain, aOps_cons2, aOps_nil, wantedA, if_true, aOp, cls, pOp, rOp, nOp, eOp, opd_tmp, opd_const, opd_func, withH, getT_setT2, pCall, rCall, eCallee, eApp, eStore, pBin, pUn, pField, pIndexAddr, pExtract, pPick, rLoad, nDone, newVal, opds_nil, opds_cons2, consO_some, partsOf, setT_no, aBin_lss, aBin_neq, aBin_geq, aBin_gtr, aBin_leq, aBin_eql, aUn_not, ofValue_int, ofValue_bool, ofValue_nil, if_false, v1, ld25 hu3.all, eCall, List.nil_append, List.append_nil, callF7, hc7, List.getElem?_cons_zero, List.getElem?_cons_succ]; done)); (simp +decide only [aRegion_plain, aOps_cons2, aOps_nil, wantedA, if_true, aOp, cls, pOp, rOp, nOp, eOp, opd_tmp, opd_const, opd_func, withH, getT_setT2, pCall, rCall, eCallee, eApp, eStore, pBin, pUn, pField, pIndexAddr, pExtract, pPick, rLoad, nDone, newVal, opds_nil, opds_cons2, consO_some, partsOf, setT_no, aBin_lss, aBin_neq, aBin_geq, aBin_gtr, aBin_leq, aBin_eql, aUn_not, ofValue_int, ofValue_bool, ofValue_nil, if_false, v1, ld25 hu3.all, eCall, List.nil_append, List.append_nil, callF7, hc7, List.getElem?_cons_zero, List.getElem?_cons_succ]; rfl)) | (apply ops_missG (b := false) rfl rfl rfl rfl; (focus (simp +decide only [aRegion_plain, aOps_cons2, aOps_nil, wantedA, if_true, aOp, cls, pOp, rOp, nOp, eOp, opd_tmp, opd_const, opd_func, withH, getT_setT2, pCall, rCall, eCallee, eApp, eStore, pBin, pUn, pField, pIndexAddr, pExtract, pPick, rLoad, nDone, newVal, opds_nil, opds_cons2, consO_some, partsOf, setT_no, aBin_lss, aBin_neq, aBin_geq, aBin_gtr, aBin_leq, aBin_eql, aUn_not, ofValue_int, ofValue_bool, ofValue_nil, if_false, v1, ld25 hu3.all, eCall, List.nil_append, List.append_nil, callF7, hc7, List.getElem?_cons_zero, List.getElem?_cons_succ]; done))) | (apply ops_missN rfl rfl rfl; (focus (simp +decide only [aRegion_plain, aOps_cons2, aOps_nil, wantedA, if_true, aOp, cls, pOp, rOp, nOp, eOp, opd_tmp, opd_const, opd_func, withH, getT_setT2, pCall, rCall, eCallee, eApp, eStore, pBin, pUn, pField, pIndexAddr, pExtract, pPick, rLoad, nDone, newVal, opds_nil, opds_cons2, consO_some, partsOf, setT_no, aBin_lss, aBin_neq, aBin_geq, aBin_gtr, aBin_leq, aBin_eql, aUn_not, ofValue_int, ofValue_bool, ofValue_nil, if_false, v1, ld25 hu3.all, eCall, List.nil_append, List.append_nil, callF7, hc7, List.getElem?_cons_zero, List.getElem?_cons_succ]; done)))))
      exact ops_nil ⟨by simp +decide only [aRegion_plain, aOps_cons2, aOps_nil, wantedA, if_true, aOp, cls, pOp, rOp, nOp, eOp, opd_tmp, opd_const, opd_func, withH, getT_setT2, pCall, rCall, eCallee, eApp, eStore, pBin, pUn, pField, pIndexAddr, pExtract, pPick, rLoad, nDone, newVal, opds_nil, opds_cons2, consO_some, partsOf, setT_no, aBin_lss, aBin_neq, aBin_geq, aBin_gtr, aBin_leq, aBin_eql, aUn_not, ofValue_int, ofValue_bool, ofValue_nil, if_false], by simp +decide only [aRegion_plain, aOps_cons2, aOps_nil, wantedA, if_true, aOp, cls, pOp, rOp, nOp, eOp, opd_tmp, opd_const, opd_func, withH, getT_setT2, pCall, rCall, eCallee, eApp, eStore, pBin, pUn, pField, pIndexAddr, pExtract, pPick, rLoad, nDone, newVal, opds_nil, opds_cons2, consO_some, partsOf, setT_no, aBin_lss, aBin_neq, aBin_geq, aBin_gtr, aBin_leq, aBin_eql, aUn_not, ofValue_int, ofValue_bool, ofValue_nil, if_false]⟩
    rintro S4 ⟨s5, s6⟩ hS4
    have w3 := (hS4 3 rfl).trans s3
    have w4 := (hS4 4 rfl).trans s4
    have hc8 := c8 H4 a b l l la lb hll
    rw [decide_eq_true rfl] at hc8
    have hee : decide (e = e) = true := decide_eq_true rfl
    refine W_seq (W_regionF (H' := H4) (fun S => getT S 2 = .bool true) ?_ ?_)
    · (repeat (first | (apply ops_go (wanted_none rfl); (simp +decide only [aRegion_plain, aOps_cons2, aOps_nil, wantedA, if_true, aOp, cls, pOp, rOp, nOp, eOp, opd_tmp, opd_const, opd_func, withH, getT_setT2, pCall, rCall, eCallee, eApp, eStore, pBin, pUn, pField, pIndexAddr, pExtract, pPick, rLoad, nDone, newVal, opds_nil, opds_cons2, consO_some, partsOf, setT_no, aBin_lss, aBin_neq, aBin_geq, aBin_gtr, aBin_leq, aBin_eql, aUn_not, ofValue_int, ofValue_bool, ofValue_nil, if_false, w3, w4, s5, s6, eq_self, decide_true, eCall, List.nil_append, List.append_nil, callF8, hc8]; rfl)) | (apply ops_goG (b := true) rfl rfl rfl rfl; (focus (simp +decide only [aRegion_plain, aOps_cons2, aOps_nil, wantedA, if_true, aOp, cls, pOp, rOp, nOp, eOp, opd_tmp, opd_const, opd_func, withH, getT_setT2, pCall, rCall, eCallee, eApp, eStore, pBin, pUn, pField, pIndexAddr, pExtract, pPick, rLoad, nDone, newVal, opds_nil, opds_cons2, consO_some, partsOf, setT_no, aBin_lss, aBin_neq, aBin_geq, aBin_gtr, aBin_leq, aBin_eql, aUn_not, ofValue_int, ofValue_bool, ofValue_nil, if_false, w3, w4, s5, s6, eq_self, decide_true, eCall, List.nil_append, List.append_nil, callF8, hc8]; done)); (simp +decide only [aRegion_plain, aOps_cons2, aOps_nil, wantedA, if_true, aOp, cls, pOp, rOp, nOp, eOp, opd_tmp, opd_const, opd_func, withH, getT_setT2, pCall, rCall, eCallee, eApp, eStore, pBin, pUn, pField, pIndexAddr, pExtract, pPick, rLoad, nDone, newVal, opds_nil, opds_cons2, consO_some, partsOf, setT_no, aBin_lss, aBin_neq, aBin_geq, aBin_gtr, aBin_leq, aBin_eql, aUn_not, ofValue_int, ofValue_bool, ofValue_nil, if_false, w3, w4, s5, s6, eq_self, decide_true, eCall, List.nil_append, List.append_nil, callF8, hc8]; rfl)) | (apply ops_missG (b := true) rfl rfl rfl rfl; (focus (simp +decide only [aRegion_plain, aOps_cons2, aOps_nil, wantedA, if_true, aOp, cls, pOp, rOp, nOp, eOp, opd_tmp, opd_const, opd_func, withH, getT_setT2, pCall, rCall, eCallee, eApp, eStore, pBin, pUn, pField, pIndexAddr, pExtract, pPick, rLoad, nDone, newVal, opds_nil, opds_cons2, consO_some, partsOf, setT_no, aBin_lss, aBin_neq, aBin_geq, aBin_gtr, aBin_leq, aBin_eql, aUn_not, ofValue_int, ofValue_bool, ofValue_nil, if_false, w3, w4, s5, s6, eq_self, decide_true, eCall, List.nil_append, List.append_nil, callF8, hc8]; done))) | (apply ops_goG (b := false) rfl rfl rfl rfl; (focus (simp +decide only [aRegion_plain, aOps_cons2, aOps_nil, wantedA, if_true, aOp, cls, pOp, rOp, nOp, eOp, opd_tmp, opd_const, opd_func, withH, getT_setT2, pCall, rCall, eCallee, eApp, eStore, pBin, pUn, pField, pIndexAddr, pExtract, pPick, rLoad, nDone, newVal, opds_nil, opds_cons2, consO_some, partsOf, setT_no, aBin_lss, aBin_neq, aBin_geq, aBin_gtr, aBin_leq, aBin_eql, aUn_not, ofValue_int, ofValue_bool, ofValue_nil, if_false, w3, w4, s5, s6, eq_self, decide_true, eCall, List.nil_append, List.append_nil, callF8, hc8]; done)); (simp +decide only [aRegion_plain, aOps_cons2, aOps_nil, wantedA, if_true, aOp, cls, pOp, rOp, nOp, eOp, opd_tmp, opd_const, opd_func, withH, getT_setT2, pCall, rCall, eCallee, eApp, eStore, pBin, pUn, pField, pIndexAddr, pExtract, pPick, rLoad, nDone, newVal, opds_nil, opds_cons2, consO_some, partsOf, setT_no, aBin_lss, aBin_neq, aBin_geq, aBin_gtr, aBin_leq, aBin_eql, aUn_not, ofValue_int, ofValue_bool, ofValue_nil, if_false, w3, w4, s5, s6, eq_self, decide_true, eCall, List.nil_append, List.append_nil, callF8, hc8]; rfl)) | (apply ops_missG (b := false) rfl rfl rfl rfl; (focus (simp +decide only [aRegion_plain, aOps_cons2, aOps_nil, wantedA, if_true, aOp, cls, pOp, rOp, nOp, eOp, opd_tmp, opd_const, opd_func, withH, getT_setT2, pCall, rCall, eCallee, eApp, eStore, pBin, pUn, pField, pIndexAddr, pExtract, pPick, rLoad, nDone, newVal, opds_nil, opds_cons2, consO_some, partsOf, setT_no, aBin_lss, aBin_neq, aBin_geq, aBin_gtr, aBin_leq, aBin_eql, aUn_not, ofValue_int, ofValue_bool, ofValue_nil, if_false, w3, w4, s5, s6, eq_self, decide_true, eCall, List.nil_append, List.append_nil, callF8, hc8]; done))) | (apply ops_missN rfl rfl rfl; (focus (simp +decide only [aRegion_plain, aOps_cons2, aOps_nil, wantedA, if_true, aOp, cls, pOp, rOp, nOp, eOp, opd_tmp, opd_const, opd_func, withH, getT_setT2, pCall, rCall, eCallee, eApp, eStore, pBin, pUn, pField, pIndexAddr, pExtract, pPick, rLoad, nDone, newVal, opds_nil, opds_cons2, consO_some, partsOf, setT_no, aBin_lss, aBin_neq, aBin_geq, aBin_gtr, aBin_leq, aBin_eql, aUn_not, ofValue_int, ofValue_bool, ofValue_nil, if_false, w3, w4, s5, s6, eq_self, decide_true, eCall, List.nil_append, List.append_nil, callF8, hc8]; done)))))
      exact ops_nil (by simp +decide only [aRegion_plain, aOps_cons2, aOps_nil, wantedA, if_true, aOp, cls, pOp, rOp, nOp, eOp, opd_tmp, opd_const, opd_func, withH, getT_setT2, pCall, rCall, eCallee, eApp, eStore, pBin, pUn, pField, pIndexAddr, pExtract, pPick, rLoad, nDone, newVal, opds_nil, opds_cons2, consO_some, partsOf, setT_no, aBin_lss, aBin_neq, aBin_geq, aBin_gtr, aBin_leq, aBin_eql, aUn_not, ofValue_int, ofValue_bool, ofValue_nil, if_false])
    intro S5 s2 _
    exact W_ret ⟨by simp, [_], rfl, s2⟩
end Go.Abs

namespace Go.Abs
open Go Go.Proofs Go.Abs.Law

theorem intsA_inj : ∀ {a b : List Int}, intsA a = intsA b → a = b
  | [], [], _ => rfl
  | [], _ :: _, h => by simp [intsA] at h
  | _ :: _, [], h => by simp [intsA] at h
  | x :: a, y :: b, h => by
    simp only [intsA, List.map_cons, List.cons.injEq, AVal.int.injEq, true_and] at h
    rw [h.1, intsA_inj (a := a) (b := b) (by simpa [intsA] using h.2)]
theorem compact_le (zs : List Int) : (Lib.compact zs).length ≤ zs.length := by
  unfold Lib.compact Lib.compactUpTo
  rw [List.length_map]
  exact Nat.le_trans (List.length_filter_le _ _) (by simp)
def compRow (zs : List Int) : List Int := Lib.compact zs ++ List.replicate (zs.length - (Lib.compact zs).length) 0
theorem compRow_length (zs : List Int) : (compRow zs).length = zs.length := by
  have := compact_le zs
  simp [compRow]; omega

inductive BaseR (row0 : Row) : FuncId → List AVal → AHeap → AVal × AHeap → Prop
  | awake {H : AHeap} (h : H.objs.get 0 = some row0) : BaseR row0 4 [] H (.bool true, H)
  | sortNil {H : AHeap} : BaseR row0 18 [.nilSlice] H (.tuple [], H)
  | sort {H H' : AHeap} {v n : Nat} {zs : List Int} (hr : readCells H.objs.get v 0 n = some (intsA zs)) (hs : ∃ r, H.objs.get v = some r ∧ r.sz = 1) (hl : zs.length ≤ 1000) (hw : write H v 0 (intsA (srt zs)) = some H') : BaseR row0 18 [.slice v 0 n none] H (.tuple [], H')
  | compNil {H : AHeap} : BaseR row0 19 [.nilSlice] H (.nilSlice, H)
  | comp {H H' : AHeap} {v n : Nat} {zs : List Int} (hr : readCells H.objs.get v 0 n = some (intsA zs)) (hs : ∃ r, H.objs.get v = some r ∧ r.sz = 1) (hl : zs.length ≤ 1000) (hw : write H v 0 (intsA (compRow zs)) = some H') : BaseR row0 19 [.slice v 0 n none] H (.slice v 0 (Lib.compact zs).length none, H')

theorem chg_same {B ng : Nat} {ρ : Rho} {H : AHeap} {w w' : World} (s : Sim B ng ρ H w) (e : w' = w) : Chg B ng H.objs.get H.next H.next ρ w H.objs.get H.fams.get ρ w' := by
  subst e; exact Chg.refl s _ _

/-- what awake gives, from any heap with its table -/
def AwakeOk (row0 : Row) : Prop := ∀ (H : AHeap), H.objs.get 0 = some row0 → ∀ B ρ w xs, Sim B 1 ρ H w → vrels ρ [] xs →
  Calls Tryz.prog 4 ⟨xs⟩ w (fun e w' => ∃ x, e = .returned x ∧ vrel ρ (.bool true) x ∧ Chg B 1 H.objs.get H.next H.next ρ w H.objs.get H.fams.get ρ w')

theorem grow_nil (w : World) : Sort.grow w #[] = w := by
  unfold Sort.grow
  rw [Array.append_empty]

theorem base_ok {row0 : Row} (ha : AwakeOk row0) : CallOk Tryz.prog 1 (baseOf (BaseR row0)) := by
  intro f args H v H' h B ρ w xs s wf hfree hx
  have hR := baseOf_some h
  cases hR with
  | awake h0 => exact (ha H h0 B ρ w xs s hx).mono fun e w' ⟨x, h1, h2, h3⟩ => ⟨x, ρ, h1, h2, h3⟩
  | sortNil =>
    obtain ⟨y, ys, rfl, hy, hys⟩ := vrels_cons.1 hx
    obtain rfl := vrels_nil.1 hys
    have hy : y = .slice none 0 0 := hy
    subst hy
    exact (Tryz.slices_Sort_int_none none 0 w).mono fun e w' ⟨h1, h2⟩ => ⟨_, ρ, h1, ⟨[], rfl, rfl⟩, chg_same s h2⟩
  | sort hr hs hl hw =>
    rename_i v n zs
    refine (inPlace_ok (res := fun _ => .tuple #[]) s hr hw hs (fun blk off cap hh hb hc => ?_) hx).mono fun e w' ⟨l, hl, hl1, he, hc⟩ => ⟨_, ρ, he, ⟨[], rfl, rfl⟩, hc⟩
    exact Tryz.slices_Sort_int blk off cap zs w hh hb (by omega)
  | compNil =>
    obtain ⟨y, ys, rfl, hy, hys⟩ := vrels_cons.1 hx
    obtain rfl := vrels_nil.1 hys
    have hy : y = .slice none 0 0 := hy
    subst hy
    exact (Tryz.slices_Compact_int_empty none 0 w).mono fun e w' ⟨h1, h2⟩ => ⟨_, ρ, h1, rfl, chg_same s h2⟩
  | comp hr hs hl hw =>
    rename_i v n zs
    refine (inPlace_ok (res := fun l => .slice (some ⟨l.blk, l.off, none⟩) (Lib.compact zs).length l.cap) s hr hw hs (fun blk off cap hh hb hc => ?_) hx).mono fun e w' ⟨l, hl, hl1, he, hc⟩ => ⟨_, ρ, he, ⟨l, hl, by simp [hl1]⟩, hc⟩
    refine (Tryz.slices_Compact_int blk off cap zs w hh (by omega) hc).mono fun e w' ⟨h1, q, h2⟩ => ⟨h1, q, #[], ?_⟩
    rw [h2, grow_nil]; rfl

theorem base_grow {row0 : Row} : CallGrow (baseOf (BaseR row0)) := by
  intro f args H v H' h
  have hR := baseOf_some h
  cases hR with
  | awake h0 => exact Grow.refl _
  | sortNil => exact Grow.refl _
  | sort hr hs hl hw => exact write_grow hw
  | compNil => exact Grow.refl _
  | comp hr hs hl hw => exact write_grow hw

/-- calls by bodies, k deep -/
noncomputable def lv (row0 : Row) : Nat → ACall
  | 0 => fun _ _ _ => none
  | k + 1 => stepCall Tryz.prog 1 (baseOf (BaseR row0)) (lv row0 k)

theorem lv_grow {row0 : Row} : ∀ k, CallGrow (lv row0 k)
  | 0 => fun _ _ _ _ _ h => by cases h
  | k + 1 => stepCall_grow base_grow (lv_grow k)
theorem lv_ok {row0 : Row} (ha : AwakeOk row0) (hst : StaticP Tryz.prog) : ∀ k, CallOk Tryz.prog 1 (lv row0 k)
  | 0 => fun _ _ _ _ _ h => by cases h
  | k + 1 => stepCall_ok (base_ok ha) (lv_ok ha hst k) (lv_grow k) hst

theorem lv_body {row0 : Row} {k : Nat} {f : FuncId} {args : List AVal} {H : AHeap} {r : AVal × AHeap} (hf : f ≠ 4 ∧ f ≠ 18 ∧ f ≠ 19) (h : FnRes Tryz.prog 1 (lv row0 k) f args H r) : lv row0 (k + 1) f args H = some r := by
  refine stepCall_body (baseOf_none fun r hr => ?_) h
  cases hr <;> simp_all

theorem spec4 {row0 : Row} (k : Nat) : Spec4 (lv row0 (k + 1)) row0 := by
  intro H h
  obtain ⟨r, h1, h2⟩ := baseOf_get (BaseR.awake h)
  have : r = (.bool true, H) := by cases h2; rfl
  subst this
  exact stepCall_base h1

theorem spec18 {row0 : Row} (k : Nat) : Spec18 (lv row0 (k + 1)) := by
  intro H s zs fm g hs hl
  obtain ⟨h1, ⟨rfl, hz, rfl⟩ | ⟨v, r, rfl, o, hrs, hlen, ht, rfl⟩⟩ := hs
  · obtain rfl := List.eq_nil_of_length_eq_zero hz
    obtain ⟨r, h1, h2⟩ := baseOf_get (R := BaseR row0) (f := 18) (args := [.nilSlice]) (H := H) BaseR.sortNil
    have : r = (.tuple [], H) := by cases h2; rfl
    subst this
    exact ⟨H, stepCall_base h1, ⟨by rw [ints_length, srt_length]; simp, .inl ⟨rfl, rfl, rfl⟩⟩, Fr.refl _ _, g⟩
  · rw [Nat.mul_one] at hlen ht
    have hil : (intsA (srt zs)).length = zs.length := by simp [intsA, srt_length]
    obtain ⟨H', hw, ho', hf, hn, g'⟩ := write_own g o (off := 0) (new := intsA (srt zs)) (by omega) (ints_one _)
    have hr : readCells H.objs.get v 0 zs.length = some (intsA zs) := by
      simp only [readCells, o.row]
      rw [Nat.ble_eq_true_of_le (by omega)]
      simp only [List.drop_zero, ht]; rfl
    obtain ⟨r', h2, h3⟩ := baseOf_get (R := BaseR row0) (BaseR.sort hr ⟨r, o.row, hrs⟩ hl hw)
    have : r' = (.tuple [], H') := by
      cases h3 with
      | sort hr2 _ _ hw2 =>
        rw [hr] at hr2
        have e := intsA_inj (Option.some.inj hr2)
        subst e
        rw [hw] at hw2; cases hw2; rfl
    subst this
    refine ⟨H', stepCall_base h2, ⟨by rw [ints_length, srt_length]; omega, .inr ⟨v, _, rfl, ho', hrs, ?_, ?_, rfl⟩⟩, hf, g'⟩
    · simp only; rw [length_listPut _ _ _ (by omega)]; omega
    · simp only [listPut, List.take_zero, List.nil_append, Nat.mul_one]
      rw [List.take_append, List.take_of_length_le (by omega), hil]
      simp; rfl

theorem spec19 {row0 : Row} (k : Nat) : Spec19 (lv row0 (k + 1)) := by
  intro H s zs fm g hs hl
  obtain ⟨h1, ⟨rfl, hz, rfl⟩ | ⟨v, r, rfl, o, hrs, hlen, ht, rfl⟩⟩ := hs
  · obtain rfl := List.eq_nil_of_length_eq_zero hz
    obtain ⟨r, h1, h2⟩ := baseOf_get (R := BaseR row0) (f := 19) (args := [.nilSlice]) (H := H) BaseR.compNil
    have : r = (.nilSlice, H) := by cases h2; rfl
    subst this
    exact ⟨_, H, stepCall_base h1, ⟨rfl, .inl ⟨rfl, rfl, rfl⟩⟩, Fr.refl _ _, g⟩
  · rw [Nat.mul_one] at hlen ht
    have hcl := compact_le zs
    have hil : (intsA (compRow zs)).length = zs.length := by rw [← compRow_length zs]; simp [intsA]
    obtain ⟨H', hw, ho', hf, hn, g'⟩ := write_own g o (off := 0) (new := intsA (compRow zs)) (by omega) (ints_one _)
    have hr : readCells H.objs.get v 0 zs.length = some (intsA zs) := by
      simp only [readCells, o.row]
      rw [Nat.ble_eq_true_of_le (by omega)]
      simp only [List.drop_zero, ht]; rfl
    obtain ⟨r', h2, h3⟩ := baseOf_get (R := BaseR row0) (BaseR.comp hr ⟨r, o.row, hrs⟩ hl hw)
    have : r' = (.slice v 0 (Lib.compact zs).length none, H') := by
      cases h3 with
      | comp hr2 _ _ hw2 =>
        rw [hr] at hr2
        have e := intsA_inj (Option.some.inj hr2)
        subst e
        rw [hw] at hw2; cases hw2; rfl
    subst this
    refine ⟨_, H', stepCall_base h2, ⟨by rw [ints_length]; omega, .inr ⟨v, _, rfl, ho', hrs, ?_, ?_, rfl⟩⟩, hf, g'⟩
    · simp only; rw [length_listPut _ _ _ (by omega)]; omega
    · have e : intsA (compRow zs) = ints (Lib.compact zs) ++ ints (List.replicate (zs.length - (Lib.compact zs).length) 0) := by
        rw [← ints_append]; rfl
      simp only [listPut, List.take_zero, List.nil_append, Nat.mul_one]
      rw [e, List.append_assoc, List.take_append, List.take_of_length_le (by rw [ints_length]; omega), ints_length]
      simp

theorem spec16 {row0 : Row} (k : Nat) : Spec16 (lv row0 (k + 1)) := fun H cs z g hz => by
  obtain ⟨r, h1, h2⟩ := closure_spec (call := lv row0 k) g hz
  exact ⟨r, lv_body (by decide) h1, h2⟩
theorem spec34 {row0 : Row} (k : Nat) : Spec34 (lv row0 (k + 2)) := fun H s evs g hs hb => by
  obtain ⟨r, h1, h2⟩ := indexFunc_spec (spec16 (row0 := row0) k) g hs hb
  exact ⟨r, lv_body (by decide) h1, h2⟩
theorem spec15 {row0 : Row} (k : Nat) : Spec15 (lv row0 (k + 3)) := fun H s evs g hs hb => by
  obtain ⟨r, h1, h2⟩ := containsFunc_spec (spec34 (row0 := row0) k) g hs hb
  exact ⟨r, lv_body (by decide) h1, h2⟩
theorem spec68 {row0 : Row} (k : Nat) : Spec68 (lv row0 (k + 1)) := fun H n g hn => by
  obtain ⟨r, h1, h2⟩ := grow_spec (call := lv row0 k) g hn
  exact ⟨r, lv_body (by decide) h1, h2⟩
theorem spec35 {row0 : Row} (k : Nat) : Spec35 (lv row0 (k + 2)) := fun H s l g hs hl hb => by
  obtain ⟨r, h1, h2⟩ := concat_spec (spec68 (row0 := row0) k) g hs hl hb
  exact ⟨r, lv_body (by decide) h1, h2⟩
theorem spec17 {row0 : Row} (k : Nat) : Spec17 (lv row0 (k + 3)) := fun H ru sN sE z1 z2 g h1 h2 hb => by
  obtain ⟨r, h3, h4⟩ := used17_spec (spec35 (row0 := row0) k) g h1 h2 hb
  exact ⟨r, lv_body (by decide) h3, h4⟩
theorem spec20 {row0 : Row} (k : Nat) : Spec20 (lv row0 (k + 1)) := fun H ru sN sE z1 z2 g h1 h2 hb1 hb2 => by
  obtain ⟨r, h3, h4⟩ := used20_spec (call := lv row0 k) g h1 h2 hb1 hb2 (ru := ru)
  rw [← List.length_append] at h4
  exact ⟨r, lv_body (by decide) h3, h4⟩
theorem spec21 {row0 : Row} (k : Nat) : Spec21 (lv row0 (k + 1)) := fun H s bs g hs hb => by
  obtain ⟨r, h3, h4⟩ := marked_spec (call := lv row0 k) g hs hb
  exact ⟨r, lv_body (by decide) h3, h4⟩
theorem spec5 {row0 : Row} (k : Nat) : Spec5 (lv row0 (k + 1)) := fun H sL sV evs us g h1 h2 hb => by
  obtain ⟨r, h3, h4⟩ := few_spec (call := lv row0 k) g h1 h2 hb
  exact ⟨r, lv_body (by decide) h3, h4⟩
theorem spec6 {row0 : Row} (k : Nat) : SpecC (lv row0 (k + 4)) 6 fP := fun H sL sV evs us g h1 h2 a b c => by
  obtain ⟨r, h3, h4⟩ := causes6_spec (spec15 (row0 := row0) k) (spec17 k) (spec18 (k + 2)) (spec19 (k + 2)) g h1 h2 a b c
  exact ⟨r, lv_body (by decide) h3, h4⟩
theorem spec7 {row0 : Row} (k : Nat) : SpecC (lv row0 (k + 2)) 7 fR := fun H sL sV evs us g h1 h2 a b c => by
  obtain ⟨r, h3, h4⟩ := causes7_spec (spec20 (row0 := row0) k) (spec21 k) g h1 h2 a b c
  exact ⟨r, lv_body (by decide) h3, h4⟩
theorem spec8 {row0 : Row} (k : Nat) : Spec8 (lv row0 (k + 2)) := fun H s1 s2 l1 l2 h1 h2 hb =>
  lv_body (by decide) (equalFunc_spec (fun s1 s2 z1 z2 h1 h2 hb => lv_body (by decide) (equal_spec h1 h2 hb)) h1 h2 hb)

/-- the law, in any world that such a heap describes -/
theorem law_calls {row0 : Row} (ha : AwakeOk row0) (hst : StaticP Tryz.prog) {H : AHeap} (g : Good H) (h0 : H.objs.get 0 = some row0) {sL sV : AVal} {evs : List Int} {us : List Use} (h1 : RElems H.objs.get sL evs) (h2 : REvents H.objs.get sV us)
    (hbig : ∀ u ∈ us, InK (Int.ofNat u.nodes.length + Int.ofNat u.edges.length)) {B : Nat} {ρ : Rho} {w : World} {xs : List Value} (s : Sim B 1 ρ H w) (hfree : ∀ v, H.next ≤ v → ρ v = none) (hx : vrels ρ [.agg [sL, sV]] xs) :
    Calls Tryz.prog 3 ⟨xs⟩ w (fun e w' => e = .returned (.bool true) ∧ w'.os = w.os ∧ w'.tape = w.tape ∧ w'.output = w.output ∧ w.heap.size ≤ w'.heap.size ∧ ∀ b, b < B → w'.heap[b]? = w.heap[b]?) := by
  obtain ⟨⟨v, H'⟩, h3, rfl⟩ := law3_spec (spec4 (row0 := row0) 3) (spec5 3) (spec6 0) (spec7 2) (spec8 2) g h0 h1 h2 hbig
  refine (fnRes_ok (lv_ok ha hst 4) (lv_grow 4) hst h3 B ρ w xs s g.wf (fun v h _ => hfree v h) hx).mono fun e w' ⟨x, ρ', he, hv, hc⟩ => ?_
  have hv : x = .bool true := hv
  subst hv
  exact ⟨he, hc.os, hc.tape, hc.output, hc.size, Chg.below s hc⟩
end Go.Abs
