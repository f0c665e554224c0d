/- UnfoldingCauses: for every unfolding that can be read the law returns true, and the argument reads afterwards as it read before. Conditions: those of the given row alone (each slice that is read takes at most 2^47 - 4096 bytes; the table of math/bits is as the program text lays it). -/
import Derived.Test.YtanllkglpjjfbaaGreatDoorOpen
import Derived.Test.YtanllkglpjjfbaaGreatDoorFacts
import Derived.Test.YtanllkglpjjfbaaGreatDoorCards
import Derived.Test.YtanllkglpjjfbaaGreatDoorTie
import Derived.WalkKit
import Derived.ProofKit
import Derived.OpenShut
import Derived.ReadAgain
import Derived.Lib.SmallJoins
import Derived.Deep.DeepHandedRow
import Derived.Lib.LaidTab
set_option linter.unusedVariables false
set_option linter.unusedSimpArgs false
namespace Go.Proofs.YtanllkglpjjfbaaGreatDoor.causes
open Go.ChangeShapes Go.WideShapes Go.ChangeAt Go.RowKit Go.Joins

theorem own : ownKnob Tryz.prog.godebug = none := by kernel_rfl
theorem gTab : Tryz.prog.globalNamed "math/bits.deBruijn64tab" = some 0 := by kernel_rfl
theorem gTabType : (Tryz.prog.globals[0]?).map (·.type) = some 189 := by kernel_rfl
theorem cells189 : Tryz.prog.cellsOf 189 = 64 := by kernel_rfl
theorem cells5 : Tryz.prog.cellsOf 5 = 1 := by kernel_rfl
theorem kids : Kids Tryz.prog (· < Tryz.prog.types.size) := kids_rows (by kernel_rfl) (by kernel_rfl)
theorem full : ∀ t e, t < Tryz.prog.types.size → Tryz.prog.underlying t = some (.slice e) → 0 < Tryz.prog.cellsOf e := slices_full_of Tryz.prog (by kernel_rfl)
theorem lt25 : 25 < Tryz.prog.types.size := of_decide_eq_true (by kernel_rfl)

theorem laid_eq : Rows.unfoldingCausesRow.laid = [("math/bits.deBruijn64tab", Lib.tabData .u8 (Abs.tab.map Int.ofNat))] := by kernel_rfl
/-- the table, as the row's list gives it -/
theorem table {W : World} (h : laidMetH Tryz.prog Rows.unfoldingCausesRow.laid W) : Lib.TabIs Tryz.prog W "math/bits.deBruijn64tab" .u8 (Abs.tab.map Int.ofNat) := by
  rw [laid_eq] at h
  exact Lib.tabIs_of_head (rest := []) gTab gTabType Tryz.underlying189 Tryz.underlying5 cells5 cells189 h

theorem tab_len : (Abs.tab.map Int.ofNat).length = 64 := by kernel_rfl
theorem table_cell {W : World} (h : laidMetH Tryz.prog Rows.unfoldingCausesRow.laid W) (i : Nat) (hi : i < 64) : W.cell? ⟨0, i, none⟩ = some (.int .u8 (.ofNat (Abs.tab.getD i 0))) := by
  have := (table h).cell gTab i (by rw [tab_len]; exact hi)
  rw [this]
  have hl : i < Abs.tab.length := by have := tab_len; rw [List.length_map] at this; omega
  simp [List.getD, hl]

/-- an argument reads again as it did -/
theorem again {H : Type} {enc : TypeId × Value → H} {W W' : World} {v : Value} {d : DataW H} {p : List MemPlace} (hlt : ∀ q ∈ p, q.block < W.heap.size) (hb : Below W.heap.size W W') (h : DataW.Trod enc Tryz.prog W 0 (fun _ => true) true 25 v d p) (sp : Nat → Bool) (hsp : ∀ q ∈ p, sp q.block = true) :
    DataW.Trod enc Tryz.prog W' 0 sp true 25 v d p := by
  obtain ⟨n, hn⟩ := h
  have h' : DataW.Trod enc Tryz.prog W' 0 (fun _ => true) true 25 v d p := ⟨n, DataW.trod_carry n _ _ _ hn fun q hq => hb.same (hlt q hq)⟩
  exact h'.respare kids full lt25 hsp

set_option maxRecDepth 100000 in
theorem contract (H : Type) (enc : TypeId × Value → H) (W : World) (base : Nat) (args : Array Value) (ds gs : List (DataW H)) (before : List MemPlace)
    (hval : ∀ (j : Nat) t v, Tryz.f3.params[j]? = some t → args[j]? = some v → Value.okWide Tryz.prog W .any base t v)
    (hW : DataW.Whole enc Tryz.prog Tryz.f3.params.toList Rows.unfoldingCausesSpec.vars false W args.toList ds gs before)
    (hwt : ∀ x ∈ DataW.weightsEach Tryz.prog Tryz.f3.params.toList ds, x ≤ reachBytes)
    (hL : laidMetH Tryz.prog Rows.unfoldingCausesRow.laid W) :
    Calls Tryz.prog 3 args W fun e W' => ∃ v, e = .returned v ∧ Rows.unfoldingCausesSpec.post enc Tryz.prog Tryz.f3 false true false false W args v W' := by
  have hW' := hW
  have hlt : ∀ q ∈ before, q.block < W.heap.size := fun q hq => hW.lt q hq
  obtain ⟨p, q, hA0, hV, rfl, hfz, hnd⟩ := hW
  have hA : DataW.TrodAll enc Tryz.prog W 0 (fun _ => true) true Tryz.f3.params.toList args.toList ds p := hA0
  rw [Tryz.params3] at hA hval hwt
  obtain ⟨v0, vs0, d0, ds0, p0, q0, hargs, rfl, rfl, h0, r0⟩ := trodAll_cons hA
  obtain ⟨rfl, rfl, rfl⟩ := trodAll_nil r0
  obtain rfl : args = #[v0] := by cases args; simp_all
  obtain ⟨rfl, rfl⟩ := trodVars_none hV
  clear hA0
  simp only [List.append_nil] at hW' hlt
  have hw25 : Abs.Wt Tryz.prog 25 d0 := fun x hx => hwt x (by
    show x ∈ DataW.weightsEach Tryz.prog [25] [d0]
    simp only [DataW.weightsEach, List.append_nil]
    exact hx)
  obtain ⟨c0, c1, y0, y1, n, hv0, hd0, hp0, t0, t1⟩ := open_agg2 Tryz.underlying25 (by kernel_rfl) (by kernel_rfl) (hval 0 25 v0 rfl rfl) h0
  have walk : Calls Tryz.prog 3 #[v0] W (fun e w' => e = .returned (.bool true) ∧ Below W.heap.size W w') := by
    rw [hv0]
    rw [hd0] at hw25
    exact Abs.law_open t0 t1 (hw25.struct Tryz.underlying25 (j := 0) rfl rfl) (hw25.struct Tryz.underlying25 (j := 1) rfl rfl) (table_cell hL)
  refine walk.mono fun e W' ⟨he, hb⟩ => ?_
  subst he
  refine ⟨_, rfl, [d0], [], p0, [], p0, [], hW', ?_, ?_, rfl, World.keptBut_mono (fun q hq => ⟨hq, .inr (.inl hq)⟩) (hb.frame (· ∈ p0)), fun h => by cases h⟩
  · exact trodAll_cons_mk (shut_bool Tryz.underlying4 _) trodAll_mk0
  · exact ⟨p0, [], again hlt hb h0 _ (fun q hq => by simpa using hlt q hq), rfl, by simp⟩

/-- a world for the witness: the settled one, with the table -/
noncomputable def laidWorld (os : Os) : World :=
  { World.holding Tryz.prog os ⟨#[], #[], []⟩ with heap := (World.holding Tryz.prog os ⟨#[], #[], []⟩).heap.modify 0 fun
      | .cells _ t frozen => .cells (Abs.tab.map fun n => Value.int .u8 (Int.ofNat n)).toArray t frozen
      | o => o }
theorem laid_met (os : Os) : laidMet Tryz.prog Rows.unfoldingCausesRow.laid ((laidWorld os).forCall (fun _ _ => 0) ⟨#[], #[.agg #[.slice none 0 0, .slice none 0 0]], []⟩).memory :=
  laidMet_of_run' 8 (by kernel_rfl) (by kernel_rfl)
theorem reads (os : Os) {H : Type} (enc : TypeId × Value → H) : ∃ places, DataW.whole enc Tryz.prog ((laidWorld os).forCall (fun _ _ => 0) ⟨#[], #[.agg #[.slice none 0 0, .slice none 0 0]], []⟩).memory Tryz.f3.params.toList Rows.unfoldingCausesSpec.vars false #[Value.agg #[.slice none 0 0, .slice none 0 0]].toList 8 = some ([.agg [.nil, .nil]], [], places) :=
  ⟨[], by kernel_rfl⟩

set_option maxRecDepth 100000 in
theorem lifted (os : Os) (started : os.Started) (H : Type) (enc : TypeId × Value → H) (F : Stop.Interp) :
    ReturnsInHanded {} Tryz.checked os 3 .any ((OpenSpec.ofChange Rows.unfoldingCausesSpec).preRow enc Tryz.prog Tryz.f3 Rows.unfoldingCausesRow.domain false Rows.unfoldingCausesRow.laid) (((OpenSpec.ofChange Rows.unfoldingCausesSpec).at F).post enc Tryz.prog Tryz.f3 false true false false) := by
  obtain ⟨places, hx⟩ := reads os enc
  refine returnsInHanded_of_row (C := Tryz.checked) (s := OpenSpec.ofChange Rows.unfoldingCausesSpec) own started (by kernel_rfl) Tryz.func3
    (witness_row_at (enc := enc) (C := Tryz.checked) false (laidWorld os) #[.agg #[.slice none 0 0, .slice none 0 0]] rfl (by kernel_rfl) (by kernel_rfl) (by kernel_rfl)
      (OpenSpec.preRow_of_cond 8 hx (by kernel_rfl) (fun k hk => by cases hk) (by kernel_rfl) (laid_met os))) ?_
  intro W base args ds gs before hval hW _ _ hwt hL _ _
  refine contract H enc W base args ds gs before hval hW (fun x hx => ?_) hL
  have hg : gs = [] := by
    obtain ⟨p, q, _, hV, _⟩ := hW
    exact (trodVars_none hV).1
  subst hg
  have h := List.all_eq_true.1 hwt x (by
    have e : (Tryz.f3.params.toList ++ (OpenSpec.ofChange Rows.unfoldingCausesSpec).bare.plain.varTypes Tryz.prog) = Tryz.f3.params.toList := by kernel_rfl
    rw [List.append_nil]
    show x ∈ DataW.weightsEach Tryz.prog (Tryz.f3.params.toList ++ (OpenSpec.ofChange Rows.unfoldingCausesSpec).bare.plain.varTypes Tryz.prog) ds
    rw [e]; exact hx)
  simpa using h

theorem named3 : Tryz.pinned.checked.prog.funcNamed Rows.unfoldingCausesRow.func = some 3 := by kernel_rfl
theorem said : Rows.UnfoldingCausesSaid :=
  OpenClaim.holds_of_cond 3 Tryz.f3 rfl rfl rfl rfl rfl rfl rfl ⟨rfl, rfl, rfl, rfl, rfl⟩ rfl rfl rfl rfl rfl named3 Tryz.func3 closed
    (of_decide_eq_true (by kernel_rfl)) (by unfold Func.isWrapper; first | (rw [if_pos (by decide +kernel)]; kernel_rfl) | (rw [if_neg (by decide +kernel)]; exact ⟨rfl, rfl⟩))
    (fun os started H enc _ F => by rw [OpenClaim.pre_eq_preRow]; exact lifted os started H enc F)

theorem plain (f : FuncId) (fn : Func) (hf : Tryz.pinned.checked.prog.funcNamed "scarfjoint/scarfjointlaw51.UnfoldingCauses" = some f) (hfn : Tryz.pinned.checked.prog.funcs[f]? = some fn) :
    false = Tryz.pinned.checked.prog.looks [] ∧ ∀ (j : Nat) t, fn.params[j]? = some t → Tryz.pinned.checked.prog.wantsStandIn t = false := by
  obtain rfl : f = 3 := Option.some.inj ((show Tryz.prog.funcNamed "scarfjoint/scarfjointlaw51.UnfoldingCauses" = some 3 by kernel_rfl).symm.trans hf) |>.symm
  obtain rfl : fn = Tryz.f3 := (Option.some.inj (Tryz.func3.symm.trans hfn)).symm
  refine ⟨by kernel_rfl, fun j t ht => ?_⟩
  rw [Tryz.params3] at ht
  obtain rfl : t = 25 := by simpa using Array.mem_of_getElem? ht
  exact (show Tryz.prog.wantsStandIn 25 = false by kernel_rfl)

/-- the card -/
theorem card : Rows.UnfoldingCausesCardSaid :=
  Claim7.holds_tied_plain_at .later [] _ _ _ _ said (fun _ h => by cases h) (by kernel_rfl) (fun _ h => by cases h) unfoldingCauses_row_tie rfl ⟨rfl, rfl⟩ (by kernel_rfl) rfl plain (by kernel_rfl)
end Go.Proofs.YtanllkglpjjfbaaGreatDoor.causes
