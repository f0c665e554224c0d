/- The self-test awake, run by the kernel. -/
import Derived.Test.YtanllkglpjjfbaaGreatDoorWalk6
import Derived.Test.YtanllkglpjjfbaaGreatDoorStatic
set_option linter.unusedVariables false
set_option linter.unusedSimpArgs false
namespace Go.Abs
open Go Go.Proofs
noncomputable def sTypes : Summ := { f := 106, args := [.agg [.slice 2 0 4 none, .slice 6 0 2 none]], rows := [(3, pr 4 [.str (by8 [98, 97, 108, 97, 110, 99, 101]), .int .i64 (.negSucc 999), .int .i64 (.ofNat 1000), .nilSlice]), (5, pr 1 [.str (by8 [111, 112, 101, 110]), .str (by8 [99, 108, 111, 115, 101, 100])]), (4, pr 4 [.str (by8 [115, 116, 97, 116, 101]), .int .i64 (.ofNat 0), .int .i64 (.ofNat 1), .slice 5 0 2 none]), (2, pr 4 [.str (by8 [65, 99, 99, 111, 117, 110, 116]), .int .i64 (.negSucc 0), .bool true, .slice 3 0 1 none, .str (by8 [67, 97, 115, 104]), .int .i64 (.ofNat 0), .bool false, .nilSlice, .str (by8 [76, 111, 97, 110]), .int .i64 (.ofNat 0), .bool false, .slice 4 0 1 none, .str (by8 [80, 101, 114, 115, 111, 110]), .int .i64 (.negSucc 0), .bool false, .nilSlice]), (6, pr 7 [.str (by8 [111, 119, 110, 115]), .int .i64 (.ofNat 3), .int .i64 (.ofNat 0), .int .i64 (.ofNat 0), .int .i64 (.negSucc 0), .int .i64 (.ofNat 1), .int .i64 (.ofNat 1), .str (by8 [112, 97, 121, 115]), .int .i64 (.ofNat 1), .int .i64 (.ofNat 1), .int .i64 (.ofNat 0), .int .i64 (.negSucc 0), .int .i64 (.ofNat 0), .int .i64 (.negSucc 0)])], next := 7, res := .tuple [.str (by8 []), .int .i64 (.ofNat 0)] }
noncomputable def sProper : Summ := { f := 25, args := [.agg [.slice 2 0 4 none, .slice 6 0 2 none], .agg [.slice 7 0 2 none, .nilSlice]], rows := [(3, pr 4 [.str (by8 [98, 97, 108, 97, 110, 99, 101]), .int .i64 (.negSucc 999), .int .i64 (.ofNat 1000), .nilSlice]), (5, pr 1 [.str (by8 [111, 112, 101, 110]), .str (by8 [99, 108, 111, 115, 101, 100])]), (4, pr 4 [.str (by8 [115, 116, 97, 116, 101]), .int .i64 (.ofNat 0), .int .i64 (.ofNat 1), .slice 5 0 2 none]), (2, pr 4 [.str (by8 [65, 99, 99, 111, 117, 110, 116]), .int .i64 (.negSucc 0), .bool true, .slice 3 0 1 none, .str (by8 [67, 97, 115, 104]), .int .i64 (.ofNat 0), .bool false, .nilSlice, .str (by8 [76, 111, 97, 110]), .int .i64 (.ofNat 0), .bool false, .slice 4 0 1 none, .str (by8 [80, 101, 114, 115, 111, 110]), .int .i64 (.negSucc 0), .bool false, .nilSlice]), (6, pr 7 [.str (by8 [111, 119, 110, 115]), .int .i64 (.ofNat 3), .int .i64 (.ofNat 0), .int .i64 (.ofNat 0), .int .i64 (.negSucc 0), .int .i64 (.ofNat 1), .int .i64 (.ofNat 1), .str (by8 [112, 97, 121, 115]), .int .i64 (.ofNat 1), .int .i64 (.ofNat 1), .int .i64 (.ofNat 0), .int .i64 (.negSucc 0), .int .i64 (.ofNat 0), .int .i64 (.negSucc 0)]), (7, pr 1 [.int .i64 (.ofNat 1), .int .i64 (.ofNat 1)])], next := 8, res := .bool true }
noncomputable def sValid : Summ := { f := 23, args := [.agg [.slice 2 0 4 none, .slice 6 0 2 none], .slice 7 0 2 none], rows := [(3, pr 4 [.str (by8 [98, 97, 108, 97, 110, 99, 101]), .int .i64 (.negSucc 999), .int .i64 (.ofNat 1000), .nilSlice]), (5, pr 1 [.str (by8 [111, 112, 101, 110]), .str (by8 [99, 108, 111, 115, 101, 100])]), (4, pr 4 [.str (by8 [115, 116, 97, 116, 101]), .int .i64 (.ofNat 0), .int .i64 (.ofNat 1), .slice 5 0 2 none]), (2, pr 4 [.str (by8 [65, 99, 99, 111, 117, 110, 116]), .int .i64 (.negSucc 0), .bool true, .slice 3 0 1 none, .str (by8 [67, 97, 115, 104]), .int .i64 (.ofNat 0), .bool false, .nilSlice, .str (by8 [76, 111, 97, 110]), .int .i64 (.ofNat 0), .bool false, .slice 4 0 1 none, .str (by8 [80, 101, 114, 115, 111, 110]), .int .i64 (.negSucc 0), .bool false, .nilSlice]), (6, pr 7 [.str (by8 [111, 119, 110, 115]), .int .i64 (.ofNat 3), .int .i64 (.ofNat 0), .int .i64 (.ofNat 0), .int .i64 (.negSucc 0), .int .i64 (.ofNat 1), .int .i64 (.ofNat 1), .str (by8 [112, 97, 121, 115]), .int .i64 (.ofNat 1), .int .i64 (.ofNat 1), .int .i64 (.ofNat 0), .int .i64 (.negSucc 0), .int .i64 (.ofNat 0), .int .i64 (.negSucc 0)]), (8, pr 1 [.int .i64 (.ofNat 1), .int .i64 (.ofNat 1)]), (9, pr 1 [.int .i64 (.ofNat 1), .int .i64 (.ofNat 1)]), (10, pr 3 [.int .i64 (.ofNat 1), .int .i64 (.ofNat 0), .int .i64 (.ofNat 1)]), (11, pr 1 [.int .i64 (.ofNat 0), .int .i64 (.ofNat 1)]), (12, pr 1 [.int .i64 (.ofNat 0), .int .i64 (.ofNat 1)]), (13, pr 1 [.int .i64 (.ofNat 1), .int .i64 (.ofNat 1)]), (14, pr 3 [.int .i64 (.ofNat 1), .int .i64 (.ofNat 0), .int .i64 (.ofNat 1)]), (15, pr 1 [.int .i64 (.ofNat 1), .int .i64 (.ofNat 1)]), (16, pr 1 [.int .i64 (.ofNat 0), .int .i64 (.ofNat 1)]), (17, pr 1 [.int .i64 (.ofNat 0), .int .i64 (.ofNat 1)]), (7, pr 25 [.str (by8 [112, 97, 121]), .slice 8 0 2 none, .nilSlice, .nilSlice, .int .i64 (.ofNat 0), .nilSlice, .slice 9 0 2 none, .slice 10 0 1 none, .nilSlice, .int .i64 (.ofNat 0), .nilSlice, .slice 11 0 2 none, .nilSlice, .slice 12 0 2 none, .nilSlice, .bool true, .int .i64 (.ofNat 1), .nilSlice, .nilSlice, .nilSlice, .nilSlice, .nilSlice, .nilSlice, .int .i64 (.ofNat 0), .nilSlice, .str (by8 [100, 114, 111, 112]), .slice 13 0 2 none, .slice 14 0 1 none, .nilSlice, .int .i64 (.ofNat 0), .nilSlice, .slice 15 0 2 none, .nilSlice, .nilSlice, .int .i64 (.ofNat 0), .nilSlice, .slice 16 0 2 none, .nilSlice, .slice 17 0 2 none, .nilSlice, .bool true, .int .i64 (.ofNat 1), .nilSlice, .nilSlice, .nilSlice, .nilSlice, .nilSlice, .nilSlice, .int .i64 (.ofNat 0), .nilSlice])], next := 18, res := .int .i64 (.ofNat 0) }
noncomputable def tab : List Nat := [0, 1, 56, 2, 57, 49, 28, 3, 61, 58, 42, 50, 38, 29, 17, 4, 62, 47, 59, 36, 45, 43, 51, 22, 53, 39, 33, 30, 24, 18, 12, 5, 63, 55, 48, 27, 60, 41, 37, 16, 46, 35, 44, 21, 52, 32, 23, 11, 54, 26, 40, 15, 34, 20, 31, 10, 25, 14, 19, 9, 13, 8, 7, 6]
noncomputable def row0 : Row := { cells := tab.map fun n => AVal.int .u8 (.ofNat n), fam := 0, start := 0, exact := true, ro := true, sz := 1 }
noncomputable def h0 : AHeap := { objs := Tr.nil.set 0 (some row0), fams := .nil, next := 2 }

theorem ok106 : sTypes.ok 1 = true := by kernel_rfl
theorem go106 : resIs sTypes.res (callF Tryz.prog 1 (sumOf []) 1000 sTypes.f sTypes.args sTypes.H) = true := by kernel_rfl
theorem run106 : SummRun Tryz.prog 1 sTypes := summRun (sumOk_nil _ _) staticP 1000 ok106 go106
theorem sm1 : SumOk Tryz.prog 1 (sumOf [sTypes]) := sumOf_ok fun S hS => by
  obtain rfl := List.mem_singleton.1 hS
  exact run106
theorem ok25 : sProper.ok 1 = true := by kernel_rfl
theorem go25 : resIs sProper.res (callF Tryz.prog 1 (sumOf [sTypes]) 1000 sProper.f sProper.args sProper.H) = true := by kernel_rfl
theorem run25 : SummRun Tryz.prog 1 sProper := summRun sm1 staticP 1000 ok25 go25
theorem ok23 : sValid.ok 1 = true := by kernel_rfl
theorem go23 : resIs sValid.res (callF Tryz.prog 1 (sumOf [sTypes]) 1000 sValid.f sValid.args sValid.H) = true := by kernel_rfl
theorem run23 : SummRun Tryz.prog 1 sValid := summRun sm1 staticP 1000 ok23 go23
theorem sm3 : SumOk Tryz.prog 1 (sumOf [sTypes, sProper, sValid]) := sumOf_ok fun S hS => by
  rcases List.mem_cons.1 hS with rfl | hS
  · exact run106
  rcases List.mem_cons.1 hS with rfl | hS
  · exact run25
  obtain rfl := List.mem_singleton.1 hS
  exact run23
theorem goAwake : resIs (.bool true) (callF Tryz.prog 1 (sumOf [sTypes, sProper, sValid]) 1000 4 [] h0) = true := by kernel_rfl

theorem row0_plain : row0.cells.all AVal.plain = true := by kernel_rfl
theorem h0_get {c : Nat} {r : Row} (h : h0.objs.get c = some r) : c = 0 ∧ r = row0 := by
  have h : (Tr.nil.set 0 (some row0)).get c = some r := h
  rw [Tr.get_set] at h
  split at h
  · rename_i e; cases h; exact ⟨e.symm, rfl⟩
  · cases h
theorem awakeOk : AwakeOk row0 := by
  intro H hH B ρ w xs s hx
  obtain ⟨H1, hrun⟩ := resIs_some goAwake
  refine closed_ok (callF_ok sm3 staticP 1000) hrun rfl (fun c r h => ?_) (by decide) (fun c r h => ?_) B ρ w xs s hx
  · obtain ⟨rfl, rfl⟩ := h0_get h
    exact ⟨by decide, rfl, by decide, row0_plain⟩
  · obtain ⟨rfl, rfl⟩ := h0_get h
    exact hH
end Go.Abs
