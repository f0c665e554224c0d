/- The static check of the program. -/
import Derived.Test.YtanllkglpjjfbaaGreatDoorMach4
import Derived.Test.YtanllkglpjjfbaaGreatDoorProg
import Derived.KernelRfl
set_option linter.unusedVariables false
set_option linter.unusedSimpArgs false
namespace Go.Abs
open Go Go.Proofs
theorem st0 : partOk ((Tryz.prog.funcs.toList.drop 0).take 20) = true := by kernel_rfl
theorem st1 : partOk ((Tryz.prog.funcs.toList.drop 20).take 20) = true := by kernel_rfl
theorem st2 : partOk ((Tryz.prog.funcs.toList.drop 40).take 20) = true := by kernel_rfl
theorem st3 : partOk ((Tryz.prog.funcs.toList.drop 60).take 20) = true := by kernel_rfl
theorem st4 : partOk ((Tryz.prog.funcs.toList.drop 80).take 20) = true := by kernel_rfl
theorem st5 : partOk ((Tryz.prog.funcs.toList.drop 100).take 20) = true := by kernel_rfl
theorem st6 : partOk ((Tryz.prog.funcs.toList.drop 120).take 20) = true := by kernel_rfl
theorem st7 : partOk ((Tryz.prog.funcs.toList.drop 140).take 20) = true := by kernel_rfl
theorem st8 : partOk ((Tryz.prog.funcs.toList.drop 160).take 20) = true := by kernel_rfl
theorem st9 : partOk ((Tryz.prog.funcs.toList.drop 180).take 20) = true := by kernel_rfl
theorem st10 : partOk ((Tryz.prog.funcs.toList.drop 200).take 20) = true := by kernel_rfl
theorem st11 : partOk ((Tryz.prog.funcs.toList.drop 220).take 20) = true := by kernel_rfl
theorem st12 : partOk ((Tryz.prog.funcs.toList.drop 240).take 20) = true := by kernel_rfl
theorem st13 : partOk ((Tryz.prog.funcs.toList.drop 260).take 20) = true := by kernel_rfl
theorem st14 : partOk ((Tryz.prog.funcs.toList.drop 280).take 20) = true := by kernel_rfl
theorem st15 : partOk ((Tryz.prog.funcs.toList.drop 300).take 20) = true := by kernel_rfl
theorem st16 : partOk ((Tryz.prog.funcs.toList.drop 320).take 20) = true := by kernel_rfl
theorem st17 : partOk ((Tryz.prog.funcs.toList.drop 340).take 20) = true := by kernel_rfl

theorem parts_all {l : List Func} {n : Nat} : ∀ (k : Nat), l.length ≤ k * n → (∀ j, j < k → partOk ((l.drop (j * n)).take n) = true) → ∀ fn ∈ l, bodyOk fn = true
  | 0, hl, _, fn, hm => by
    have : l = [] := List.eq_nil_of_length_eq_zero (by omega)
    rw [this] at hm; cases hm
  | k + 1, hl, h, fn, hm => by
    by_cases hk : fn ∈ l.take (k * n)
    · refine parts_all (l := l.take (k * n)) (n := n) k (by simp; omega) (fun j hj => ?_) fn hk
      have hle : j * n + n ≤ k * n := by
        have := Nat.mul_le_mul_right n (show j + 1 ≤ k by omega)
        rw [Nat.add_mul] at this; omega
      rw [List.drop_take, List.take_take, Nat.min_eq_left (by omega)]
      exact h j (by omega)
    · have hd : fn ∈ l.drop (k * n) := by
        rw [← List.take_append_drop (k * n) l] at hm
        rcases List.mem_append.1 hm with h' | h'
        · exact absurd h' hk
        · exact h'
      have h1 := h k (by omega)
      rw [List.take_of_length_le (by rw [List.length_drop]; rw [Nat.add_mul] at hl; omega)] at h1
      exact partOk_mem h1 fn hd

theorem funcs_len : Tryz.prog.funcs.toList.length = 358 := by kernel_rfl
theorem staticP : StaticP Tryz.prog := static_of (parts_all (n := 20) 18 (by rw [funcs_len]; decide) (fun j hj => by
  match j, hj with
  | 0, _ => exact st0
  | 1, _ => exact st1
  | 2, _ => exact st2
  | 3, _ => exact st3
  | 4, _ => exact st4
  | 5, _ => exact st5
  | 6, _ => exact st6
  | 7, _ => exact st7
  | 8, _ => exact st8
  | 9, _ => exact st9
  | 10, _ => exact st10
  | 11, _ => exact st11
  | 12, _ => exact st12
  | 13, _ => exact st13
  | 14, _ => exact st14
  | 15, _ => exact st15
  | 16, _ => exact st16
  | 17, _ => exact st17
  | j + 18, h => omega))
end Go.Abs
