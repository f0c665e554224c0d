/- The law at an argument that is read. -/
import Derived.Test.YtanllkglpjjfbaaGreatDoorKnown
import Derived.Deep.Slices
import Derived.Deep.Fields
import Derived.ChangeSame
import Derived.Test.YtanllkglpjjfbaaGreatDoorAwake
import Derived.Below
set_option linter.unusedVariables false
set_option linter.unusedSimpArgs false
namespace Go.Abs
open Go Go.ChangeShapes Go.WideShapes Go.Deep

section
variable {H : Type} {enc : TypeId × Value → H} {P : Program} {w : World} {held : Bool}

/-! ## sizes -/
def Wt (P : Program) (t : TypeId) (d : DataW H) : Prop := ∀ x ∈ d.weights P t, x ≤ reachBytes

theorem weightsAll_mem {e : TypeId} : ∀ {l : List (DataW H)} {d : DataW H} {x : Nat}, d ∈ l → x ∈ d.weights P e → x ∈ DataW.weightsAll P e l
  | a :: l, d, x, hd, hx => by
    simp only [DataW.weightsAll, List.mem_append]
    rcases List.mem_cons.1 hd with rfl | hd
    · exact .inl hx
    · exact .inr (weightsAll_mem hd hx)
  | [], _, _, hd, _ => by cases hd
theorem weightsEach_mem : ∀ {ts : List TypeId} {ds : List (DataW H)} {j : Nat} {t : TypeId} {d : DataW H} {x : Nat}, ts[j]? = some t → ds[j]? = some d → x ∈ d.weights P t → x ∈ DataW.weightsEach P ts ds
  | [], _, _, _, _, _, ht, _, _ => by simp at ht
  | _ :: _, [], _, _, _, _, _, hd, _ => by simp at hd
  | t :: ts, d :: ds, 0, _, _, x, ht, hd, hx => by
    simp at ht hd
    subst ht hd
    simp only [DataW.weightsEach, List.mem_append]
    exact .inl hx
  | t :: ts, d :: ds, j + 1, _, _, x, ht, hd, hx => by
    simp at ht hd
    simp only [DataW.weightsEach, List.mem_append]
    exact .inr (weightsEach_mem ht hd hx)
theorem Wt.slice {t e : TypeId} {elems spare : List (DataW H)} (ht : P.underlying t = some (.slice e)) (h : Wt P t (.slice elems spare)) : (elems.length + spare.length) * P.bytesOf e ≤ reachBytes ∧ ∀ d ∈ elems, Wt P e d := by
  unfold Wt at h ⊢
  simp only [DataW.weights, ht] at h
  refine ⟨h _ (List.mem_cons_self ..), fun d hd x hx => h x (List.mem_cons_of_mem _ (List.mem_append_left _ (weightsAll_mem hd hx)))⟩
theorem Wt.struct {t : TypeId} {fs : Array Field} {parts : List (DataW H)} (ht : P.underlying t = some (.struct fs)) (h : Wt P t (.agg parts)) {j : Nat} {f : Field} {d : DataW H} (hf : fs[j]? = some f) (hd : parts[j]? = some d) : Wt P f.type d := by
  unfold Wt at h ⊢
  simp only [DataW.weights, ht] at h
  intro x hx
  exact h x (weightsEach_mem (by simpa using ⟨f, hf, rfl⟩) hd hx)

/-! ## cells -/
theorem cell_block {a : Addr} {i : Nat} {v : Value} (h : w.cell? (a.add i) = some v) : ∃ C ty fz, w.heap[a.block]? = some (.cells C ty fz) ∧ C[a.off + i]? = some v ∧ (i = 0 → a.spot = none) := by
  have hb : (a.add i).block = a.block := by unfold Addr.add; split <;> rfl
  have ho : (a.add i).off = a.off + i := by
    unfold Addr.add
    split
    · rename_i e; subst e; rfl
    · rfl
  unfold World.cell? at h
  rw [hb, ho] at h
  split at h
  · rename_i C ty fz hc
    split at h
    · cases h
    · rename_i hs
      refine ⟨C, ty, fz, hc, h, fun e => ?_⟩
      subst e
      have : a.add 0 = a := by simp [Addr.add]
      rw [this] at hs
      cases hsp : a.spot with
      | none => rfl
      | some x => rw [hsp] at hs; simp at hs
  · cases h

/-- a slice in memory: len elements of k cells each, which hold V -/
def SlIs (w : World) (k : Nat) (c : Value) (len : Nat) (V : Nat → Value) : Prop :=
  (c = .slice none 0 0 ∧ len = 0) ∨ (∃ a cap, c = .slice (some a) 0 cap ∧ len = 0) ∨
  ∃ b off cap C ty fz, c = .slice (some ⟨b, off, none⟩) len cap ∧ 0 < len ∧ len ≤ cap ∧ w.heap[b]? = some (.cells C ty fz) ∧ off + cap * k ≤ C.size ∧ ∀ q, q < len * k → C[off + q]? = some (V q)

/-- a slice of structs of fields of one cell -/
theorem open_structs {t e : TypeId} {fs : Array Field} {n : Nat} {c : Value} {y : DataW H × List MemPlace} (ht : P.underlying t = some (.slice e)) (he : P.underlying e = some (.struct fs)) (hone : oneCellFields P fs = true) (hC : P.cellsOf e = fs.size) (hpos : 0 < fs.size)
    (h : DataW.trod enc P w 0 (fun _ => true) held n t [c] = some y) (hw : Wt P t y.1) :
    ∃ len V, SlIs w fs.size c len V ∧ ∀ i j f, i < len → fs[j]? = some f → ∃ m z, DataW.trod enc P w 0 (fun _ => true) held m f.type [V (i * fs.size + j)] = some z ∧ Wt P f.type z.1 := by
  rcases open_slice ht h with ⟨hc, _⟩ | ⟨a, len, cap, m, n', D, Pl, hcs, _, hl, _, hm, hx, hi⟩
  · simp only [List.cons.injEq, and_true] at hc
    exact ⟨0, fun _ => .bool false, .inl ⟨hc, rfl⟩, fun i j f hi => by omega⟩
  · simp only [List.cons.injEq, and_true] at hcs
    simp only [if_true] at hm
    subst hm
    rw [hC] at hi
    have key : ∀ i, i < m → ∃ cs', cs'.length = fs.size ∧ (∀ j, j < fs.size → w.cell? (a.add (i * fs.size + j)) = cs'[j]?) ∧ DataW.trod enc P w 0 (fun _ => true) held n' e cs' = some (D i, Pl i) := by
      intro i him
      obtain ⟨cs', h1, h2⟩ := hi i him
      obtain ⟨_, h3, h4⟩ := World.cells?_some h1
      refine ⟨cs', h3, fun j hj => ?_, h2⟩
      rw [← add_add]
      exact h4 j hj
    rcases Nat.eq_zero_or_pos len with h0 | hlen
    · subst h0
      exact ⟨0, fun _ => .bool false, .inr (.inl ⟨a, m, hcs, rfl⟩), fun i j f hi => by omega⟩
    · -- the block
      have hcell : ∀ q, q < m * fs.size → ∃ v, w.cell? (a.add q) = some v := by
        intro q hq
        have hi : q / fs.size < m := (Nat.div_lt_iff_lt_mul hpos).2 hq
        have hj : q % fs.size < fs.size := Nat.mod_lt _ hpos
        obtain ⟨cs', h1, h2, _⟩ := key _ hi
        refine ⟨cs'[q % fs.size]'(by omega), ?_⟩
        have := h2 _ hj
        rw [show q / fs.size * fs.size + q % fs.size = q by rw [Nat.mul_comm]; exact Nat.div_add_mod q fs.size] at this
        rw [this, List.getElem?_eq_getElem (by omega)]
      have hm0 : 0 < m * fs.size := Nat.mul_pos (by omega) hpos
      obtain ⟨v0, hv0⟩ := hcell 0 hm0
      obtain ⟨C, ty, fz, hb, _, hsp⟩ := cell_block hv0
      have hspot := hsp rfl
      have hat : ∀ q v, w.cell? (a.add q) = some v → C[a.off + q]? = some v := by
        intro q v hv
        obtain ⟨C', ty', fz', hb', hq, _⟩ := cell_block hv
        rw [hb] at hb'; cases hb'
        exact hq
      have hsize : a.off + m * fs.size ≤ C.size := by
        obtain ⟨v, hv⟩ := hcell (m * fs.size - 1) (by omega)
        have := (Array.getElem?_eq_some_iff.1 (hat _ _ hv)).1
        omega
      refine ⟨len, fun q => (w.cell? (a.add q)).getD (.bool false), .inr (.inr ⟨a.block, a.off, m, C, ty, fz, ?_, hlen, hl, hb, hsize, fun q hq => ?_⟩), fun i j f hil hf => ?_⟩
      · rw [hcs]
        cases a
        simp only at hspot
        rw [hspot]
      · have hlm : len * fs.size ≤ m * fs.size := Nat.mul_le_mul_right _ hl
        obtain ⟨v, hv⟩ := hcell q (by omega)
        simp only [hv, Option.getD_some]
        exact hat q v hv
      · obtain ⟨cs', h1, h2, h3⟩ := key i (by omega)
        obtain ⟨xs, n2, _, hxx, _, hxl, hfs⟩ := DataW.trod_struct he h3
        have hj : j < fs.size := (Array.getElem?_eq_some_iff.1 hf).1
        obtain ⟨ho, hk⟩ := hone_of hone j f hf
        have h4 := hfs j f hf
        rw [ho, hk, take1_drop cs' j (.bool false) (by omega)] at h4
        have hv := h2 j hj
        simp only [hv]
        rw [show cs'[j]?.getD (.bool false) = cs'.getD j (.bool false) from by simp [List.getD]]
        have hxj : xs[j]? = some (xs[j]'(by omega)) := List.getElem?_eq_getElem (by omega)
        refine ⟨n2, xs[j]'(by omega), h4.trans hxj, ?_⟩
        have hy : y.1 = .slice ((List.range len).map D) ((List.range (m - len)).map fun j => D (len + j)) := by rw [hx]
        rw [hy] at hw
        have hwi := (hw.slice ht).2 (D i) (List.mem_map.2 ⟨i, by simpa using hil, rfl⟩)
        have hDi : D i = .agg (xs.map (·.1)) := (Prod.mk.inj hxx).1
        rw [hDi] at hwi
        exact hwi.struct he hf (by rw [List.getElem?_map, hxj]; rfl)

/-- a slice of elements of one cell -/
theorem open_ones {t e : TypeId} {n : Nat} {c : Value} {y : DataW H × List MemPlace} (ht : P.underlying t = some (.slice e)) (hC : P.cellsOf e = 1) (h : DataW.trod enc P w 0 (fun _ => true) held n t [c] = some y) (hw : Wt P t y.1) :
    ∃ len V, SlIs w 1 c len V ∧ len * P.bytesOf e ≤ reachBytes ∧ ∀ i, i < len → ∃ m z, DataW.trod enc P w 0 (fun _ => true) held m e [V i] = some z ∧ Wt P e z.1 := by
  rcases open_slice1 ht hC h with ⟨hc, _⟩ | ⟨a, len, cap, m, n', V, D, Pl, hcs, _, hl, _, hm, hx, hi⟩
  · simp only [List.cons.injEq, and_true] at hc
    exact ⟨0, fun _ => .bool false, .inl ⟨hc, rfl⟩, by simp, fun i hi => by omega⟩
  · simp only [List.cons.injEq, and_true] at hcs
    simp only [if_true] at hm
    subst hm
    have hy : y.1 = .slice ((List.range len).map D) ((List.range (m - len)).map fun j => D (len + j)) := by rw [hx]
    rw [hy] at hw
    obtain ⟨hw1, hw2⟩ := hw.slice ht
    have hb : len * P.bytesOf e ≤ reachBytes := by
      refine Nat.le_trans (Nat.mul_le_mul_right _ ?_) hw1
      simp
    rcases Nat.eq_zero_or_pos len with h0 | hlen
    · subst h0
      exact ⟨0, fun _ => .bool false, .inr (.inl ⟨a, m, hcs, rfl⟩), hb, fun i hi => by omega⟩
    · obtain ⟨hv0, _⟩ := hi 0 (by omega)
      obtain ⟨C, ty, fz, hbk, _, hsp⟩ := cell_block hv0
      have hspot := hsp rfl
      have hat : ∀ q, q < m → C[a.off + q]? = some (V q) := by
        intro q hq
        obtain ⟨C', ty', fz', hb', hq', _⟩ := cell_block (hi q hq).1
        rw [hbk] at hb'; cases hb'
        exact hq'
      have hsize : a.off + m * 1 ≤ C.size := by
        have := (Array.getElem?_eq_some_iff.1 (hat (m - 1) (by omega))).1
        omega
      refine ⟨len, V, .inr (.inr ⟨a.block, a.off, m, C, ty, fz, ?_, hlen, hl, hbk, hsize, fun q hq => hat q (by omega)⟩), hb, fun i hil => ?_⟩
      · rw [hcs]
        cases a
        simp only at hspot
        rw [hspot]
      · refine ⟨n', _, (hi i (by omega)).2, ?_⟩
        exact hw2 (D i) (List.mem_map.2 ⟨i, by simpa using hil, rfl⟩)
end

/-! ## rows -/
noncomputable def slA (id : Nat) : Value → AVal
  | .slice (some _) 0 _ => .emptySl
  | .slice (some _) (n + 1) _ => .slice id 0 (n + 1) none
  | _ => .nilSlice
noncomputable def slLoc (k : Nat) : Value → Option Loc
  | .slice (some a) (_ + 1) cap => some ⟨a.block, a.off, cap * k, k⟩
  | _ => none
noncomputable def slRow (k : Nat) (F : Nat → AVal) : Value → Option Row
  | .slice (some _) (n + 1) _ => some ⟨(List.range ((n + 1) * k)).map F, 0, 0, false, true, k⟩
  | _ => none

theorem slRow_ro {k : Nat} {F : Nat → AVal} {c : Value} {r : Row} (h : slRow k F c = some r) : r.ro = true ∧ r.fam = 0 := by
  unfold slRow at h
  split at h
  · cases h; exact ⟨rfl, rfl⟩
  · cases h

theorem SlIs.vrel {w : World} {k : Nat} {c : Value} {len : Nat} {V : Nat → Value} (h : SlIs w k c len V) (hk : 0 < k) {ρ : Rho} {id : Nat} (hρ : ρ id = slLoc k c) : vrel ρ (slA id c) c := by
  rcases h with ⟨rfl, _⟩ | ⟨a, cap, rfl, _⟩ | ⟨b, off, cap, C, ty, fz, rfl, hlen, hl, hb, hs, hq⟩
  · exact rfl
  · exact ⟨a, cap, rfl⟩
  · match len, hlen with
    | n + 1, _ =>
      refine ⟨⟨b, off, cap * k, k⟩, hρ, ?_⟩
      simp only [Nat.add_zero, Nat.sub_zero, Nat.mul_div_cancel _ hk]
theorem SlIs.row {w : World} {k : Nat} {c : Value} {len : Nat} {V : Nat → Value} (h : SlIs w k c len V) {B : Nat} {ρ : Rho} {id : Nat} (hρ : ρ id = slLoc k c) {F : Nat → AVal} (hF : ∀ q, q < len * k → Abs.vrel ρ (F q) (V q)) {r : Row} (hr : slRow k F c = some r) :
    ∃ l C e fz, ρ id = some l ∧ w.heap[l.blk]? = some (.cells C e fz) ∧ RowOk B ρ r l C fz := by
  rcases h with ⟨rfl, _⟩ | ⟨a, cap, rfl, _⟩ | ⟨b, off, cap, C, ty, fz, rfl, hlen, hl, hb, hs, hq⟩
  · cases hr
  · cases hr
  · match len, hlen with
    | n + 1, _ =>
      cases hr
      have hle : (n + 1) * k ≤ cap * k := Nat.mul_le_mul_right _ hl
      refine ⟨⟨b, off, cap * k, k⟩, C, ty, fz, hρ, hb, ⟨by simpa using hle, hs, (fun h => by cases h), rfl, (fun h => by cases h), (fun h => by cases h), fun i c hc => ?_⟩⟩
      have hi : i < (n + 1) * k := by have := (List.getElem?_eq_some_iff.1 hc).1; simpa using this
      simp [hi] at hc
      subst hc
      exact ⟨V i, hq i hi, hF i hi⟩
theorem SlIs.read {w : World} {k : Nat} {c : Value} {len : Nat} {V : Nat → Value} (h : SlIs w k c len V) {g : Nat → Option Row} {id : Nat} {F : Nat → AVal} (hg : g id = slRow k F c) : RSl g k len (slA id c) ((List.range (len * k)).map F) := by
  rcases h with ⟨rfl, rfl⟩ | ⟨a, cap, rfl, rfl⟩ | ⟨b, off, cap, C, ty, fz, rfl, hlen, hl, hb, hs, hq⟩
  · exact ⟨by simp, .inl ⟨rfl, .inl rfl⟩⟩
  · exact ⟨by simp, .inl ⟨rfl, .inr rfl⟩⟩
  · match len, hlen with
    | n + 1, _ =>
      refine ⟨by simp, .inr ⟨id, 0, none, _, rfl, hg, by simp, ?_⟩⟩
      simp only [List.drop_zero]
      rw [List.take_of_length_le (by simp)]

/-- a tree by a function -/
noncomputable def trOf (f : Nat → Option Row) : Nat → Tr Row
  | 0 => .nil
  | n + 1 => (trOf f n).set n (f n)
theorem trOf_get (f : Nat → Option Row) : ∀ (n i : Nat), (trOf f n).get i = if i < n then f i else none
  | 0, i => by simp [trOf]; rfl
  | n + 1, i => by
    rw [trOf, Tr.get_set, trOf_get f n i]
    by_cases e : n = i
    · subst e; simp
    · rw [if_neg e]
      by_cases h : i < n
      · rw [if_pos h, if_pos (by omega)]
      · rw [if_neg h, if_neg (by omega)]

end Go.Abs

namespace Go.Abs
open Go Go.Proofs Go.ChangeShapes Go.WideShapes Go.Deep Go.RowKit

noncomputable def sc : Value → AVal
  | .bool b => .bool b
  | .int k n => .int k n
  | _ => .nilPtr
def intV : Value → Int
  | .int _ n => n
  | _ => 0

theorem cellsOf53 : Tryz.prog.cellsOf 53 = 5 := by kernel_rfl
theorem cellsOf50 : Tryz.prog.cellsOf 50 = 3 := by kernel_rfl
theorem cellsOf3 : Tryz.prog.cellsOf 3 = 1 := by kernel_rfl
theorem bytesOf3 : Tryz.prog.bytesOf 3 = 8 := by kernel_rfl

theorem row0_len : row0.cells.length = 64 := by kernel_rfl
theorem tab_get {i : Nat} {c : AVal} (h : row0.cells[i]? = some c) : i < 64 ∧ c = .int .u8 (.ofNat (tab.getD i 0)) := by
  have hi : i < 64 := by have := (List.getElem?_eq_some_iff.1 h).1; rw [row0_len] at this; exact this
  refine ⟨hi, ?_⟩
  have h : (tab.map fun n => AVal.int .u8 (.ofNat n))[i]? = some c := h
  rw [List.getElem?_map] at h
  cases ht : tab[i]? with
  | none => rw [ht] at h; cases h
  | some x =>
    rw [ht] at h
    simp [List.getD, ht]
    simpa using h.symm

section
variable {H : Type} {enc : TypeId × Value → H} {W : World} {held : Bool}

set_option maxHeartbeats 1000000 in
theorem law_open {n n' : Nat} {c0 c1 : Value} {y0 y1 : DataW H × List MemPlace} (h0 : DataW.trod enc Tryz.prog W 0 (fun _ => true) held n 22 [c0] = some y0) (h1 : DataW.trod enc Tryz.prog W 0 (fun _ => true) held n' 23 [c1] = some y1)
    (w0 : Wt Tryz.prog 22 y0.1) (w1 : Wt Tryz.prog 23 y1.1) (ht : ∀ i, i < 64 → W.cell? ⟨0, i, none⟩ = some (.int .u8 (.ofNat (tab.getD i 0)))) :
    Calls Tryz.prog 3 #[.agg #[c0, c1]] W (fun e w' => e = .returned (.bool true) ∧ Below W.heap.size W w') := by
  obtain ⟨len0, V0, sl0, f0⟩ := open_structs Tryz.underlying22 Tryz.underlying53 (by kernel_rfl) (cellsOf53.trans rfl) (by decide) h0 w0
  obtain ⟨len1, V1, sl1, f1⟩ := open_structs Tryz.underlying23 Tryz.underlying50 (by kernel_rfl) (cellsOf50.trans rfl) (by decide) h1 w1
  have sl0 : SlIs W 5 c0 len0 V0 := sl0
  have sl1 : SlIs W 3 c1 len1 V1 := sl1
  -- the elements' cells
  have e0 : ∀ q, q < len0 * 5 → (∃ b, V0 q = .bool b) ∨ ∃ z, V0 q = .int .i64 z := by
    intro q hq
    have hi : q / 5 < len0 := by omega
    have hj : q % 5 < 5 := Nat.mod_lt _ (by omega)
    have hqe : q / 5 * 5 + q % 5 = q := by omega
    match hm : q % 5, hj with
    | 0, _ =>
      obtain ⟨m, z, hz, _⟩ := f0 (q / 5) 0 _ hi rfl
      obtain ⟨b, hb, _⟩ := DataW.trod_bool Tryz.underlying4 hz
      have hb : [V0 (q / 5 * 5 + 0)] = [Value.bool b] := hb
      rw [← hm, hqe] at hb
      exact .inl ⟨b, by simpa using hb⟩
    | 1, _ =>
      obtain ⟨m, z, hz, _⟩ := f0 (q / 5) 1 _ hi rfl
      obtain ⟨b, hb, _⟩ := DataW.trod_int Tryz.underlying3 hz
      have hb : [V0 (q / 5 * 5 + 1)] = [Value.int .i64 b] := hb
      rw [← hm, hqe] at hb
      exact .inr ⟨b, by simpa using hb⟩
    | 2, _ =>
      obtain ⟨m, z, hz, _⟩ := f0 (q / 5) 2 _ hi rfl
      obtain ⟨b, hb, _⟩ := DataW.trod_int Tryz.underlying3 hz
      have hb : [V0 (q / 5 * 5 + 2)] = [Value.int .i64 b] := hb
      rw [← hm, hqe] at hb
      exact .inr ⟨b, by simpa using hb⟩
    | 3, _ =>
      obtain ⟨m, z, hz, _⟩ := f0 (q / 5) 3 _ hi rfl
      obtain ⟨b, hb, _⟩ := DataW.trod_int Tryz.underlying3 hz
      have hb : [V0 (q / 5 * 5 + 3)] = [Value.int .i64 b] := hb
      rw [← hm, hqe] at hb
      exact .inr ⟨b, by simpa using hb⟩
    | 4, _ =>
      obtain ⟨m, z, hz, _⟩ := f0 (q / 5) 4 _ hi rfl
      obtain ⟨b, hb, _⟩ := DataW.trod_int Tryz.underlying3 hz
      have hb : [V0 (q / 5 * 5 + 4)] = [Value.int .i64 b] := hb
      rw [← hm, hqe] at hb
      exact .inr ⟨b, by simpa using hb⟩
  have e04 : ∀ i, i < len0 → V0 (i * 5 + 4) = .int .i64 (intV (V0 (i * 5 + 4))) := by
    intro i hi
    obtain ⟨m, z, hz, _⟩ := f0 i 4 _ hi rfl
    obtain ⟨b, hb, _⟩ := DataW.trod_int Tryz.underlying3 hz
    have hb : [V0 (i * 5 + 4)] = [Value.int .i64 b] := hb
    simp at hb
    rw [hb]; rfl
  -- the events' cells
  have e10 : ∀ i, i < len1 → V1 (i * 3) = .int .i64 (intV (V1 (i * 3))) := by
    intro i hi
    obtain ⟨m, z, hz, _⟩ := f1 i 0 _ hi rfl
    obtain ⟨b, hb, _⟩ := DataW.trod_int Tryz.underlying3 hz
    have hb : [V1 (i * 3 + 0)] = [Value.int .i64 b] := hb
    simp at hb
    rw [hb]; rfl
  have e1 : ∀ q, ∃ p : Nat × (Nat → Value), q < len1 * 3 → q % 3 ≠ 0 → SlIs W 1 (V1 q) p.1 p.2 ∧ p.1 * 8 ≤ reachBytes ∧ ∀ j, j < p.1 → p.2 j = .int .i64 (intV (p.2 j)) := by
    intro q
    by_cases hq : q < len1 * 3 ∧ q % 3 ≠ 0
    · obtain ⟨hq, hne⟩ := hq
      have hi : q / 3 < len1 := by omega
      have hqe : q / 3 * 3 + q % 3 = q := by omega
      have key : ∃ m z, DataW.trod enc Tryz.prog W 0 (fun _ => true) held m 33 [V1 q] = some z ∧ Wt Tryz.prog 33 z.1 := by
        rcases (show q % 3 = 1 ∨ q % 3 = 2 by omega) with hm | hm
        · obtain ⟨m, z, hz, hw⟩ := f1 (q / 3) 1 _ hi rfl
          have hz : DataW.trod enc Tryz.prog W 0 (fun _ => true) held m 33 [V1 (q / 3 * 3 + 1)] = some z := hz
          rw [← hm, hqe] at hz
          exact ⟨m, z, hz, hw⟩
        · obtain ⟨m, z, hz, hw⟩ := f1 (q / 3) 2 _ hi rfl
          have hz : DataW.trod enc Tryz.prog W 0 (fun _ => true) held m 33 [V1 (q / 3 * 3 + 2)] = some z := hz
          rw [← hm, hqe] at hz
          exact ⟨m, z, hz, hw⟩
      obtain ⟨m, z, hz, hw⟩ := key
      obtain ⟨L, N, sl, hb, hN⟩ := open_ones Tryz.underlying33 cellsOf3 hz hw
      rw [bytesOf3] at hb
      refine ⟨(L, N), fun _ _ => ⟨sl, hb, fun j hj => ?_⟩⟩
      obtain ⟨m', z', hz', _⟩ := hN j hj
      obtain ⟨b, hb', _⟩ := DataW.trod_int Tryz.underlying3 hz'
      simp at hb'
      simp only
      rw [hb']; rfl
    · exact ⟨(0, fun _ => .bool false), fun a b => absurd ⟨a, b⟩ hq⟩
  obtain ⟨PN, hPN⟩ := Classical.axiomOfChoice e1
  -- the heap
  let F0 : Nat → AVal := fun q => sc (V0 q)
  let F1 : Nat → AVal := fun q => if q % 3 = 0 then sc (V1 q) else slA (q + 4) (V1 q)
  let f : Nat → Option Row := fun v => match v with
    | 0 => some row0
    | 1 => none
    | 2 => slRow 5 F0 c0
    | 3 => slRow 3 F1 c1
    | q + 4 => if q % 3 = 0 then none else slRow 1 (fun j => sc ((PN q).2 j)) (V1 q)
  let ρ : Rho := fun v => match v with
    | 0 => some ⟨0, 0, 64, 1⟩
    | 1 => none
    | 2 => slLoc 5 c0
    | 3 => slLoc 3 c1
    | q + 4 => if q < len1 * 3 then slLoc 1 (V1 q) else none
  let Hp : AHeap := ⟨trOf f (len1 * 3 + 4), .nil, len1 * 3 + 4⟩
  have hget : ∀ v, v < len1 * 3 + 4 → Hp.objs.get v = f v := fun v hv => by
    show (trOf f (len1 * 3 + 4)).get v = f v
    rw [trOf_get, if_pos hv]
  have hget2 : ∀ v r, Hp.objs.get v = some r → v < len1 * 3 + 4 ∧ f v = some r := fun v r hr => by
    have hr : (trOf f (len1 * 3 + 4)).get v = some r := hr
    rw [trOf_get] at hr
    split at hr
    · exact ⟨by assumption, hr⟩
    · cases hr
  have hro : ∀ v r, f v = some r → r.ro = true ∧ r.fam = 0 := by
    intro v r hr
    match v, hr with
    | 0, hr => cases hr; exact ⟨rfl, rfl⟩
    | 2, hr => exact slRow_ro hr
    | 3, hr => exact slRow_ro hr
    | q + 4, hr =>
      have hr : (if q % 3 = 0 then none else slRow 1 (fun j => sc ((PN q).2 j)) (V1 q)) = some r := hr
      split at hr
      · cases hr
      · exact slRow_ro hr
  have hsc : ∀ {x : Value}, ((∃ b, x = .bool b) ∨ ∃ z, x = .int .i64 z) → vrel ρ (sc x) x := by
    rintro x (⟨b, rfl⟩ | ⟨z, rfl⟩) <;> rfl
  have hρq : ∀ q, q < len1 * 3 → ρ (q + 4) = slLoc 1 (V1 q) := fun q hq => by
    show (if q < len1 * 3 then slLoc 1 (V1 q) else none) = _
    rw [if_pos hq]
  have hF1 : ∀ q, q < len1 * 3 → vrel ρ (F1 q) (V1 q) := by
    intro q hq
    show vrel ρ (if q % 3 = 0 then sc (V1 q) else slA (q + 4) (V1 q)) (V1 q)
    split
    · rename_i hm
      have := e10 (q / 3) (by omega)
      rw [show q / 3 * 3 = q by omega] at this
      exact hsc (.inr ⟨_, this⟩)
    · rename_i hm
      exact (hPN q hq hm).1.vrel (by omega) (hρq q hq)
  -- the table
  obtain ⟨C, ty, fz, hb, hC⟩ : ∃ C ty fz, W.heap[0]? = some (.cells C ty fz) ∧ ∀ i, i < 64 → C[i]? = some (.int .u8 (.ofNat (tab.getD i 0))) := by
    have hc : ∀ i, i < 64 → ∃ C ty fz, W.heap[0]? = some (.cells C ty fz) ∧ C[i]? = some (.int .u8 (.ofNat (tab.getD i 0))) := by
      intro i hi
      have h := ht i hi
      unfold World.cell? at h
      simp only at h
      split at h
      · rename_i C ty fz hcc
        exact ⟨C, ty, fz, hcc, by simpa using h⟩
      · cases h
    obtain ⟨C, ty, fz, hb, _⟩ := hc 0 (by omega)
    refine ⟨C, ty, fz, hb, fun i hi => ?_⟩
    obtain ⟨C', ty', fz', hb', h⟩ := hc i hi
    rw [hb] at hb'; cases hb'
    exact h
  have hCs : 64 ≤ C.size := by
    have := (Array.getElem?_eq_some_iff.1 (hC 63 (by omega))).1
    omega
  have s : Sim W.heap.size 1 ρ Hp W := {
    base := Nat.le_refl _
    glob := fun g hg => by
      obtain rfl : g = 0 := by omega
      exact ⟨64, 1, rfl⟩
    row := fun v r hr => by
      obtain ⟨hv, hr⟩ := hget2 v r hr
      match v, hv, hr with
      | 0, _, hr =>
        cases hr
        refine ⟨⟨0, 0, 64, 1⟩, C, ty, fz, rfl, hb, ⟨?_, by simp only; omega, fun _ => ?_, rfl, (fun h => by cases h), (fun h => by cases h), fun i c hc => ?_⟩⟩
        · rw [row0_len]; exact Nat.le_refl _
        · rw [row0_len]
        · obtain ⟨hi, rfl⟩ := tab_get hc
          exact ⟨_, by simp only [Nat.zero_add]; exact hC i hi, rfl⟩
      | 2, _, hr => exact sl0.row (id := 2) rfl (fun q hq => hsc (e0 q hq)) hr
      | 3, _, hr => exact sl1.row (id := 3) rfl hF1 hr
      | q + 4, hv, hr =>
        have hq : q < len1 * 3 := by omega
        have hr : (if q % 3 = 0 then none else slRow 1 (fun j => sc ((PN q).2 j)) (V1 q)) = some r := hr
        split at hr
        · cases hr
        · rename_i hm
          obtain ⟨sl, _, hN⟩ := hPN q hq hm
          exact sl.row (id := q + 4) (hρq q hq) (fun j hj => hsc (.inr ⟨_, hN j (by omega)⟩)) hr
    sep := fun u v ru rv lu lv _ hu hv _ _ _ => .inl ⟨(hro u ru (hget2 u ru hu).2).1, (hro v rv (hget2 v rv hv).2).1⟩
    fam := fun v r mem hv h _ => by
      have := (hro v r (hget2 v r hv).2).1
      rw [this] at h; cases h }
  have g : Good Hp := by
    refine ⟨fun v r hr => ?_, fun fm mem u r h => ?_, fun fm mem h => ?_⟩
    · obtain ⟨hv, hr⟩ := hget2 v r hr
      have := (hro v r hr).2
      exact ⟨hv, by rw [this]; show 0 < len1 * 3 + 4; omega⟩
    · cases h
    · cases h
  let evs : List Int := (List.range len0).map fun i => intV (V0 (i * 5 + 4))
  let zs : Nat → List Int := fun q => (List.range (PN q).1).map fun j => intV ((PN q).2 j)
  let us : List Use := (List.range len1).map fun i => ⟨intV (V1 (i * 3)), zs (i * 3 + 1), zs (i * 3 + 2)⟩
  have hel : evs.length = len0 := by simp [evs]
  have hul : us.length = len1 := by simp [us]
  have rE : RElems Hp.objs.get (slA 2 c0) evs := by
    refine ⟨(List.range (len0 * 5)).map F0, ?_, fun i z hz => ?_⟩
    · rw [hel]
      exact sl0.read (hget 2 (by omega))
    · have hi : i < len0 := by have := (List.getElem?_eq_some_iff.1 hz).1; rw [hel] at this; exact this
      have hz : z = intV (V0 (i * 5 + 4)) := by simpa [evs, hi] using hz.symm
      have : i * 5 + 4 < len0 * 5 := by omega
      rw [List.getElem?_map, List.getElem?_range this, hz]
      show some (sc (V0 (i * 5 + 4))) = _
      rw [e04 i hi]; rfl
  have rz : ∀ q, q < len1 * 3 → q % 3 ≠ 0 → RSl Hp.objs.get 1 (zs q).length (slA (q + 4) (V1 q)) (ints (zs q)) := by
    intro q hq hm
    obtain ⟨sl, _, hN⟩ := hPN q hq hm
    have hzl : (zs q).length = (PN q).1 := by simp [zs]
    have hr := sl.read (g := Hp.objs.get) (id := q + 4) (F := fun j => sc ((PN q).2 j)) (by
      rw [hget _ (by omega)]
      show (if q % 3 = 0 then none else slRow 1 (fun j => sc ((PN q).2 j)) (V1 q)) = _
      rw [if_neg hm])
    rw [hzl]
    have e : ints (zs q) = (List.range ((PN q).1 * 1)).map fun j => sc ((PN q).2 j) := by
      rw [Nat.mul_one]
      simp only [ints, zs, List.map_map]
      refine List.map_congr_left fun j hj => ?_
      have hj : j < (PN q).1 := by simpa using hj
      show AVal.int .i64 (intV ((PN q).2 j)) = sc ((PN q).2 j)
      rw [hN j hj]; rfl
    rw [e]
    exact hr
  have rV : REvents Hp.objs.get (slA 3 c1) us := by
    refine ⟨(List.range (len1 * 3)).map F1, ?_, fun i u hu => ?_⟩
    · rw [hul]
      exact sl1.read (hget 3 (by omega))
    · have hi : i < len1 := by have := (List.getElem?_eq_some_iff.1 hu).1; rw [hul] at this; exact this
      have hu : u = ⟨intV (V1 (i * 3)), zs (i * 3 + 1), zs (i * 3 + 2)⟩ := by simpa [us, hi] using hu.symm
      subst hu
      have m0 : i * 3 % 3 = 0 := by omega
      have m1 : ¬ (i * 3 + 1) % 3 = 0 := by omega
      have m2 : ¬ (i * 3 + 2) % 3 = 0 := by omega
      refine ⟨slA (i * 3 + 1 + 4) (V1 (i * 3 + 1)), slA (i * 3 + 2 + 4) (V1 (i * 3 + 2)), ?_, ?_, ?_, rz _ (by omega) m1, rz _ (by omega) m2⟩
      · rw [List.getElem?_map, List.getElem?_range (show i * 3 < len1 * 3 by omega)]
        show some (if i * 3 % 3 = 0 then sc (V1 (i * 3)) else _) = _
        rw [if_pos m0, e10 i hi]; rfl
      · rw [List.getElem?_map, List.getElem?_range (show i * 3 + 1 < len1 * 3 by omega)]
        show some (if (i * 3 + 1) % 3 = 0 then _ else slA (i * 3 + 1 + 4) (V1 (i * 3 + 1))) = _
        rw [if_neg m1]
      · rw [List.getElem?_map, List.getElem?_range (show i * 3 + 2 < len1 * 3 by omega)]
        show some (if (i * 3 + 2) % 3 = 0 then _ else slA (i * 3 + 2 + 4) (V1 (i * 3 + 2))) = _
        rw [if_neg m2]
  have hbig : ∀ u ∈ us, InK (Int.ofNat u.nodes.length + Int.ofNat u.edges.length) := by
    intro u hu
    obtain ⟨i, hi, rfl⟩ := List.mem_map.1 hu
    have hi : i < len1 := by simpa using hi
    have h1 := (hPN (i * 3 + 1) (by omega) (by omega)).2.1
    have h2 := (hPN (i * 3 + 2) (by omega) (by omega)).2.1
    unfold reachBytes at h1 h2
    unfold InK
    simp only [zs, List.length_map, List.length_range, Int.ofNat_eq_natCast]
    omega
  have hx : vrels ρ [.agg [slA 2 c0, slA 3 c1]] [.agg #[c0, c1]] := by
    refine vrels_cons.2 ⟨_, _, rfl, ⟨[c0, c1], rfl, ?_⟩, rfl⟩
    exact vrels_cons.2 ⟨_, _, rfl, sl0.vrel (by omega) rfl, vrels_cons.2 ⟨_, _, rfl, sl1.vrel (by omega) rfl, rfl⟩⟩
  have hfree : ∀ v, Hp.next ≤ v → ρ v = none := by
    intro v hv
    have hv : len1 * 3 + 4 ≤ v := hv
    obtain ⟨q, rfl⟩ : ∃ q, v = q + 4 := ⟨v - 4, by omega⟩
    show (if q < len1 * 3 then slLoc 1 (V1 q) else none) = none
    rw [if_neg (by omega)]
  refine (law_calls awakeOk staticP g (hget 0 (by omega)) rE rV hbig s hfree hx).mono fun e w' ⟨he, h1, h2, h3, h4, h5⟩ => ?_
  exact ⟨he, ⟨h1, h2, h3, h4, h5⟩⟩
end
end Go.Abs
