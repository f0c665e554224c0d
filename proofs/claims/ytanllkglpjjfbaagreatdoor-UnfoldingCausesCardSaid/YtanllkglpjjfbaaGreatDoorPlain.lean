/- The plain law: causes by sorted lists are causes by marks. -/
import Derived.Lib.SlicesCompact
set_option linter.unusedVariables false
set_option linter.unusedSimpArgs false
namespace Go.Abs.Law

theorem eq_of_sorted : ∀ {a b : List Int}, a.Pairwise (· < ·) → b.Pairwise (· < ·) → (∀ x, x ∈ a ↔ x ∈ b) → a = b
  | [], [], _, _, _ => rfl
  | [], y :: b, _, _, h => absurd ((h y).2 (List.mem_cons_self ..)) (by simp)
  | x :: a, [], _, _, h => absurd ((h x).1 (List.mem_cons_self ..)) (by simp)
  | x :: a, y :: b, ha, hb, h => by
    obtain ⟨ha1, ha2⟩ := List.pairwise_cons.1 ha
    obtain ⟨hb1, hb2⟩ := List.pairwise_cons.1 hb
    have exy : x = y := by
      rcases List.mem_cons.1 ((h x).1 (List.mem_cons_self ..)) with e | e
      · exact e
      · rcases List.mem_cons.1 ((h y).2 (List.mem_cons_self ..)) with e' | e'
        · exact e'.symm
        · have h1 := ha1 y e'; have h2 := hb1 x e; omega
    subst exy
    congr 1
    refine eq_of_sorted ha2 hb2 fun z => ⟨fun hz => ?_, fun hz => ?_⟩
    · rcases List.mem_cons.1 ((h z).1 (List.mem_cons_of_mem _ hz)) with e | e
      · have := ha1 z hz; omega
      · exact e
    · rcases List.mem_cons.1 ((h z).2 (List.mem_cons_of_mem _ hz)) with e | e
      · have := hb1 z hz; omega
      · exact e

theorem compactUpTo_spec (d : Array Int) (hd : ∀ i j, i ≤ j → j < d.size → d[i]! ≤ d[j]!) : ∀ m, m ≤ d.size → (Lib.compactUpTo d m).Pairwise (· < ·) ∧ ∀ x, x ∈ Lib.compactUpTo d m ↔ ∃ j, j < m ∧ d[j]! = x := by
  intro m
  induction m with
  | zero => intro _; exact ⟨by simp [Lib.compactUpTo], fun x => by simp [Lib.compactUpTo]⟩
  | succ m ih =>
    intro hm
    obtain ⟨ih1, ih2⟩ := ih (by omega)
    rw [Lib.compactUpTo_succ]
    by_cases hk : Lib.keeps d m = true
    · rw [if_pos hk]
      refine ⟨List.pairwise_append.2 ⟨ih1, by simp, fun a ha b hb => ?_⟩, fun x => ?_⟩
      · simp only [List.mem_singleton] at hb
        subst hb
        obtain ⟨j, hj, rfl⟩ := (ih2 a).1 ha
        have hk := of_decide_eq_true hk
        rcases hk with h0 | hne
        · omega
        · have h1 := hd j (m - 1) (by omega) (by omega)
          have h2 := hd (m - 1) m (by omega) (by omega)
          omega
      · rw [List.mem_append, ih2, List.mem_singleton]
        constructor
        · rintro (⟨j, hj, rfl⟩ | rfl)
          · exact ⟨j, by omega, rfl⟩
          · exact ⟨m, by omega, rfl⟩
        · rintro ⟨j, hj, rfl⟩
          by_cases e : j = m
          · subst e; exact .inr rfl
          · exact .inl ⟨j, by omega, rfl⟩
    · rw [if_neg hk, List.append_nil]
      refine ⟨ih1, fun x => ?_⟩
      rw [ih2]
      have hk : ¬ (m = 0 ∨ d[m]! ≠ d[m - 1]!) := fun h => hk (decide_eq_true h)
      constructor
      · rintro ⟨j, hj, rfl⟩; exact ⟨j, by omega, rfl⟩
      · rintro ⟨j, hj, rfl⟩
        by_cases e : j = m
        · subst e
          refine ⟨j - 1, by omega, ?_⟩
          have : ¬ d[j]! ≠ d[j - 1]! := fun h => hk (.inr h)
          exact (Classical.not_not.1 this).symm
        · exact ⟨j, by omega, rfl⟩

def srt (l : List Int) : List Int := l.mergeSort fun x y => decide (x ≤ y)

theorem compact_srt (l : List Int) : (Lib.compact (srt l)).Pairwise (· < ·) ∧ ∀ x, x ∈ Lib.compact (srt l) ↔ x ∈ l := by
  have hs : (srt l).Pairwise (fun a b => decide (a ≤ b) = true) := List.pairwise_mergeSort (fun a b c h1 h2 => by simp at *; omega) (fun a b => by simp; omega) l
  have hd : ∀ i j, i ≤ j → j < (srt l).toArray.size → (srt l).toArray[i]! ≤ (srt l).toArray[j]! := fun i j hij hj => by
    have hj' : j < (srt l).length := by simpa using hj
    rw [getElem!_pos (srt l).toArray i (by simp; omega), getElem!_pos (srt l).toArray j hj]
    simp only [List.getElem_toArray]
    by_cases e : i = j
    · subst e; exact Int.le_refl _
    · have := List.pairwise_iff_getElem.1 hs i j (by omega) hj' (by omega)
      simpa using this
  obtain ⟨h1, h2⟩ := compactUpTo_spec (srt l).toArray hd (srt l).length (by simp)
  refine ⟨h1, fun x => ?_⟩
  show x ∈ Lib.compactUpTo (srt l).toArray (srt l).length ↔ _
  rw [h2]
  have hm : x ∈ l ↔ x ∈ srt l := (List.mergeSort_perm l _).mem_iff.symm
  rw [hm, List.mem_iff_getElem]
  constructor
  · rintro ⟨j, hj, rfl⟩
    exact ⟨j, hj, by rw [getElem!_pos (srt l).toArray j (by simpa using hj)]; simp⟩
  · rintro ⟨j, hj, rfl⟩
    exact ⟨j, hj, by rw [getElem!_pos (srt l).toArray j (by simpa using hj)]; simp⟩

/-! ## causes -/
def evOf (evs : List Int) (k : Int) : Int := evs.getD k.toNat 0
def okUse (evs : List Int) (i : Nat) (k : Int) : Bool := decide (0 ≤ k) && decide (k < Int.ofNat evs.length) && decide (evOf evs k < Int.ofNat i)
def contrib (evs : List Int) (out : List (List Int)) (k : Int) : List Int := if 0 ≤ evOf evs k then evOf evs k :: out.getD (evOf evs k).toNat [] else []
def gath (evs : List Int) (out : List (List Int)) (z : List Int) : List Int := z.flatMap (contrib evs out)
def marks (n : Nat) (l : List Int) : List Bool := (List.range n).map fun j => decide (Int.ofNat j ∈ l)
def mTo (bs : List Bool) (i : Nat) : List Int := ((List.range i).filter (fun k => bs.getD k false)).map Int.ofNat

def outAt (f : List (List Int) → Nat → List Int → List Int) (uses : List (List Int)) : Nat → List (List Int)
  | 0 => []
  | i + 1 => outAt f uses i ++ [f (outAt f uses i) i (uses.getD i [])]
def fP (evs : List Int) (out : List (List Int)) (_ : Nat) (z : List Int) : List Int := Lib.compact (srt (gath evs out z))
def fR (evs : List Int) (out : List (List Int)) (i : Nat) (z : List Int) : List Int := mTo (marks i (gath evs out z)) i

theorem outAt_length (f : List (List Int) → Nat → List Int → List Int) (uses : List (List Int)) : ∀ i, (outAt f uses i).length = i
  | 0 => rfl
  | i + 1 => by simp [outAt, outAt_length f uses i]
theorem outAt_get (f : List (List Int) → Nat → List Int → List Int) (uses : List (List Int)) : ∀ i j, j < i → (outAt f uses i)[j]? = some (f (outAt f uses j) j (uses.getD j []))
  | 0, _, h => by omega
  | i + 1, j, h => by
    rw [outAt]
    by_cases e : j < i
    · rw [List.getElem?_append_left (by rw [outAt_length]; exact e)]; exact outAt_get f uses i j e
    · obtain rfl : j = i := by omega
      rw [List.getElem?_append_right (by rw [outAt_length]; omega), outAt_length]; simp

theorem mem_mTo_marks {n : Nat} {l : List Int} {x : Int} : x ∈ mTo (marks n l) n ↔ x ∈ l ∧ 0 ≤ x ∧ x < Int.ofNat n := by
  simp only [mTo, List.mem_map, List.mem_filter, List.mem_range]
  constructor
  · rintro ⟨k, ⟨hk, hb⟩, rfl⟩
    refine ⟨?_, by simp, by simpa using hk⟩
    simpa [marks, List.getD_eq_getElem?_getD, hk] using hb
  · rintro ⟨hx, h0, hn⟩
    refine ⟨x.toNat, ⟨by simp at hn; omega, ?_⟩, by simp; omega⟩
    have hlt : x.toNat < n := by simp at hn; omega
    have e : Int.ofNat x.toNat = x := by simp; omega
    simp only [marks, List.getD_eq_getElem?_getD, List.getElem?_map, List.getElem?_range hlt, Option.map_some, Option.getD_some, e]
    simpa using hx
theorem mTo_sorted (bs : List Bool) (n : Nat) : (mTo bs n).Pairwise (· < ·) := by
  unfold mTo
  rw [List.pairwise_map]
  exact ((List.pairwise_lt_range (n := n)).filter _).imp fun h => by simpa using h

/-- the numbers are those of earlier events -/
theorem gath_bound {evs : List Int} {out : List (List Int)} {i : Nat} {z : List Int} (hz : ∀ k ∈ z, okUse evs i k = true) (hout : ∀ j l, out[j]? = some l → ∀ x ∈ l, 0 ≤ x ∧ x < Int.ofNat j) :
    ∀ x ∈ gath evs out z, 0 ≤ x ∧ x < Int.ofNat i := by
  intro x hx
  simp only [gath, List.mem_flatMap] at hx
  obtain ⟨k, hk, hx⟩ := hx
  have hok := hz k hk
  simp only [okUse, Bool.and_eq_true, decide_eq_true_eq] at hok
  unfold contrib at hx
  split at hx
  · rename_i h0
    rcases List.mem_cons.1 hx with rfl | hx
    · exact ⟨h0, hok.2⟩
    · rw [List.getD_eq_getElem?_getD] at hx
      cases hg : out[(evOf evs k).toNat]? with
      | none => rw [hg] at hx; simp at hx
      | some l =>
        rw [hg] at hx
        have := hout _ _ hg x (by simpa using hx)
        have h2 := hok.2
        simp at this h2 ⊢
        omega
  · simp at hx

theorem fP_eq_fR {evs : List Int} {out : List (List Int)} {i : Nat} {z : List Int} (h : ∀ x ∈ gath evs out z, 0 ≤ x ∧ x < Int.ofNat i) : fP evs out i z = fR evs out i z := by
  obtain ⟨h1, h2⟩ := compact_srt (gath evs out z)
  refine eq_of_sorted h1 (mTo_sorted _ _) fun x => ?_
  exact (h2 x).trans (Iff.trans ⟨fun hx => ⟨hx, h x hx⟩, fun hx => hx.1⟩ mem_mTo_marks.symm)

theorem outAt_bound {evs : List Int} {uses : List (List Int)} : ∀ n, n ≤ uses.length → (∀ i z, i < n → uses[i]? = some z → ∀ k ∈ z, okUse evs i k = true) →
    outAt (fP evs) uses n = outAt (fR evs) uses n ∧ ∀ j l, (outAt (fR evs) uses n)[j]? = some l → ∀ x ∈ l, 0 ≤ x ∧ x < Int.ofNat j
  | 0, _, _ => ⟨rfl, fun j l h => by simp [outAt] at h⟩
  | n + 1, hn, hok => by
    obtain ⟨ih1, ih2⟩ := outAt_bound n (by omega) (fun i z hi => hok i z (by omega))
    have hz : ∀ k ∈ uses.getD n [], okUse evs n k = true := by
      rw [List.getD_eq_getElem?_getD, List.getElem?_eq_getElem (show n < uses.length by omega)]
      exact hok n _ (by omega) (List.getElem?_eq_getElem (show n < uses.length by omega))
    have hb := gath_bound hz ih2
    refine ⟨?_, fun j l h x hx => ?_⟩
    · rw [outAt, outAt, ih1, fP_eq_fR hb]
    · rw [outAt] at h
      by_cases e : j < n
      · rw [List.getElem?_append_left (by rw [outAt_length]; exact e)] at h
        exact ih2 j l h x hx
      · rw [List.getElem?_append_right (by rw [outAt_length]; omega), outAt_length] at h
        by_cases e2 : j = n
        · subst e2
          simp at h
          subst h
          exact (mem_mTo_marks.1 hx).2
        · rw [List.getElem?_eq_none (by simp; omega)] at h; cases h

/-- lengths -/
theorem mTo_length (bs : List Bool) (n : Nat) : (mTo bs n).length ≤ n := by
  simp only [mTo, List.length_map]
  exact Nat.le_trans (List.length_filter_le _ _) (by simp)
theorem outR_length {evs : List Int} {uses : List (List Int)} {n j : Nat} {l : List Int} (h : (outAt (fR evs) uses n)[j]? = some l) : l.length ≤ n := by
  have hj : j < n := by have := (List.getElem?_eq_some_iff.1 h).1; rw [outAt_length] at this; exact this
  rw [outAt_get _ _ _ _ hj] at h
  cases h
  exact Nat.le_trans (mTo_length _ _) (by omega)
theorem gath_length {evs : List Int} {out : List (List Int)} {n : Nat} (hout : ∀ (j : Nat) (l : List Int), out[j]? = some l → l.length ≤ n) : ∀ (z : List Int), (gath evs out z).length ≤ z.length * (n + 1)
  | [] => by simp [gath]
  | k :: z => by
    have ih := gath_length (evs := evs) hout z
    simp only [gath, List.flatMap_cons, List.length_append, List.length_cons] at ih ⊢
    have hc : (contrib evs out k).length ≤ n + 1 := by
      unfold contrib
      split
      · rw [List.length_cons, List.getD_eq_getElem?_getD]
        cases hg : out[(evOf evs k).toNat]? with
        | none => simp
        | some l => have := hout _ _ hg; simpa using this
      · simp
    rw [Nat.add_mul]; omega
end Go.Abs.Law
