/- The abstract machine, part 4: code, calls and summaries of calls are sound. -/
import Derived.Test.YtanllkglpjjfbaaGreatDoorMach3
set_option linter.unusedVariables false
set_option linter.unusedSimpArgs false
namespace Go.Abs
open Go
variable {P : Program} {ng n B : Nat} {call : ACall} {ops : Array Oper} {Tt : Nat → Tr AVal} {Ht : Nat → AHeap} {vt : Nat → AVal} {wt : Nat → Bool}

theorem gUp_same {s s' : Nat} {L L' : Nat → Bool} (h : ∀ k, kind ops wt k = 2 → ((s ≤ k ∧ L k = true) ↔ (s' ≤ k ∧ L' k = true))) : ∀ k, gUp ops Ht wt s L k = gUp ops Ht wt s' L' k ∧ gfUp ops Ht wt s L k = gfUp ops Ht wt s' L' k
  | 0 => ⟨rfl, rfl⟩
  | k + 1 => by
    obtain ⟨h1, h2⟩ := gUp_same h k
    simp only [gUp, gfUp]
    by_cases hk : kind ops wt k = 2
    · by_cases hc : s ≤ k ∧ L k = true
      · have hc' := (h k hk).1 hc
        rw [if_pos ⟨hc.1, hc.2, hk⟩, if_pos ⟨hc'.1, hc'.2, hk⟩, if_pos ⟨hc.1, hc.2, hk⟩, if_pos ⟨hc'.1, hc'.2, hk⟩, h1, h2]
        exact ⟨rfl, rfl⟩
      · have hc' : ¬ (s' ≤ k ∧ L' k = true) := fun x => hc ((h k hk).2 x)
        rw [if_neg (fun x => hc ⟨x.1, x.2.1⟩), if_neg (fun x => hc' ⟨x.1, x.2.1⟩), if_neg (fun x => hc ⟨x.1, x.2.1⟩), if_neg (fun x => hc' ⟨x.1, x.2.1⟩)]
        exact ⟨h1, h2⟩
    · rw [if_neg (fun x => hk x.2.2), if_neg (fun x => hk x.2.2), if_neg (fun x => hk x.2.2), if_neg (fun x => hk x.2.2)]
      exact ⟨h1, h2⟩

theorem gUp_none (hcg : CallGrow call) (tx : Txt P ng call n ops Tt Ht vt wt) {s : Nat} {L : Nat → Bool} {v : Nat} (hs : s ≤ ops.size) (hv : v < (Ht s).next) : gUp ops Ht wt s L ops.size v = none := by
  cases h : gUp ops Ht wt s L ops.size v with
  | none => rfl
  | some r =>
    obtain ⟨i, h1, h2, _, _, h5, _⟩ := gUp_some tx _ v r h
    have := (next_le hcg tx i s h1 (by omega)).1
    omega

theorem over_upd {β : Type} (G b : Nat → Option β) (i : Nat) (x : β) : over (upd G i (some x)) b = upd (over G b) i (some x) := by
  funext v
  unfold over
  by_cases e : i = v
  · subst e; simp only [upd_same]
  · simp only [upd_other _ e]

theorem exists_next (p N : Nat) : ∃ up, NextE ops wt p N none up := by
  by_cases h : ∃ q, p ≤ q ∧ q < N ∧ kind ops wt q = 3
  · have key : ∀ m, (∀ q, p ≤ q → q < m → kind ops wt q ≠ 3) ∨ ∃ q, p ≤ q ∧ q < m ∧ kind ops wt q = 3 ∧ ∀ r, p ≤ r → r < q → kind ops wt r ≠ 3 := by
      intro m
      induction m with
      | zero => left; intro q _ hq; omega
      | succ m ih =>
        rcases ih with ih | ⟨q, a, b, c⟩
        · by_cases hm : p ≤ m ∧ kind ops wt m = 3
          · exact .inr ⟨m, hm.1, by omega, hm.2, ih⟩
          · left
            intro q a b hq
            rcases Nat.eq_or_lt_of_le (Nat.le_of_lt_succ b) with rfl | hlt
            · exact hm ⟨a, hq⟩
            · exact ih q a hlt hq
        · exact .inr ⟨q, a, by omega, c⟩
    rcases key N with hk | ⟨q, a, b, c, d⟩
    · obtain ⟨q, a, b, c⟩ := h
      exact absurd c (hk q a b)
    · exact ⟨some q, .inr ⟨q, a, b, c, d, rfl⟩⟩
  · exact ⟨none, .inl ⟨fun q a b c => h ⟨q, a, b, c⟩, rfl⟩⟩

theorem draw_step (d : Draw P ng call n ops Tt Ht vt wt) {ρ0 : Rho} {w0 : World} {L : Nat → Bool} {a : Act} {w : World} {Q : Exit → Act → World → Prop}
    (hcl : ∀ i j, (L i = true) → tb (befOf ops i) j = true → L j = true) {i : Nat} {o : Oper} (ho : ops[i]? = some o) (hLi : L i = false) (hbef : ∀ j, tb (befOf ops i) j = true → L j = true)
    (inv : DInv ng n B ops Tt Ht vt wt ρ0 w0 L a w) : wpOp P ops Q i (DInv ng n B ops Tt Ht vt wt ρ0 w0 (join L i)) a w := by
  obtain ⟨ρ, p, hdef, hT, hp, hpe, hpq, hfree, hchg⟩ := inv
  have hi : i < ops.size := by
    rcases Nat.lt_or_ge i ops.size with k | k
    · exact k
    · rw [Array.getElem?_eq_none k] at ho; cases ho
  have hlooks : ∀ t, t ∈ o.looksAt ops → getT (TL n ops Tt vt L ops.size) t = getT (Tt i) t := fun t ht => TL_looks d hcl ho hLi hbef ht
  have hag := agree_of_looks (ng := ng) hlooks
  have hjoin := TL_join d hcl ho hLi
  have hN : ∀ k, k ≤ ops.size → Grow (Ht 0) (Ht k) := fun k hk => next_le d.grow d.tx k 0 (by omega) hk
  have wfk : ∀ k, k ≤ ops.size → WF (Ht k) := fun k hk => (hN k hk).2 d.wf
  have lo0 : (Ht 0).next ≤ (Ht i).next := (hN i (by omega)).1
  have hi1 : (Ht i).next ≤ (Ht (i + 1)).next := (next_mono d.grow d.tx i hi).1
  have hiN : (Ht (i + 1)).next ≤ (Ht ops.size).next := (next_le d.grow d.tx ops.size (i + 1) hi (Nat.le_refl _)).1
  have hjo : ∀ j, j ≠ i → join L i j = L j := fun j hj => by simp [join, hj]
  unfold wpOp
  simp only [ho]
  rw [← wanted_eq hT o, wanted_of_looks hlooks, ← d.tx.want i o ho]
  -- when neither rows nor effects change
  have same : ∀ x, kind ops wt i ≠ 2 → kind ops wt i ≠ 3 → vrel ρ (vt i) x → DInv ng n B ops Tt Ht vt wt ρ0 w0 (join L i) (a.put o.dst x) w := by
    intro x h2 h3 hx
    have hg := gUp_same (ops := ops) (Ht := Ht) (wt := wt) (s := p) (s' := p) (L := join L i) (L' := L) (fun k hk => by
      rw [hjo k (fun e => h2 (e ▸ hk))]) ops.size
    refine ⟨ρ, p, by rw [put_defers]; exact hdef, (hT.put o.dst hx).congr hjoin, hp, hpe, fun q hq => ?_, fun j hj hL => ?_, ?_⟩
    · rw [hjo q (fun e => h3 (e ▸ hq))]; exact hpq q hq
    · refine hfree j hj ?_
      by_cases e : j = i
      · subst e; exact hLi
      · rw [hjo j e] at hL; exact hL
    · rw [hg.1, hg.2]; exact hchg
  rcases kind_step d.tx ho with ⟨hk, hw, hv, _⟩ | ⟨hk, hw, hv, _⟩ | ⟨hk, hw, cs, sz, m, hv, hvt, hHt⟩ | ⟨hk, hw, hv⟩ | ⟨hk, hw, hvt, _⟩
  · -- temporaries alone
    rw [hw, if_pos rfl]
    left
    rw [← pOp_congr hag] at hv
    obtain ⟨x, hx, hrun⟩ := pOp_sound hT hchg.sim.glob hv
    simp only [Oper.wp, hrun w, Oper.upon]
    exact same x (by rw [hk]; decide) (by rw [hk]; decide) hx
  · -- a read
    rw [hw, if_pos rfl]
    left
    obtain ⟨up, hup⟩ := exists_next (ops := ops) (wt := wt) p ops.size
    have hr : rOp P ng (Tt i) (Ht p).objs.get o.op = some (vt i) := by
      rcases d.reads i o ho hk p hp hpe up hup with ⟨e, rfl, he⟩ | ⟨q, hq, he⟩ | h
      · exfalso
        rcases hup with ⟨_, h⟩ | ⟨q, h1, h2, h3, _, h5⟩
        · cases h
        · cases h5
          have := (hpq e h3).1 (hbef e he)
          omega
      · exfalso
        rcases hpe with h0 | ⟨q', hq', hq3⟩
        · omega
        · obtain rfl : q = q' := by omega
          have hLq := (hpq q hq3).2 (by omega)
          have := hcl q i hLq he
          rw [hLi] at this; cases this
      · exact h
    have hr2 : rOp P ng (Tt i) (over (gUp ops Ht wt p L ops.size) (Ht p).objs.get) o.op = some (vt i) := rOp_mono (fun v r hvr => by
      rw [over_right (gUp_none d.grow d.tx hp ((wfk p hp v r hvr).1))]; exact hvr) hr
    rw [← rOp_congr hag] at hr2
    obtain ⟨x, hx, hrun⟩ := rOp_sound hchg.sim hT hr2
    simp only [Oper.wp, hrun, Oper.upon]
    exact same x (by rw [hk]; decide) (by rw [hk]; decide) hx
  · -- a new row
    rw [hw, if_pos rfl]
    left
    have hpi : p ≤ i := by
      rcases Nat.lt_or_ge i p with h | h
      · exfalso
        rcases hpe with h0 | ⟨q, hq, hq3⟩
        · omega
        · have hqi : i ≠ q := fun e => by rw [e] at hk; rw [hk] at hq3; cases hq3
          have := hcl q i ((hpq q hq3).2 (by omega)) (d.chain q hq3 i (by omega) (.inl hk))
          rw [hLi] at this; cases this
      · exact h
    rw [← nOp_congr hag] at hv
    obtain ⟨C, e, hrel, hrun⟩ := nOp_sound hT hchg.sim.glob hv
    have hnext : (Ht (i + 1)).next = (Ht i).next + 1 := by rw [hHt]; rfl
    have hid : ρ (Ht i).next = none := hfree i hi hLi _ (Nat.le_refl _) (by omega)
    have hCs : C.size = cs.length := by have := vrels_length hrel; simpa using this
    have hfr : ∀ v r, over (gUp ops Ht wt p L ops.size) (Ht p).objs.get v = some r → v ≠ (Ht i).next ∧ r.fam ≠ (Ht i).next := by
      intro v r hvr
      rcases over_some hvr with h | ⟨_, h⟩
      · obtain ⟨k, h1, h2, h3, h4, h5, h6, _⟩ := gUp_some d.tx _ v r h
        have hki : k ≠ i := fun e => by rw [e, hLi] at h3; cases h3
        have hkn : (Ht (k + 1)).next = (Ht k).next + 1 := by obtain ⟨_, _, _, _, h⟩ := made d.tx h4; exact h
        rcases Nat.lt_or_gt_of_ne hki with hlt | hgt
        · have := (next_le d.grow d.tx i (k + 1) (by omega) (by omega)).1; omega
        · have := (next_le d.grow d.tx k (i + 1) (by omega) (by omega)).1; omega
      · have h1 := wfk p hp v r h
        have := (next_le d.grow d.tx i p hpi (by omega)).1
        omega
    have hch := chg_alloc (w' := w.alloc (.cells C e)) (e := e) hchg.sim hid hfr cs true sz cs.length hCs (Nat.le_refl _) (fun _ => rfl)
      (fun j c hc => by obtain ⟨x, hx, hr⟩ := vrels_get hrel hc; exact ⟨x, by simpa using hx, hr⟩) rfl rfl rfl rfl
    have hext := hch.exts (fun v a b => by obtain rfl : v = (Ht i).next := (by omega); exact hid)
    have hvr : vrel (upd ρ (Ht i).next (some ⟨w.heap.size, 0, cs.length, sz⟩)) (vt i) (newV w.heap.size m (cs.length / sz)) := by
      rw [hvt]
      cases m with
      | none => exact ⟨_, upd_same _ _ _, rfl⟩
      | some k => exact ⟨_, upd_same _ _ _, rfl⟩
    have hrow : (Ht (i + 1)).objs.get (Ht i).next = some ⟨cs, (Ht i).next, 0, true, false, sz⟩ := by rw [hHt]; exact Tr.get_set_same _ _ _
    have hg1 : gUp ops Ht wt p (join L i) ops.size = upd (gUp ops Ht wt p L ops.size) (Ht i).next (some ⟨cs, (Ht i).next, 0, true, false, sz⟩) := by
      rw [gUp_join d.grow d.tx hpi hk hLi ops.size (Nat.le_refl _), if_pos hi, hrow]
    have hg2 : gfUp ops Ht wt p (join L i) ops.size = upd (gfUp ops Ht wt p L ops.size) (Ht i).next (some [(Ht i).next]) := by
      funext v
      rw [gfUp_eq d.tx, hg1]
      by_cases e1 : (Ht i).next = v
      · subst e1; rw [upd_same, upd_same]; rfl
      · rw [upd_other _ e1, upd_other _ e1, gfUp_eq d.tx]
    simp only [Oper.wp, hrun w, Oper.upon]
    refine ⟨upd ρ (Ht i).next (some ⟨w.heap.size, 0, cs.length, sz⟩), p, by rw [put_defers]; exact hdef, ((hT.mono hext).put o.dst hvr).congr hjoin, hp, hpe, fun q hq => ?_, fun j hj hL => ?_, ?_⟩
    · rw [hjo q (fun e => by rw [e, hk] at hq; cases hq)]; exact hpq q hq
    · have hji : j ≠ i := fun e => by subst e; simp [join] at hL
      rw [hjo j hji] at hL
      intro v h1 h2
      rw [upd_other _ ?_]
      · exact hfree j hj hL v h1 h2
      · intro e1
        rcases Nat.lt_or_gt_of_ne hji with hlt | hgt
        · have := (next_le d.grow d.tx i (j + 1) (by omega) (by omega)).1; omega
        · have := (next_le d.grow d.tx j (i + 1) (by omega) (by omega)).1; omega
    · rw [hg1, hg2, over_upd, over_upd]
      exact hchg.trans2 (hch.widen lo0 (by omega))
  · -- an effect
    rw [hw, if_pos rfl]
    left
    have hpi : p ≤ i := by
      rcases Nat.lt_or_ge i p with h | h
      · have := (hpq i hk).2 h; rw [hLi] at this; cases this
      · exact h
    have noE : ∀ q, p ≤ q → q < i → kind ops wt q ≠ 3 := fun q h1 h2 h3 => by
      have := (hpq q h3).1 (hbef q (d.chain i hk q h2 (.inr h3)))
      omega
    have allA : ∀ q, p ≤ q → q < i → kind ops wt q = 2 → L q = true := fun q h1 h2 h3 => hbef q (d.chain i hk q h2 (.inl h3))
    obtain ⟨t1, t2⟩ := over_text d.tx hpi (by omega) allA noE i hpi (Nat.le_refl _)
    obtain ⟨s1, s2⟩ := gUp_split (L := L) d.tx hpi ops.size (by omega) (Nat.le_refl _)
    have hobj : over (gUp ops Ht wt p L ops.size) (Ht p).objs.get = over (gUp ops Ht wt i L ops.size) (Ht i).objs.get := by rw [s1, over_assoc, t1]
    have hfam : over (gfUp ops Ht wt p L ops.size) (Ht p).fams.get = over (gfUp ops Ht wt i L ops.size) (Ht i).fams.get := by rw [s2, over_assoc, t2]
    rw [hobj, hfam] at hchg
    have Gfar : ∀ v r, gUp ops Ht wt i L ops.size v = some r → (Ht (i + 1)).next ≤ v ∧ r.fam = v ∧ r.ro = false := by
      intro v r h
      obtain ⟨k, h1, h2, h3, h4, h5, h6, h7⟩ := gUp_some d.tx _ v r h
      have hki : k ≠ i := fun e => by rw [e, hk] at h4; cases h4
      have := (next_le d.grow d.tx k (i + 1) (by omega) (by omega)).1
      exact ⟨by omega, h6, h7⟩
    have Gn : ∀ v, v < (Ht (i + 1)).next → gUp ops Ht wt i L ops.size v = none := fun v hv' => by
      cases h : gUp ops Ht wt i L ops.size v with
      | none => rfl
      | some r => have := (Gfar v r h).1; omega
    have hsub : SimF B ng ρ (Ht i).objs.get (Ht i).fams.get w.heap := by
      refine SimF.sub hchg.sim (fun v r hvr => ?_) (fun f mem hm v r hvr hro hf => ?_)
      · rw [over_right (Gn v (by have := (wfk i (by omega) v r hvr).1; omega))]; exact hvr
      · have hvl := wfk i (by omega) v r hvr
        refine hchg.sim.fam v r mem (by rw [over_right (Gn v (by omega))]; exact hvr) hro ?_
        rw [over_right (by rw [gfUp_eq d.tx, Gn r.fam (by omega)]; rfl), hf]; exact hm
    rw [← eOp_congr hag] at hv
    refine eOp_wp d.ok hsub (wfk i (by omega)) hT hv (hfree i hi hLi) (fun x ρ' w' hx hc => ?_)
    have hext := hc.exts (hfree i hi hLi)
    have hfrm := Chg.frame hchg.sim (fun v r h => wfk i (by omega) v r h) (fun v r h => wfk (i + 1) hi v r h) ⟨Gfar⟩ hi1 (fun v => gfUp_eq d.tx ops.size v) (hfree i hi hLi) hc
    have hg := gUp_same (ops := ops) (Ht := Ht) (wt := wt) (s := i + 1) (s' := i) (L := join L i) (L' := L) (fun k hk2 => by
      have hki : k ≠ i := fun e => by rw [e, hk] at hk2; cases hk2
      rw [hjo k hki]
      constructor
      · rintro ⟨x, y⟩; exact ⟨by omega, y⟩
      · rintro ⟨x, y⟩; exact ⟨by omega, y⟩) ops.size
    refine ⟨ρ', i + 1, by rw [put_defers]; exact hdef, ((hT.mono hext).put o.dst hx).congr hjoin, hi, .inr ⟨i, rfl, hk⟩, fun q hq => ?_, fun j hj hL => ?_, ?_⟩
    · by_cases e : q = i
      · subst e; simp [join]
      · rw [hjo q e, hpq q hq]
        constructor
        · intro h; omega
        · intro h
          rcases Nat.lt_or_ge q p with h' | h'
          · exact h'
          · exact absurd hq (noE q h' (by omega))
    · have hji : j ≠ i := fun e => by subst e; simp [join] at hL
      rw [hjo j hji] at hL
      intro v h1 h2
      rw [hc.ext v ?_]
      · exact hfree j hj hL v h1 h2
      · rintro ⟨h3, h4⟩
        rcases Nat.lt_or_gt_of_ne hji with hlt | hgt
        · have := (next_le d.grow d.tx i (j + 1) (by omega) (by omega)).1; omega
        · have := (next_le d.grow d.tx j (i + 1) (by omega) (by omega)).1; omega
    · rw [hg.1, hg.2]
      exact hchg.trans2 (hfrm.widen lo0 hiN)
  · -- it is not wanted
    rw [hw, if_neg (by decide)]
    exact same undef (by rw [hk]; decide) (by rw [hk]; decide) (by rw [hvt]; exact vrel_undef ρ)

end Go.Abs

namespace Go.Abs
open Go
variable {P : Program} {ng n B : Nat} {call : ACall} {ops : Array Oper} {Tt : Nat → Tr AVal} {Ht : Nat → AHeap} {vt : Nat → AVal} {wt : Nat → Bool}

def openIn (L : Nat → Bool) : Nat → Nat
  | 0 => 0
  | k + 1 => (if L k = true then 0 else 1) + openIn L k
theorem openIn_zero {L : Nat → Bool} : ∀ {k : Nat}, openIn L k = 0 → ∀ i, i < k → L i = true
  | 0, _, i, hi => by omega
  | k + 1, h, i, hi => by
    simp only [openIn] at h
    rcases Nat.eq_or_lt_of_le (Nat.le_of_lt_succ hi) with rfl | hlt
    · split at h
      · assumption
      · omega
    · exact openIn_zero (by omega) i hlt
theorem openIn_join {L : Nat → Bool} {i : Nat} (hi : L i = false) : ∀ {k : Nat}, openIn (join L i) k + (if i < k then 1 else 0) = openIn L k
  | 0 => by simp [openIn]
  | k + 1 => by
    have ih := openIn_join (L := L) hi (k := k)
    simp only [openIn]
    by_cases e : k = i
    · subst e
      have e1 : join L k k = true := by simp [join]
      have h1 : (if k < k then 1 else 0) = 0 := if_neg (Nat.lt_irrefl k)
      have h2 : (if k < k + 1 then 1 else 0) = 1 := if_pos (Nat.lt_succ_self k)
      rw [h1] at ih
      rw [e1, hi, h2]
      simp only [if_true, Bool.false_eq_true, if_false]
      omega
    · have e1 : join L i k = L k := by simp [join, e]
      rw [e1]
      by_cases h : i < k
      · have h1 : (if i < k then 1 else 0) = 1 := if_pos h
        have h2 : (if i < k + 1 then 1 else 0) = 1 := if_pos (by omega)
        rw [h1] at ih; rw [h2]; omega
      · have h1 : (if i < k then 1 else 0) = 0 := if_neg h
        have h2 : (if i < k + 1 then 1 else 0) = 0 := if_neg (by omega)
        rw [h1] at ih; rw [h2]; omega

theorem binds_any {md : Region.Mode} {e : Edge} (h : Region.binds .any e = true) : Region.binds md e = true := by
  unfold Region.binds at h ⊢
  split at h
  · cases h
  · cases h
  · rfl

theorem draw_done (d : Draw P ng call n ops Tt Ht vt wt) {ρ0 : Rho} {w0 : World} {L : Nat → Bool} {a : Act} {w : World} (hall : ∀ i, i < ops.size → L i = true) (inv : DInv ng n B ops Tt Ht vt wt ρ0 w0 L a w) :
    ∃ ρ, a.defers = [] ∧ TRel ρ n (Tt ops.size) a.tmps ∧ Chg B ng (Ht 0).objs.get (Ht 0).next (Ht ops.size).next ρ0 w0 (Ht ops.size).objs.get (Ht ops.size).fams.get ρ w := by
  obtain ⟨ρ, p, hdef, hT, hp, hpe, hpq, hfree, hchg⟩ := inv
  have noE : ∀ q, p ≤ q → q < ops.size → kind ops wt q ≠ 3 := fun q h1 h2 h3 => by
    have := (hpq q h3).1 (hall q h2); omega
  obtain ⟨t1, t2⟩ := over_text d.tx hp (Nat.le_refl _) (fun q _ h2 _ => hall q h2) noE ops.size hp (Nat.le_refl _)
  rw [t1, t2] at hchg
  have hTL : ∀ k, k ≤ ops.size → TL n ops Tt vt L k = Tt k := by
    intro k
    induction k with
    | zero => intro _; rfl
    | succ k ih =>
      intro hk
      have hok : ops[k]? = some (ops[k]'(by omega)) := Array.getElem?_eq_getElem (by omega)
      simp only [TL, hall k (by omega), if_true, ih (by omega), dstOf, hok, Option.bind_some]
      exact (d.tx.tmp k _ hok).symm
  rw [hTL ops.size (Nat.le_refl _)] at hT
  exact ⟨ρ, hdef, hT, hchg⟩

theorem draw_any (d : Draw P ng call n ops Tt Ht vt wt) {md : Region.Mode} {ord : List Nat} (hord : ordOk md ops ord [] = true) {ρ0 : Rho} {w0 : World} {Q : Exit → Act → World → Prop}
    (hQ : ∀ a w ρ, a.defers = [] → TRel ρ n (Tt ops.size) a.tmps → Chg B ng (Ht 0).objs.get (Ht 0).next (Ht ops.size).next ρ0 w0 (Ht ops.size).objs.get (Ht ops.size).fams.get ρ w → Q .normal a w) :
    ∀ (fuel : Nat) (listed : Array Bool) (a : Act) (w : World), listed.size = ops.size →
      (∀ i o e, listed.getD i false = true → ops[i]? = some o → e ∈ o.after.toList → Region.binds .any e = true → listed.getD e.on false = true) →
      DInv ng n B ops Tt Ht vt wt ρ0 w0 (fun i => listed.getD i false) a w → openIn (fun i => listed.getD i false) ops.size ≤ fuel → wpAny P md ops Q fuel listed a w := by
  intro fuel
  induction fuel with
  | zero =>
    intro listed a w hs hc inv hf
    have hall := openIn_zero (Nat.le_zero.1 hf)
    refine ⟨?_, ?_⟩
    · unfold Region.ready
      rw [List.filter_eq_nil_iff]
      intro i hi
      have hi := List.mem_range.1 hi
      have h1 : listed.getD i true = true := by
        have := hall i hi
        simp only [Array.getD_eq_getD_getElem?] at this ⊢
        cases h : listed[i]? with
        | none => rfl
        | some b => rw [h] at this; exact this
      simp only [h1, Bool.not_true, Bool.false_and, Bool.false_eq_true, not_false_eq_true]
    · obtain ⟨ρ, h1, h2, h3⟩ := draw_done d hall inv
      exact hQ a w ρ h1 h2 h3
  | succ fuel ih =>
    intro listed a w hs hc inv hf
    have hclosed : ∀ i j, ((fun i => listed.getD i false) i = true) → tb (befOf ops i) j = true → (fun i => listed.getD i false) j = true := fun i j h1 h2 =>
      bef_closed (L := fun i => listed.getD i false = true) (fun i o e a b c f => hc i o e a b c f) i (.inl h1) j h2
    refine ⟨fun hr => ?_, fun i hi => ?_⟩
    · have hall : ∀ i, i < ops.size → listed.getD i false = true := by
        refine ordOk_all (md := md) (L := fun i => listed.getD i false) (fun i hi hl => ?_) ord [] hord (fun i hi => by cases hi)
        have ho : ops[i]? = some ops[i] := Array.getElem?_eq_getElem hi
        have hni : i ∉ Region.ready md ops listed := by rw [hr]; simp
        unfold Region.ready at hni
        rw [List.mem_filter] at hni
        have h1 : listed.getD i true = false := by
          have hlt : i < listed.size := by omega
          have hl' : listed.getD i false = false := hl
          simp only [Array.getD_eq_getD_getElem?, Array.getElem?_eq_getElem hlt, Option.getD_some] at hl' ⊢
          exact hl'
        have hn2 : ¬ ((ops[i].after.all fun e => !Region.binds md e || listed.getD e.on false) = true) := by
          intro h
          apply hni
          refine ⟨List.mem_range.2 hi, ?_⟩
          simp only [h1, Bool.not_false, Bool.true_and, ho, Option.map_some, Option.getD_some]
          exact h
        rw [Array.all_eq_true_iff_forall_mem] at hn2
        obtain ⟨e, hn3⟩ := Classical.not_forall.1 hn2
        obtain ⟨he, hne⟩ := Classical.not_imp.1 hn3
        simp only [Bool.or_eq_true, not_or, Bool.not_eq_true', Bool.not_eq_false, Bool.not_eq_true] at hne
        exact ⟨ops[i], e, ho, by simpa using he, hne.1, hne.2⟩
      obtain ⟨ρ, h1, h2, h3⟩ := draw_done d hall inv
      exact hQ a w ρ h1 h2 h3
    · unfold Region.ready at hi
      rw [List.mem_filter] at hi
      obtain ⟨hir, hcond⟩ := hi
      have hlt := List.mem_range.1 hir
      have ho : ops[i]? = some ops[i] := Array.getElem?_eq_getElem hlt
      simp only [Bool.and_eq_true, Bool.not_eq_true', ho, Option.map_some, Option.getD_some] at hcond
      have hLi : listed.getD i false = false := by
        have hl' := hcond.1
        have hls : i < listed.size := by omega
        simp only [Array.getD_eq_getD_getElem?, Array.getElem?_eq_getElem hls, Option.getD_some] at hl' ⊢
        exact hl'
      have hedge : ∀ e, e ∈ (ops[i]).after.toList → Region.binds .any e = true → listed.getD e.on false = true := by
        intro e he hb
        have := hcond.2
        rw [Array.all_eq_true_iff_forall_mem] at this
        have := this e (by simpa using he)
        rw [binds_any hb] at this
        simpa using this
      have hbef : ∀ j, tb (befOf ops i) j = true → (fun i => listed.getD i false) j = true :=
        bef_closed (L := fun i => listed.getD i false = true) (fun i o e a b c f => hc i o e a b c f) i (.inr fun o e h1 h2 h3 => by rw [ho] at h1; cases h1; exact hedge e h2 h3)
      refine wpOp_mono (fun a' w' hinv => ?_) (draw_step (Q := Q) d hclosed ho hLi hbef inv)
      have hset : (fun k => (listed.setIfInBounds i true).getD k false) = join (fun k => listed.getD k false) i := by
        funext k
        unfold join
        by_cases e : k = i
        · subst e
          rw [if_pos rfl, Array.getD_eq_getD_getElem?, Array.getElem?_setIfInBounds_self_of_lt (by omega)]; rfl
        · rw [if_neg e, Array.getD_eq_getD_getElem?, Array.getElem?_setIfInBounds_ne (Ne.symm e), ← Array.getD_eq_getD_getElem?]
      refine ih (listed.setIfInBounds i true) a' w' (by simpa using hs) ?_ (by rw [hset]; exact hinv) ?_
      · intro k o e h1 h2 h3 h4
        have h1' : (fun k => (listed.setIfInBounds i true).getD k false) k = true := h1
        show (fun k => (listed.setIfInBounds i true).getD k false) e.on = true
        rw [hset] at h1' ⊢
        unfold join at h1' ⊢
        by_cases e1 : e.on = i
        · rw [if_pos e1]
        · rw [if_neg e1]
          by_cases e2 : k = i
          · subst e2; rw [ho] at h2; cases h2; exact hedge e h3 h4
          · rw [if_neg e2] at h1'; exact hc k o e h1' h2 h3 h4
      · rw [hset]
        have := openIn_join (L := fun k => listed.getD k false) hLi (k := ops.size)
        rw [if_pos hlt] at this
        omega

/-- a region of either kind -/
theorem aRegion_wp (hok : CallOk P ng call) (hcg : CallGrow call) {id : Nat} {draw : Bool} (hst : draw = true → drawStatic ops = true) {T T' : Tr AVal} {H H' : AHeap} {ρ : Rho} {a : Act} {w : World} {Q : Exit → Act → World → Prop}
    (h : aRegion P ng call n ops T H draw = some (T', H')) (s : Sim B ng ρ H w) (wf : WF H) (hfree : Free ρ H.next H'.next) (hT : TRel ρ n T a.tmps) (hd : a.defers = [])
    (hQ : ∀ a' w' ρ', TRel ρ' n T' a'.tmps → a'.defers = [] → Chg B ng H.objs.get H.next H'.next ρ w H'.objs.get H'.fams.get ρ' w' → Q .normal a' w') : (Code.region id ops draw).wp P Q a w := by
  cases draw with
  | false =>
    have h : aOps P ng call n ops.toList ops.toList T H = some (T', H') := h
    refine wp_region ?_
    have := aOps_wp (B := B) (Q := Q) hok hcg ops.toList 0 T T' H H' ρ a w rfl h s wf hfree hT hd hQ
    rw [List.range_eq_range']
    simpa using this
  | true =>
    have h : drawDone P ng (befOf ops) H.objs (aOpsD P ng call n ops.toList (befOf ops) ops.toList 0 ⟨[], [], []⟩ T H) = some (T', H') := h
    unfold drawDone at h
    split at h
    · rename_i S T1 H1 hrun
      split at h
      · rename_i hreads
        cases h
        have hst := hst rfl
        simp only [drawStatic, Bool.and_eq_true] at hst
        obtain ⟨Tt, Ht, vt, wt, tx, hT0, hH0, hTN, hHN⟩ := txt_of (aOpsD_aOps hrun)
        have hrun' : aOpsD P ng call n ops.toList (befOf ops) ops.toList 0 ⟨pendUp ops wt 0, esUp ops Ht wt 0, rsUp ops Tt vt wt 0⟩ (Tt 0) (Ht 0) = some (S, T', H') := by
          rw [hT0, hH0]; exact hrun
        obtain ⟨hS, hch⟩ := aOpsD_seen tx (List.drop_zero) (Nat.zero_le _) hrun'
        subst hS
        have pendMem : ∀ k i, i < k → (kind ops wt i = 2 ∨ kind ops wt i = 3) → i ∈ pendUp ops wt k := by
          intro k
          induction k with
          | zero => intro i hi; omega
          | succ k ihk =>
            intro i hi hk
            simp only [pendUp]
            rcases Nat.eq_or_lt_of_le (Nat.le_of_lt_succ hi) with rfl | hlt
            · rw [if_pos hk]; simp
            · split
              · exact List.mem_cons_of_mem _ (ihk i hlt hk)
              · exact ihk i hlt hk
        have rsMem : ∀ k j o, j < k → ops[j]? = some o → kind ops wt j = 1 → (j, Tt j, o.op, vt j) ∈ rsUp ops Tt vt wt k := by
          intro k
          induction k with
          | zero => intro j o hj; omega
          | succ k ihk =>
            intro j o hj ho hk
            simp only [rsUp]
            rcases Nat.eq_or_lt_of_le (Nat.le_of_lt_succ hj) with rfl | hlt
            · rw [if_pos hk]; simp [ho]
            · split
              · exact List.mem_cons_of_mem _ (ihk j o hlt ho hk)
              · exact ihk j o hlt ho hk
        have d : Draw P ng call n ops Tt Ht vt wt := {
          tx := tx, ok := hok, grow := hcg, wf := by rw [hH0]; exact wf, apart := hst.2,
          chain := fun k hk i hik hki => hch k (Nat.zero_le _) (kind_lt (by rw [hk]; decide)) hk i (pendMem k i hik hki),
          reads := fun j o ho hk p hp hpe up hup => by
            have hjl := kind_lt (i := j) (ops := ops) (wt := wt) (by rw [hk]; decide)
            have := readsOk_mem hreads _ (rsMem ops.size j o hjl ho hk)
            rw [← hH0] at this
            exact readOk_at ops.size none this p hp hpe up hup }
        have inv0 : DInv ng n B ops Tt Ht vt wt ρ w (fun i => (Array.replicate ops.size false).getD i false) a { w with drawn := w.drawn + 1 } := by
          have hLf : ∀ i, (Array.replicate ops.size false).getD i false = false := by
            intro i; simp only [Array.getD_eq_getD_getElem?, Array.getElem?_replicate]; split <;> rfl
          have hg : ∀ k, gUp ops Ht wt 0 (fun i => (Array.replicate ops.size false).getD i false) k = (fun _ => none) ∧ gfUp ops Ht wt 0 (fun i => (Array.replicate ops.size false).getD i false) k = (fun _ => none) := by
            intro k
            induction k with
            | zero => exact ⟨rfl, rfl⟩
            | succ k ihk => simp only [gUp, gfUp]; rw [if_neg (by rw [hLf]; simp), if_neg (by rw [hLf]; simp)]; exact ihk
          have hTL : ∀ k, TL n ops Tt vt (fun i => (Array.replicate ops.size false).getD i false) k = Tt 0 := by
            intro k
            induction k with
            | zero => rfl
            | succ k ihk => simp only [TL]; rw [if_neg (by rw [hLf]; simp)]; exact ihk
          refine ⟨ρ, 0, hd, by rw [hTL, hT0]; exact hT, Nat.zero_le _, .inl rfl, fun q _ => by simp [hLf], fun i hi _ => ?_, ?_⟩
          · have h1 := (next_le hcg tx i 0 (Nat.zero_le _) (by omega)).1
            have h2 := (next_le hcg tx ops.size (i + 1) hi (Nat.le_refl _)).1
            rw [hH0] at h1; rw [hHN] at h2
            exact hfree.sub h1 h2
          · rw [(hg ops.size).1, (hg ops.size).2, hH0]
            exact { Chg.refl s _ _ with sim := s }
        have hQ' : ∀ a w' ρ', a.defers = [] → TRel ρ' n (Tt ops.size) a.tmps → Chg B ng (Ht 0).objs.get (Ht 0).next (Ht ops.size).next ρ w (Ht ops.size).objs.get (Ht ops.size).fams.get ρ' w' → Q .normal a w' := by
          intro a' w' ρ' h1 h2 h3
          rw [hTN] at h2
          rw [hH0, hHN] at h3
          exact hQ a' w' ρ' h2 h1 h3
        have hopen : openIn (fun i => (Array.replicate ops.size false).getD i false) ops.size ≤ ops.size := by
          have : ∀ (L : Nat → Bool) k, openIn L k ≤ k := by
            intro L k
            induction k with
            | zero => exact Nat.le_refl _
            | succ k ihk => simp only [openIn]; split <;> omega
          exact this _ _
        have hcl0 : ∀ i o e, (Array.replicate ops.size false).getD i false = true → ops[i]? = some o → e ∈ o.after.toList → Region.binds .any e = true → (Array.replicate ops.size false).getD e.on false = true := by
          intro i o e h1
          simp only [Array.getD_eq_getD_getElem?, Array.getElem?_replicate] at h1
          split at h1 <;> cases h1
        have all : ∀ md, ordOk md ops (Region.linearise md ops 0) [] = true → ∀ t, wpOps P ops Q (Region.linearise md ops t) a { w with drawn := w.drawn + 1 } := fun md hmd t =>
          wpAny_sound ops.size t _ a _ (draw_any d hmd hQ' ops.size _ a _ (by simp) hcl0 inv0 hopen)
        refine wp_region_draw fun t => ?_
        unfold Region.schedule
        split
        · exact all .any hst.1.1.1 t
        · split
          · exact all .text hst.1.1.2 _
          · exact all .gc hst.1.2 _
      · cases h
    · cases h

end Go.Abs

namespace Go.Abs
open Go
variable {P : Program} {ng n B : Nat} {call : ACall}

noncomputable def staticC : Code → Bool
  | .region _ ops draw => !draw || drawStatic ops
  | .seq a b => staticC a && staticC b
  | .cond _ a b => staticC a && staticC b
  | .block _ c => staticC c
  | .loop c => staticC c
  | _ => true

def AExit.up : AExit → Exit
  | .normal => .normal
  | .exit id => .exit id
  | .ret => .ret

def LoopWp (P : Program) (c : Code) (Q : Exit → Act → World → Prop) (a : Act) (w : World) : Prop :=
  ∀ (b : Frame) (k : List Item) (cs : List Frame), ∃ e a' w', Q e a' w' ∧ Arrives P (lone (b.at a (.code c :: .inLoop c :: k)) cs w) b k cs e a' w'

theorem LoopWp.wp {c : Code} {Q : Exit → Act → World → Prop} {a : Act} {w : World} (h : LoopWp P c Q a w) : (Code.loop c).wp P Q a w := fun b k cs =>
  let ⟨e, a', w', q, r⟩ := h b k cs; ⟨e, a', w', q, .of_steps (.one step_loop) r⟩

theorem LoopWp.round {c : Code} {Q : Exit → Act → World → Prop} {a : Act} {w : World} (h : c.wp P (Exit.then (LoopWp P c Q) Q) a w) : LoopWp P c Q a w := by
  intro b k cs
  obtain ⟨e, a₁, w₁, hq, harr⟩ := h b (.inLoop c :: k) cs
  cases e with
  | normal =>
    obtain ⟨e₂, a₂, w₂, hq₂, harr₂⟩ := hq b k cs
    exact ⟨e₂, a₂, w₂, hq₂, .of_steps (Steps.trans harr (.one step_inLoop)) harr₂⟩
  | exit id => exact ⟨_, a₁, w₁, hq, .pass (x := .inLoop c) rfl (fun _ _ => .inl (by simp)) harr⟩
  | goto l => exact ⟨_, a₁, w₁, hq, .pass (x := .inLoop c) rfl (fun _ _ => .inl (by simp)) harr⟩
  | ret => exact ⟨_, a₁, w₁, hq, .pass (x := .inLoop c) rfl (fun _ _ => .inl (by simp)) harr⟩
  | panic ch => exact ⟨_, a₁, w₁, hq, .pass (x := .inLoop c) rfl (fun _ _ => .inl (by simp)) harr⟩
  | outgrown => exact ⟨_, a₁, w₁, hq, .pass (x := .inLoop c) rfl (fun _ _ => .inl (by simp)) harr⟩

theorem andThen_some {k : Tr AVal → AHeap → Option AState} {r : Option AState} {x : AState} (h : andThen k r = some x) : (∃ T H, r = some (.normal, T, H) ∧ k T H = some x) ∨ (r = some x ∧ x.1 ≠ .normal) := by
  unfold andThen at h
  split at h
  · exact .inl ⟨_, _, rfl, h⟩
  · rename_i hn
    refine .inr ⟨h, fun hx => ?_⟩
    obtain ⟨e, T, H⟩ := x
    simp at hx; subst hx
    exact hn T H h

theorem aRegion_grow (hcg : CallGrow call) {ops : Array Oper} {draw : Bool} {T T' : Tr AVal} {H H' : AHeap} (h : aRegion P ng call n ops T H draw = some (T', H')) : Grow H H' := by
  cases draw with
  | false => exact aOps_grow hcg (show aOps P ng call n ops.toList ops.toList T H = some (T', H') from h)
  | true =>
    have h : drawDone P ng (befOf ops) H.objs (aOpsD P ng call n ops.toList (befOf ops) ops.toList 0 ⟨[], [], []⟩ T H) = some (T', H') := h
    unfold drawDone at h
    split at h
    · rename_i S T1 H1 hrun
      split at h
      · cases h
        exact aOps_grow hcg (aOpsD_aOps hrun)
      · cases h
    · cases h

theorem evalCode_grow (hcg : CallGrow call) : ∀ (m : Nat) (c : Code) (T : Tr AVal) (H : AHeap) (e : AExit) (T' : Tr AVal) (H' : AHeap), evalCode P ng call n m c T H = some (e, T', H') → Grow H H' := by
  intro m
  induction m with
  | zero => intro c T H e T' H' h; cases h
  | succ m ih =>
    intro c T H e T' H' h
    cases c with
    | skip => cases h; exact Grow.refl _
    | region id ops d =>
      change asNormal (aRegion P ng call n ops T H d) = _ at h
      unfold asNormal at h
      split at h
      · rename_i hr; cases h; exact aRegion_grow hcg hr
      · cases h
    | seq a b =>
      change andThen (evalCode P ng call n m b) (evalCode P ng call n m a T H) = _ at h
      rcases andThen_some h with ⟨T1, H1, h1, h2⟩ | ⟨h1, _⟩
      · exact (ih a T H _ T1 H1 h1).trans (ih b T1 H1 e T' H' h2)
      · exact ih a T H e T' H' h1
    | cond x a b =>
      change onBool (evalCode P ng call n m a T H) (evalCode P ng call n m b T H) (opd ng T x) = _ at h
      unfold onBool at h
      split at h
      · exact ih a T H e T' H' h
      · exact ih b T H e T' H' h
      · cases h
    | block id a =>
      change leaveBlock id (evalCode P ng call n m a T H) = _ at h
      unfold leaveBlock at h
      split at h
      · rename_i j T1 H1 h1
        have := ih a T H _ T1 H1 h1
        split at h <;> (cases h; exact this)
      · exact ih a T H e T' H' h
    | loop a =>
      change andThen (evalCode P ng call n m (.loop a)) (evalCode P ng call n m a T H) = _ at h
      rcases andThen_some h with ⟨T1, H1, h1, h2⟩ | ⟨h1, _⟩
      · exact (ih a T H _ T1 H1 h1).trans (ih (.loop a) T1 H1 e T' H' h2)
      · exact ih a T H e T' H' h1
    | exit id => cases h; exact Grow.refl _
    | ret => cases h; exact Grow.refl _
    | _ => cases h

theorem evalCode_wp (hok : CallOk P ng call) (hcg : CallGrow call) : ∀ (m : Nat), (∀ (c : Code) (T : Tr AVal) (H : AHeap) (e : AExit) (T' : Tr AVal) (H' : AHeap), evalCode P ng call n m c T H = some (e, T', H') → staticC c = true →
      ∀ (ρ : Rho) (a : Act) (w : World) (Q : Exit → Act → World → Prop), Sim B ng ρ H w → WF H → Free ρ H.next H'.next → TRel ρ n T a.tmps → a.defers = [] →
      (∀ a' w' ρ', TRel ρ' n T' a'.tmps → a'.defers = [] → Chg B ng H.objs.get H.next H'.next ρ w H'.objs.get H'.fams.get ρ' w' → Q e.up a' w') → c.wp P Q a w) ∧
    (∀ (c : Code) (T : Tr AVal) (H : AHeap) (e : AExit) (T' : Tr AVal) (H' : AHeap), evalCode P ng call n m (.loop c) T H = some (e, T', H') → staticC c = true →
      ∀ (ρ : Rho) (a : Act) (w : World) (Q : Exit → Act → World → Prop), Sim B ng ρ H w → WF H → Free ρ H.next H'.next → TRel ρ n T a.tmps → a.defers = [] →
      (∀ a' w' ρ', TRel ρ' n T' a'.tmps → a'.defers = [] → Chg B ng H.objs.get H.next H'.next ρ w H'.objs.get H'.fams.get ρ' w' → Q e.up a' w') → LoopWp P c Q a w) := by
  intro m
  induction m with
  | zero => exact ⟨(fun c T H e T' H' h => by cases h), (fun c T H e T' H' h => by cases h)⟩
  | succ m ih =>
    obtain ⟨ih1, ih2⟩ := ih
    have loops : ∀ (c : Code) (T : Tr AVal) (H : AHeap) (e : AExit) (T' : Tr AVal) (H' : AHeap), evalCode P ng call n (m + 1) (.loop c) T H = some (e, T', H') → staticC c = true →
        ∀ (ρ : Rho) (a : Act) (w : World) (Q : Exit → Act → World → Prop), Sim B ng ρ H w → WF H → Free ρ H.next H'.next → TRel ρ n T a.tmps → a.defers = [] →
        (∀ a' w' ρ', TRel ρ' n T' a'.tmps → a'.defers = [] → Chg B ng H.objs.get H.next H'.next ρ w H'.objs.get H'.fams.get ρ' w' → Q e.up a' w') → LoopWp P c Q a w := by
      intro c T H e T' H' h hst ρ a w Q s wf hf hT hd hQ
      change andThen (evalCode P ng call n m (.loop c)) (evalCode P ng call n m c T H) = _ at h
      refine LoopWp.round ?_
      rcases andThen_some h with ⟨T1, H1, h1, h2⟩ | ⟨h1, hn⟩
      · have g1 := evalCode_grow hcg m c T H _ T1 H1 h1
        have g2 := evalCode_grow hcg m (.loop c) T1 H1 e T' H' h2
        refine ih1 c T H _ T1 H1 h1 hst ρ a w _ s wf (hf.sub (Nat.le_refl _) g2.1) hT hd (fun a' w' ρ' hT' hd' hc => ?_)
        exact ih2 c T1 H1 e T' H' h2 hst ρ' a' w' Q hc.sim (g1.2 wf) (hf.chg hc g1.1) hT' hd' (fun a'' w'' ρ'' hT'' hd'' hc' => hQ a'' w'' ρ'' hT'' hd'' (hc.trans hc' g1.1 g2.1))
      · refine ih1 c T H e T' H' h1 hst ρ a w _ s wf hf hT hd (fun a' w' ρ' hT' hd' hc => ?_)
        have := hQ a' w' ρ' hT' hd' hc
        cases e with
        | normal => exact absurd rfl hn
        | exit id => exact this
        | ret => exact this
    refine ⟨?_, loops⟩
    intro c T H e T' H' h hst ρ a w Q s wf hf hT hd hQ
    cases c with
    | skip => cases h; exact wp_skip (hQ a w ρ hT hd (Chg.refl s _ _))
    | region id ops d =>
      change asNormal (aRegion P ng call n ops T H d) = _ at h
      unfold asNormal at h
      split at h
      · rename_i T1 H1 hr
        cases h
        refine aRegion_wp hok hcg (fun hdr => ?_) hr s wf hf hT hd hQ
        simp only [staticC, hdr, Bool.not_true, Bool.false_or] at hst
        exact hst
      · cases h
    | seq x y =>
      change andThen (evalCode P ng call n m y) (evalCode P ng call n m x T H) = _ at h
      simp only [staticC, Bool.and_eq_true] at hst
      refine wp_seq ?_
      rcases andThen_some h with ⟨T1, H1, h1, h2⟩ | ⟨h1, hn⟩
      · have g1 := evalCode_grow hcg m x T H _ T1 H1 h1
        have g2 := evalCode_grow hcg m y T1 H1 e T' H' h2
        refine ih1 x T H _ T1 H1 h1 hst.1 ρ a w _ s wf (hf.sub (Nat.le_refl _) g2.1) hT hd (fun a' w' ρ' hT' hd' hc => ?_)
        exact ih1 y T1 H1 e T' H' h2 hst.2 ρ' a' w' Q hc.sim (g1.2 wf) (hf.chg hc g1.1) hT' hd' (fun a'' w'' ρ'' hT'' hd'' hc' => hQ a'' w'' ρ'' hT'' hd'' (hc.trans hc' g1.1 g2.1))
      · refine ih1 x T H e T' H' h1 hst.1 ρ a w _ s wf hf hT hd (fun a' w' ρ' hT' hd' hc => ?_)
        have := hQ a' w' ρ' hT' hd' hc
        cases e with
        | normal => exact absurd rfl hn
        | exit id => exact this
        | ret => exact this
    | cond x y z =>
      change onBool (evalCode P ng call n m y T H) (evalCode P ng call n m z T H) (opd ng T x) = _ at h
      simp only [staticC, Bool.and_eq_true] at hst
      unfold onBool at h
      split at h
      · rename_i hx
        exact wp_cond_true (opd_sound hT s.glob hx) (ih1 y T H e T' H' h hst.1 ρ a w Q s wf hf hT hd hQ)
      · rename_i hx
        exact wp_cond_false (opd_sound hT s.glob hx) (ih1 z T H e T' H' h hst.2 ρ a w Q s wf hf hT hd hQ)
      · cases h
    | block id x =>
      change leaveBlock id (evalCode P ng call n m x T H) = _ at h
      simp only [staticC] at hst
      refine wp_block ?_
      unfold leaveBlock at h
      split at h
      · rename_i j T1 H1 h1
        split at h
        · rename_i hj
          have hj := beq_true hj
          cases h
          refine ih1 x T H _ _ _ h1 hst ρ a w _ s wf hf hT hd (fun a' w' ρ' hT' hd' hc => ?_)
          show Exit.inBlock id Q (.exit j) a' w'
          simp only [Exit.inBlock, hj, if_true]
          exact hQ a' w' ρ' hT' hd' hc
        · rename_i hj
          have hj := beq_false hj
          cases h
          refine ih1 x T H _ _ _ h1 hst ρ a w _ s wf hf hT hd (fun a' w' ρ' hT' hd' hc => ?_)
          show Exit.inBlock id Q (.exit j) a' w'
          simp only [Exit.inBlock, hj, if_false]
          exact hQ a' w' ρ' hT' hd' hc
      · rename_i hne
        refine ih1 x T H e T' H' h hst ρ a w _ s wf hf hT hd (fun a' w' ρ' hT' hd' hc => ?_)
        have := hQ a' w' ρ' hT' hd' hc
        cases e with
        | normal => exact this
        | exit j => exact absurd h (hne j T' H')
        | ret => exact this
    | loop x =>
      simp only [staticC] at hst
      exact (loops x T H e T' H' h hst ρ a w Q s wf hf hT hd hQ).wp
    | exit id => cases h; exact wp_exit (hQ a w ρ hT hd (Chg.refl s _ _))
    | ret => cases h; exact wp_ret (hQ a w ρ hT hd (Chg.refl s _ _))
    | _ => cases h

end Go.Abs

namespace Go.Abs
open Go
variable {P : Program} {ng B : Nat}

theorem getT_setArgs : ∀ (vs : List AVal) (i : Nat) (T : Tr AVal) (j : Nat), getT (setArgs vs i T) j = if i ≤ j ∧ j < i + vs.length then (vs[j - i]?).getD (.tuple []) else getT T j
  | [], i, T, j => by simp only [setArgs, List.length_nil]; rw [if_neg (by omega)]
  | v :: vs, i, T, j => by
    simp only [setArgs]
    rw [getT_setArgs vs (i + 1) _ j]
    simp only [List.length_cons]
    by_cases h1 : i + 1 ≤ j ∧ j < i + 1 + vs.length
    · rw [if_pos h1, if_pos (by omega)]
      rw [show j - i = (j - (i + 1)) + 1 by omega]
      simp
    · rw [if_neg h1, getT_eq, Tr.get_set]
      by_cases h2 : i = j
      · subst h2; rw [if_pos rfl, if_pos (by omega)]; simp
      · rw [if_neg h2, if_neg (by omega), ← getT_eq]

theorem TRel_args {ρ : Rho} {args : List AVal} {xs : List Value} (h : vrels ρ args xs) (k : Nat) : TRel ρ (args.length + k) (setArgs args 0 .nil) (⟨xs⟩ ++ Array.replicate k undef) := by
  have hl := vrels_length h
  refine ⟨by simp [hl], fun i => ?_⟩
  rw [getT_setArgs]
  rw [Array.getD_eq_getD_getElem?]
  by_cases hi : i < args.length
  · rw [if_pos (by omega), Nat.sub_zero, List.getElem?_eq_getElem hi, Option.getD_some]
    obtain ⟨x, hx, hr⟩ := vrels_get h (List.getElem?_eq_getElem hi)
    rw [Array.getElem?_append_left (by simp; omega)]
    have : (⟨xs⟩ : Array Value)[i]? = some x := by simpa using hx
    rw [this]; exact hr
  · rw [if_neg (by omega)]
    have h1 : getT (Tr.nil : Tr AVal) i = .tuple [] := rfl
    rw [h1, Array.getElem?_append_right (by simp; omega), Array.getElem?_replicate]
    split <;> exact vrel_undef ρ

/-- one result -/
def resOf (tmps : Array Value) : ResultVar → Sem Value
  | .tmp t => pure (tmps.getD t undef)
  | .cell a t => do loadVar t (← asAddr (tmps.getD a undef))

theorem aResults_run {ρ : Rho} {n : Nat} {obj : Nat → Option Row} {fam : Nat → Option (List Nat)} {w : World} (s : SimF B ng ρ obj fam w.heap) {T : Tr AVal} {tmps : Array Value} (hT : TRel ρ n T tmps) : ∀ {rs : List ResultVar} {l : List AVal},
    aResults P obj T rs = some l → ∃ vs, vrels ρ l vs ∧ (rs.mapM (resOf tmps)).run P w = .ok vs w
  | [], l, h => by cases h; exact ⟨[], rfl, by simp⟩
  | .tmp t :: rs, l, h => by
    simp only [aResults] at h
    split at h
    · rename_i l' hl
      cases h
      obtain ⟨vs, h1, h2⟩ := aResults_run s hT hl
      refine ⟨tmps.getD t undef :: vs, vrels_cons.2 ⟨_, _, rfl, hT.get t, h1⟩, ?_⟩
      simp only [List.mapM_cons, Sem.run_bind, resOf, Sem.run_pure, Result.andThen_ok]
      rw [h2]; rfl
    · cases h
  | .cell x t :: rs, l, h => by
    simp only [aResults] at h
    split at h
    · rename_i v l' hv hl
      cases h
      obtain ⟨vs, h1, h2⟩ := aResults_run s hT hl
      obtain ⟨r, hr, hrun⟩ := load_run s (hT.get x) hv
      refine ⟨r :: vs, vrels_cons.2 ⟨_, _, rfl, hr, h1⟩, ?_⟩
      have hload : (resOf tmps (.cell x t)).run P w = .ok r w := by
        have hp := hT.get x
        unfold aLoad at hv
        split at hv
        · rename_i u off hg
          rw [hg] at hp
          obtain ⟨lc, _, he⟩ := hp
          rw [he] at hrun
          simp only [Instr.loadAt, Instr.sureAddr, Sem.run_bind, Sem.run_pure, Result.andThen_ok] at hrun
          simp only [resOf, he, asAddr, Sem.run_bind, Sem.run_pure, Result.andThen_ok]
          exact hrun
        · cases hv
      simp only [List.mapM_cons, Sem.run_bind, hload, Result.andThen_ok]
      rw [h2]; rfl
    · cases h

def packA : List AVal → AVal
  | [v] => v
  | l => .tuple l
def packV : List Value → Value
  | [v] => v
  | l => .tuple ⟨l⟩

theorem results_run {fn : Func} {tmps : Array Value} {w : World} {vs : List Value} (h : (fn.results.toList.mapM (resOf tmps)).run P w = .ok vs w) :
    (results fn tmps).run P w = .ok (packV vs) w := by
  have e : (fn.results.mapM (resOf tmps)).run P w = .ok vs.toArray w := by
    generalize fn.results = rs at h
    obtain ⟨rl⟩ := rs
    rw [List.mapM_toArray]
    simp only [Sem.run_map]
    have h : (rl.mapM (resOf tmps)).run P w = .ok vs w := h
    rw [h]; rfl
  have e2 : results fn tmps = (do let vs ← fn.results.mapM (resOf tmps); pure (if h : vs.size = 1 then vs[0] else .tuple vs) : Sem Value) := by
    unfold results
    congr 1
  rw [e2, Sem.run_bind, e]
  match vs with
  | [] => rfl
  | [v] => rfl
  | v :: u :: vs => simp [Sem.run_pure]; rfl

/-- what is known of calls is right -/
def SumOk (P : Program) (ng : Nat) (sm : ASum) : Prop := ∀ f args H v, sm f args H = some v → ∀ B ρ w xs, Sim B ng ρ H w → WF H → vrels ρ args xs →
  Calls P f ⟨xs⟩ w (fun e w' => ∃ x, e = .returned x ∧ vrel ρ v x ∧ Chg B ng H.objs.get H.next H.next ρ w H.objs.get H.fams.get ρ w')

def StaticP (P : Program) : Prop := ∀ (f : FuncId) (fn : Func) (c : Code), P.funcs[f]? = some fn → fn.body = some c → staticC c = true

theorem callF_succ (sm : ASum) (m : Nat) (f : FuncId) (args : List AVal) (H : AHeap) :
    callF P ng sm (m + 1) f args H = (match sm f args H with | some v => some (v, H) | none => (match P.funcs[f]? with | some fn => runFn P ng (callF P ng sm m) args H fn | none => none)) := by
  show Option.rec (motive := fun _ => Option (AVal × AHeap))
      (Option.rec (motive := fun _ => Option (AVal × AHeap)) none (fun fn => runFn P ng (callF P ng sm m) args H fn) (P.funcs[f]?))
      (fun v => some (v, H)) (sm f args H) = _
  cases sm f args H with
  | some v => rfl
  | none => cases P.funcs[f]? <;> rfl

theorem runFn_some {call : ACall} {args : List AVal} {H H' : AHeap} {fn : Func} {v : AVal} (h : runFn P ng call args H fn = some (v, H')) :
    ∃ c e T l, fn.body = some c ∧ evalCode P ng call (args.length + (fn.ntmps - args.length)) 1000000 c (setArgs args 0 .nil) H = some (e, T, H') ∧ (∀ id, e ≠ .exit id) ∧ aResults P H'.objs.get T fn.results.toList = some l ∧
      v = packA l := by
  unfold runFn at h
  cases hb : fn.body with
  | none => rw [hb] at h; cases h
  | some c =>
    rw [hb] at h
    have h : finish P fn (evalCode P ng call (args.length + (fn.ntmps - args.length)) 1000000 c (setArgs args 0 .nil) H) = some (v, H') := h
    generalize hr : evalCode P ng call (args.length + (fn.ntmps - args.length)) 1000000 c (setArgs args 0 .nil) H = r at h
    unfold finish at h
    split at h
    · cases h
    · rename_i e T H1 hne
      split at h
      · rename_i v' hl
        cases h
        exact ⟨c, e, T, [v], rfl, hr, fun id he => hne id (by rw [he]), hl, rfl⟩
      · rename_i l hn hl
        cases h
        refine ⟨c, e, T, l, rfl, hr, fun id he => hne id (by rw [he]), hl, ?_⟩
        match l with
        | [] => rfl
        | [x] => exact absurd rfl (hn x)
        | x :: y :: l => rfl
      · cases h
    · cases h

theorem callF_grow {sm : ASum} : ∀ m, CallGrow (callF P ng sm m) := by
  intro m
  induction m with
  | zero => intro f args H v H' h; cases h
  | succ m ih =>
    intro f args H v H' h
    rw [callF_succ] at h
    split at h
    · cases h; exact Grow.refl _
    · split at h
      · obtain ⟨c, e, T, l, _, hev, _, _, _⟩ := runFn_some h
        exact evalCode_grow ih _ c _ H e T H' hev
      · cases h

theorem callF_ok {sm : ASum} (hsm : SumOk P ng sm) (hst : StaticP P) : ∀ m, CallOk P ng (callF P ng sm m) := by
  intro m
  induction m with
  | zero => intro f args H v H' h; cases h
  | succ m ih =>
    intro f args H v H' h B ρ w xs s wf hfree hargs
    rw [callF_succ] at h
    split at h
    · rename_i v' hv
      cases h
      refine (hsm f args H v hv B ρ w xs s wf hargs).mono fun e w' ⟨x, he, hx, hc⟩ => ⟨x, ρ, he, hx, hc⟩
    · split at h
      · rename_i fn hf
        obtain ⟨c, e, T, l, hb, hev, hne, hres, rfl⟩ := runFn_some h
        have hlen : xs.length = args.length := vrels_length hargs
        refine calls_of_wp hf hb ?_
        have hsz : (⟨xs⟩ : Array Value).size = args.length := by simpa using hlen
        rw [hsz]
        refine (evalCode_wp (B := B) ih (callF_grow m) 1000000).1 c _ H e T H' hev (hst f fn c hf hb) ρ _ w _ s wf hfree (TRel_args hargs _) rfl ?_
        intro a' w' ρ' hT hd hc
        obtain ⟨vs, hvs, hrun⟩ := aResults_run (P := P) hc.sim hT hres
        have hr := results_run hrun
        have hval : vrel ρ' (packA l) (packV vs) := by
          clear hr hrun hres h
          match l, hvs with
          | [], hvs => obtain rfl := vrels_nil.1 hvs; exact ⟨[], rfl, rfl⟩
          | [x], hvs =>
            obtain ⟨y, ys, rfl, hy, hys⟩ := vrels_cons.1 hvs
            obtain rfl := vrels_nil.1 hys
            exact hy
          | x :: y :: l, hvs =>
            obtain ⟨x', ys, rfl, hx, hys⟩ := vrels_cons.1 hvs
            obtain ⟨y', zs, rfl, hy, hzs⟩ := vrels_cons.1 hys
            exact ⟨_, rfl, hvs⟩
        have hpost : a'.defers = [] ∧ ∃ v, (results fn a'.tmps).run P w' = .ok v w' ∧ ∃ x ρ'', Ending.returned v = .returned x ∧ vrel ρ'' (packA l) x ∧ Chg B ng H.objs.get H.next H'.next ρ w H'.objs.get H'.fams.get ρ'' w' :=
          ⟨hd, _, hr, _, ρ', rfl, hval, hc⟩
        cases e with
        | normal => exact hpost
        | ret => exact hpost
        | exit id => exact absurd rfl (hne id)
      · cases h

end Go.Abs

namespace Go.Abs
open Go

abbrev MP := List (Nat × Nat × Nat)

noncomputable def lookM (m : MP) (c : Nat) : Option (Nat × Nat) :=
  List.rec (motive := fun _ => Option (Nat × Nat)) none (fun p _ ih => Bool.rec (motive := fun _ => Option (Nat × Nat)) ih (some p.2) (Nat.beq p.1 c)) m

def eqLim : Option Nat → Option Nat → Bool
  | none, none => true
  | some a, some b => Nat.beq a b
  | _, _ => false

def eqInt : Int → Int → Bool
  | .ofNat a, .ofNat b => Nat.beq a b
  | .negSucc a, .negSucc b => Nat.beq a b
  | _, _ => false

noncomputable def eqStr : List UInt8 → List UInt8 → Bool
  | [], [] => true
  | a :: as, b :: bs => Nat.beq a.toNat b.toNat && eqStr as bs
  | _, _ => false

def beforeOk (b : Bool) (m : MP) : Option MP := match b with | true => some m | false => none

/-- lists, member by member -/
noncomputable def mList (f : MP → AVal → AVal → Option MP) : List AVal → List AVal → MP → Option MP
  | [], [], m => some m
  | c :: cs, a :: as, m => match f m c a with | some m' => mList f cs as m' | none => none
  | _, _, _ => none

/-- a row of the pattern against a part of a row -/
noncomputable def mRow (f : MP → AVal → AVal → Option MP) (gc ga : Nat → Option Row) (m : MP) (c a off : Nat) : Option MP :=
  match lookM m c with
  | some _ => none
  | none =>
    match gc c, ga a with
    | some rc, some ra =>
      match Nat.beq rc.sz ra.sz, rc.exact, rc.ro, Nat.ble (off + rc.cells.length) ra.cells.length with
      | true, false, true, true => mList f rc.cells ((ra.cells.drop off).take rc.cells.length) ((c, a, off) :: m)
      | _, _, _, _ => none
    | _, _ => none

noncomputable def mV (gc ga : Nat → Option Row) : Nat → MP → AVal → AVal → Option MP
  | 0, _, _, _ => none
  | k + 1, m, c, a =>
    match c, a with
    | .bool x, .bool y => beforeOk (x == y) m
    | .int j x, .int j' y => beforeOk (decide (j = j') && eqInt x y) m
    | .str x, .str y => beforeOk (eqStr x y) m
    | .nilPtr, .nilPtr => some m
    | .nilSlice, .nilSlice => some m
    | .nilFunc, .nilFunc => some m
    | .slice v o n l, .slice v' o' n' l' =>
      match Nat.beq n n', eqLim l l', Nat.beq o 0 with
      | true, true, true => mRow (mV gc ga k) gc ga m v v' o'
      | _, _, _ => none
    | .agg xs, .agg ys => mList (mV gc ga k) xs ys m
    | _, _ => none

/-- the pattern of a call -/
structure Summ where
  f : FuncId
  args : List AVal
  rows : List (Nat × Row)
  next : Nat
  res : AVal

noncomputable def rowsT : List (Nat × Row) → Tr Row
  | [] => .nil
  | p :: ps => (rowsT ps).set p.1 (some p.2)
noncomputable def Summ.H (S : Summ) : AHeap := ⟨rowsT S.rows, .nil, S.next⟩

/-- values without rows -/
def AVal.plain : AVal → Bool
  | .bool _ => true
  | .int .. => true
  | .str _ => true
  | .nilPtr => true
  | .nilSlice => true
  | _ => false
def AVal.plainT : AVal → Bool
  | .tuple vs => vs.all AVal.plain
  | v => v.plain

noncomputable def trySumm (S : Summ) (args : List AVal) (H : AHeap) : Option AVal :=
  match mList (mV S.H.objs.get H.objs.get 100) S.args args [] with
  | some m => match S.rows.all (fun i => (lookM m i.1).isSome) with | true => some S.res | false => none
  | none => none

noncomputable def sumOf (tab : List Summ) : ASum := fun f args H =>
  List.rec (motive := fun _ => Option AVal) none (fun S _ ih => Bool.rec (motive := fun _ => Option AVal) ih
    (Option.rec (motive := fun _ => Option AVal) ih (fun v => some v) (trySumm S args H)) (Nat.beq S.f f)) tab

end Go.Abs

namespace Go.Abs
open Go

theorem lookM_cons (p : Nat × Nat × Nat) (m : MP) (c : Nat) : lookM (p :: m) c = if p.1 = c then some p.2 else lookM m c := by
  show Bool.rec (motive := fun _ => Option (Nat × Nat)) (lookM m c) (some p.2) (Nat.beq p.1 c) = _
  cases e : Nat.beq p.1 c with
  | true => rw [if_pos (beq_true e)]
  | false => rw [if_neg (beq_false e)]

theorem eqLim_eq {a b : Option Nat} (h : eqLim a b = true) : a = b := by
  cases a <;> cases b <;> simp only [eqLim] at h <;> first | rfl | cases h | rw [beq_true h]
theorem eqInt_eq {a b : Int} (h : eqInt a b = true) : a = b := by
  cases a <;> cases b <;> simp only [eqInt] at h <;> first | cases h | rw [beq_true h]
theorem eqStr_eq : ∀ {a b : List UInt8}, eqStr a b = true → a = b
  | [], [], _ => rfl
  | a :: as, b :: bs, h => by
    simp only [eqStr, Bool.and_eq_true] at h
    rw [eqStr_eq h.2, UInt8.toNat_inj.1 (beq_true h.1)]
  | [], _ :: _, h => by simp [eqStr] at h
  | _ :: _, [], h => by simp [eqStr] at h
theorem beforeOk_some {b : Bool} {m m' : MP} (h : beforeOk b m = some m') : b = true ∧ m' = m := by
  cases b with
  | true => cases h; exact ⟨rfl, rfl⟩
  | false => cases h

def SubM (m m' : MP) : Prop := ∀ c p, lookM m c = some p → lookM m' c = some p
theorem SubM.refl (m : MP) : SubM m m := fun _ _ h => h
theorem SubM.trans {a b c : MP} (h : SubM a b) (k : SubM b c) : SubM a c := fun x p e => k x p (h x p e)

/-- where the pattern's rows lie -/
noncomputable def rhoM (ng : Nat) (ρ : Rho) (M : MP) : Rho := fun c => if c < ng then ρ c else
  match lookM M c with
  | some (a, off) => match ρ a with | some l => some ⟨l.blk, l.off + off, l.cap - off, l.sz⟩ | none => none
  | none => none

def RowGood (ng B : Nat) (ρ : Rho) (h : Array Obj) (gc : Nat → Option Row) (M : MP) (c : Nat) : Prop :=
  ∃ rc l C e fz, gc c = some rc ∧ rc.ro = true ∧ rhoM ng ρ M c = some l ∧ h[l.blk]? = some (.cells C e fz) ∧ RowOk B (rhoM ng ρ M) rc l C fz

def MOk (ng B : Nat) (ρ : Rho) (h : Array Obj) (gc : Nat → Option Row) (m m' : MP) (R : Rho → Prop) : Prop :=
  SubM m m' ∧ ∀ M, SubM m' M → R (rhoM ng ρ M) ∧ ∀ c p, lookM m' c = some p → lookM m c = some p ∨ RowGood ng B ρ h gc M c

theorem MOk.same {ng B : Nat} {ρ : Rho} {h : Array Obj} {gc : Nat → Option Row} {m : MP} {R : Rho → Prop} (k : ∀ r, R r) : MOk ng B ρ h gc m m R :=
  ⟨SubM.refl m, fun _ _ => ⟨k _, fun _ _ e => .inl e⟩⟩

section
variable {ng B B' : Nat} {ρ : Rho} {h : Array Obj} {gc ga : Nat → Option Row} {fam : Nat → Option (List Nat)}

theorem mList_ok {f : MP → AVal → AVal → Option MP} (hf : ∀ m c a m', f m c a = some m' → MOk ng B ρ h gc m m' (fun r => ∀ x, vrel ρ a x → vrel r c x)) :
    ∀ (cs as : List AVal) (m m' : MP), mList f cs as m = some m' → MOk ng B ρ h gc m m' (fun r => ∀ xs, vrels ρ as xs → vrels r cs xs)
  | [], [], m, m', e => by cases e; exact MOk.same fun _ _ h => h
  | c :: cs, a :: as, m, m', e => by
    simp only [mList] at e
    split at e
    · rename_i m1 h1
      obtain ⟨s1, k1⟩ := hf _ _ _ _ h1
      obtain ⟨s2, k2⟩ := mList_ok hf cs as m1 m' e
      refine ⟨s1.trans s2, fun M hM => ?_⟩
      obtain ⟨a1, b1⟩ := k1 M (s2.trans hM)
      obtain ⟨a2, b2⟩ := k2 M hM
      refine ⟨fun xs hx => ?_, fun c p hp => ?_⟩
      · obtain ⟨y, ys, rfl, hy, hys⟩ := vrels_cons.1 hx
        exact vrels_cons.2 ⟨y, ys, rfl, a1 y hy, a2 ys hys⟩
      · rcases b2 c p hp with h | h
        · exact b1 c p h
        · exact .inr h
    · cases e
  | [], _ :: _, _, _, e => by simp [mList] at e
  | _ :: _, [], _, _, e => by simp [mList] at e

theorem mRow_ok (s : SimF B' ng ρ ga fam h) (hng : ∀ c r, gc c = some r → ng ≤ c)
    {f : MP → AVal → AVal → Option MP} (hf : ∀ m c a m', f m c a = some m' → MOk ng B ρ h gc m m' (fun r => ∀ x, vrel ρ a x → vrel r c x))
    {m m' : MP} {c a off : Nat} (e : mRow f gc ga m c a off = some m') :
    MOk ng B ρ h gc m m' (fun r => ∃ l, ρ a = some l ∧ r c = some ⟨l.blk, l.off + off, l.cap - off, l.sz⟩) := by
  unfold mRow at e
  split at e
  · cases e
  · rename_i hnone
    split at e
    · rename_i rc ra hc ha
      split at e
      · rename_i hsz hex hro hlen
        have hlen := ble_true hlen
        have hsz := beq_true hsz
        obtain ⟨l, C, t, fz, hl, hb, ok⟩ := s.row a ra ha
        obtain ⟨s1, k1⟩ := mList_ok hf _ _ _ _ e
        have hcng := hng c rc hc
        have hsub : SubM m ((c, a, off) :: m) := fun x p hx => by
          rw [lookM_cons]
          split
          · rename_i e1; simp at e1; subst e1; rw [hnone] at hx; cases hx
          · exact hx
        refine ⟨hsub.trans s1, fun M hM => ?_⟩
        obtain ⟨a1, b1⟩ := k1 M hM
        have hlook : lookM M c = some (a, off) := hM _ _ (s1 _ _ (by rw [lookM_cons]; simp))
        have hρ : rhoM ng ρ M c = some ⟨l.blk, l.off + off, l.cap - off, l.sz⟩ := by
          unfold rhoM
          rw [if_neg (by omega), hlook]
          simp only [hl]
        have hl1 := ok.len
        have hl2 := ok.cap
        refine ⟨⟨l, hl, hρ⟩, fun c' p hp => ?_⟩
        rcases b1 c' p hp with hp | hp
        · rw [lookM_cons] at hp
          split at hp
          · rename_i e1; simp at e1; subst e1
            right
            refine ⟨rc, _, C, t, fz, hc, hro, hρ, hb, ⟨by simp only; omega, by simp only; omega, fun h1 => (by rw [hex] at h1; cases h1), by simp only; rw [ok.sz, hsz], fun h1 => (by rw [hro] at h1; cases h1), fun h1 => (by rw [hro] at h1; cases h1), fun i cc hcc => ?_⟩⟩
            -- the cells
            have hi : i < rc.cells.length := (List.getElem?_eq_some_iff.1 hcc).1
            have hall : ∃ xs, vrels ρ ((ra.cells.drop off).take rc.cells.length) xs ∧ ∀ j x, xs[j]? = some x → C[l.off + off + j]? = some x := by
              have key : ∀ (n : Nat) (cs : List AVal) (o : Nat), cs.length = n → (∀ j (c : AVal), cs[j]? = some c → ∃ x, C[o + j]? = some x ∧ vrel ρ c x) → ∃ xs, vrels ρ cs xs ∧ ∀ j x, xs[j]? = some x → C[o + j]? = some x := by
                intro n
                induction n with
                | zero => intro cs o hcs _; obtain rfl := List.eq_nil_of_length_eq_zero hcs; exact ⟨[], rfl, fun j x hx => by simp at hx⟩
                | succ n ih =>
                  intro cs o hcs hget
                  match cs, hcs with
                  | c0 :: cs, hcs =>
                    obtain ⟨x0, hx0, hr0⟩ := hget 0 c0 (by simp)
                    obtain ⟨xs, hxs, hj⟩ := ih cs (o + 1) (by simpa using hcs) (fun j c hcj => by
                      obtain ⟨x, hx, hr⟩ := hget (j + 1) c (by simpa using hcj)
                      exact ⟨x, by rw [show o + 1 + j = o + (j + 1) by omega]; exact hx, hr⟩)
                    refine ⟨x0 :: xs, vrels_cons.2 ⟨x0, xs, rfl, hr0, hxs⟩, fun j x hx => ?_⟩
                    cases j with
                    | zero => simp at hx; subst hx; simpa using hx0
                    | succ j => simp at hx; rw [show o + (j + 1) = o + 1 + j by omega]; exact hj j x hx
              refine key _ _ (l.off + off) rfl fun j c hcj => ?_
              rw [List.getElem?_take] at hcj
              split at hcj
              · rw [List.getElem?_drop] at hcj
                obtain ⟨x, hx, hr⟩ := ok.cells _ _ hcj
                exact ⟨x, by rw [show l.off + off + j = l.off + (off + j) by omega]; exact hx, hr⟩
              · cases hcj
            obtain ⟨xs, hxs, hj⟩ := hall
            obtain ⟨x, hx, hr⟩ := vrels_get (a1 xs hxs) hcc
            exact ⟨x, hj i x hx, hr⟩
          · exact .inl hp
        · exact .inr hp
      · cases e
    · cases e

theorem mV_ok (s : SimF B' ng ρ ga fam h) (hng : ∀ c r, gc c = some r → ng ≤ c) : ∀ (k : Nat) (m : MP) (c a : AVal) (m' : MP), mV gc ga k m c a = some m' →
    MOk ng B ρ h gc m m' (fun r => ∀ x, vrel ρ a x → vrel r c x)
  | 0, _, _, _, _, e => by cases e
  | k + 1, m, c, a, m', e => by
    unfold mV at e
    split at e
    · obtain ⟨h1, rfl⟩ := beforeOk_some e
      have h1 := eq_of_beq h1
      subst h1
      exact MOk.same fun _ _ h => h
    · obtain ⟨h1, rfl⟩ := beforeOk_some e
      simp only [Bool.and_eq_true, decide_eq_true_eq] at h1
      obtain ⟨h1, h2⟩ := h1
      have h2 := eqInt_eq h2
      subst h1 h2
      exact MOk.same fun _ _ h => h
    · obtain ⟨h1, rfl⟩ := beforeOk_some e
      have h1 := eqStr_eq h1
      subst h1
      exact MOk.same fun _ _ h => h
    · cases e; exact MOk.same fun _ _ h => h
    · cases e; exact MOk.same fun _ _ h => h
    · cases e; exact MOk.same fun _ _ h => h
    · rename_i v o n l v' o' n' l'
      split at e
      · rename_i hn hl ho
        obtain rfl := beq_true hn
        obtain rfl := eqLim_eq hl
        obtain rfl := beq_true ho
        obtain ⟨s1, k1⟩ := mRow_ok (B := B) s hng (mV_ok s hng k) e
        refine ⟨s1, fun M hM => ?_⟩
        obtain ⟨⟨lc, h1, h2⟩, b1⟩ := k1 M hM
        refine ⟨fun x hx => ?_, b1⟩
        cases l with
        | none =>
          obtain ⟨l', hl', rfl⟩ := hx
          rw [h1] at hl'; cases hl'
          exact ⟨_, h2, rfl⟩
        | some cc =>
          obtain ⟨l', hl', rfl⟩ := hx
          rw [h1] at hl'; cases hl'
          exact ⟨_, h2, rfl⟩
      · cases e
    · rename_i xs ys
      obtain ⟨s1, k1⟩ := mList_ok (B := B) (mV_ok s hng k) _ _ _ _ e
      refine ⟨s1, fun M hM => ?_⟩
      obtain ⟨a1, b1⟩ := k1 M hM
      refine ⟨fun x hx => ?_, b1⟩
      obtain ⟨zs, rfl, hz⟩ := hx
      exact ⟨zs, rfl, a1 zs hz⟩
    · cases e
end

theorem rowsT_get : ∀ {rows : List (Nat × Row)} {i : Nat} {r : Row}, (rowsT rows).get i = some r → (i, r) ∈ rows
  | [], _, _, h => by cases h
  | p :: ps, i, r, h => by
    simp only [rowsT] at h
    rw [Tr.get_set] at h
    split at h
    · rename_i e; cases h; subst e; simp
    · exact List.mem_cons_of_mem _ (rowsT_get h)

/-- what a pattern must be -/
def Summ.ok (ng : Nat) (S : Summ) : Bool := S.rows.all (fun p => Nat.ble ng p.1 && Nat.ble (p.1 + 1) S.next && Nat.ble (p.2.fam + 1) S.next) && Nat.ble ng S.next && S.res.plainT

theorem plain_vrel {ρ ρ' : Rho} : ∀ {a : AVal} {x : Value}, a.plain = true → vrel ρ' a x → vrel ρ a x := by
  intro a x hp hv
  cases a <;> simp [AVal.plain] at hp <;> exact hv
theorem plain_vrels {ρ ρ' : Rho} : ∀ {as : List AVal} {xs : List Value}, as.all AVal.plain = true → vrels ρ' as xs → vrels ρ as xs
  | [], _, _, h => h
  | a :: as, _, hp, h => by
    simp only [List.all_cons, Bool.and_eq_true] at hp
    obtain ⟨y, ys, rfl, ky, k⟩ := vrels_cons.1 h
    exact vrels_cons.2 ⟨y, ys, rfl, plain_vrel hp.1 ky, plain_vrels hp.2 k⟩
theorem plainT_vrel {ρ ρ' : Rho} {a : AVal} {x : Value} (hp : a.plainT = true) (h : vrel ρ' a x) : vrel ρ a x := by
  cases a with
  | tuple vs => obtain ⟨xs, rfl, k⟩ := h; exact ⟨xs, rfl, plain_vrels hp k⟩
  | _ => exact plain_vrel hp h

/-- a heap that keeps every block that was there -/
theorem SimF.kept {B ng : Nat} {ρ : Rho} {obj : Nat → Option Row} {fam : Nat → Option (List Nat)} {h h' : Array Obj} (s : SimF B ng ρ obj fam h) (hs : h.size ≤ h'.size) (hk : ∀ b, b < h.size → h'[b]? = h[b]?) : SimF B ng ρ obj fam h' where
  base := Nat.le_trans s.base hs
  glob := s.glob
  row := fun v r hv => by
    obtain ⟨l, D, t, fz', hl, hbl, ok⟩ := s.row v r hv
    exact ⟨l, D, t, fz', hl, by rw [hk _ (lt_of_get hbl)]; exact hbl, ok⟩
  sep := s.sep
  fam := s.fam

/-- one pattern that was run -/
theorem summ_ok {P : Program} {ng : Nat} {call : ACall} (hc : CallOk P ng call) {S : Summ} (hS : S.ok ng = true) {H' : AHeap} (hrun : call S.f S.args S.H = some (S.res, H'))
    {args : List AVal} {H : AHeap} {v : AVal} (ht : trySumm S args H = some v) : ∀ B ρ w xs, Sim B ng ρ H w → vrels ρ args xs →
      Calls P S.f ⟨xs⟩ w (fun e w' => ∃ x, e = .returned x ∧ vrel ρ v x ∧ Chg B ng H.objs.get H.next H.next ρ w H.objs.get H.fams.get ρ w') := by
  intro B ρ w xs s hargs
  simp only [Summ.ok, Bool.and_eq_true, List.all_eq_true] at hS
  obtain ⟨⟨hrows, hngn⟩, hplain⟩ := hS
  have hngn := ble_true hngn
  have hrow : ∀ c r, S.H.objs.get c = some r → ng ≤ c ∧ c < S.next ∧ r.fam < S.next := fun c r hr => by
    obtain ⟨⟨h1, h2⟩, h3⟩ := hrows _ (rowsT_get hr)
    exact ⟨ble_true h1, ble_true h2, ble_true h3⟩
  unfold trySumm at ht
  split at ht
  · rename_i m hm
    split at ht
    · rename_i hall
      cases ht
      obtain ⟨_, k⟩ := mList_ok (B := w.heap.size) (mV_ok s (fun c r hr => (hrow c r hr).1) 100) _ _ _ _ hm
      obtain ⟨a1, b1⟩ := k m (SubM.refl m)
      have good : ∀ c p, lookM m c = some p → RowGood ng w.heap.size ρ w.heap S.H.objs.get m c := fun c p hp => by
        rcases b1 c p hp with h | h
        · cases h
        · exact h
      have ssim : Sim w.heap.size ng (rhoM ng ρ m) S.H w := {
        base := Nat.le_refl _
        glob := fun g hg => by
          obtain ⟨c, z, e⟩ := s.glob g hg
          exact ⟨c, z, by unfold rhoM; rw [if_pos hg]; exact e⟩
        row := fun c r hr => by
          have hmem := rowsT_get hr
          have hsome := List.all_eq_true.1 hall _ hmem
          obtain ⟨p, hp⟩ := Option.isSome_iff_exists.1 hsome
          obtain ⟨rc, l, C, e, fz, h1, _, h2, h3, h4⟩ := good _ _ hp
          rw [show S.H.objs.get c = some r from hr] at h1
          cases h1
          exact ⟨l, C, e, fz, h2, h3, h4⟩
        sep := fun u v ru rv lu lv _ hu hv _ _ _ => by
          left
          have key : ∀ c r, S.H.objs.get c = some r → r.ro = true := fun c r hr => by
            have hmem := rowsT_get hr
            have hsome := List.all_eq_true.1 hall _ hmem
            obtain ⟨p, hp⟩ := Option.isSome_iff_exists.1 hsome
            obtain ⟨rc, l, C, e, fz, h1, h5, h2, h3, h4⟩ := good _ _ hp
            rw [show S.H.objs.get c = some r from hr] at h1
            cases h1
            exact h5
          exact ⟨key u ru hu, key v rv hv⟩
        fam := fun v r mem hv hro _ => by
          have hmem := rowsT_get hv
          have hsome := List.all_eq_true.1 hall _ hmem
          obtain ⟨p, hp⟩ := Option.isSome_iff_exists.1 hsome
          obtain ⟨rc, l, C, e, fz, h1, h5, h2, h3, h4⟩ := good _ _ hp
          rw [show S.H.objs.get v = some r from hv] at h1
          cases h1
          rw [h5] at hro; cases hro }
      have wf : WF S.H := fun c r hr => (hrow c r hr).2
      have hfree : Free (rhoM ng ρ m) S.H.next H'.next := fun c h1 _ => by
        have h1 : S.next ≤ c := h1
        unfold rhoM
        rw [if_neg (by omega)]
        cases hl : lookM m c with
        | none => rfl
        | some p =>
          obtain ⟨rc, _, _, _, _, h1', _⟩ := good _ _ hl
          have := (hrow c rc h1').2.1
          omega
      refine (hc _ _ _ _ _ hrun _ _ _ _ ssim wf hfree (a1 xs hargs)).mono fun e w' ⟨x, ρ', he, hx, hchg⟩ => ?_
      have hbelow := Chg.below ssim hchg
      refine ⟨x, he, plainT_vrel hplain hx, ?_⟩
      exact {
        sim := s.kept hchg.size hbelow
        ext := fun _ _ => rfl
        os := hchg.os
        tape := hchg.tape
        output := hchg.output
        size := hchg.size
        unch := fun b hb _ => hbelow b hb
        frsh := fun v r l a b c => .inr ⟨v, r, l, a, b, c, rfl⟩
        rok := fun _ _ h _ => h }
    · cases ht
  · cases ht

def SummRun (P : Program) (ng : Nat) (S : Summ) : Prop := S.ok ng = true ∧ ∃ call H', CallOk P ng call ∧ call S.f S.args S.H = some (S.res, H')

theorem sumOf_ok {P : Program} {ng : Nat} : ∀ {tab : List Summ}, (∀ S ∈ tab, SummRun P ng S) → SumOk P ng (sumOf tab)
  | [], _ => fun f args H v h => by cases h
  | S :: tab, hall => fun f args H v h B ρ w xs s wf hargs => by
    have ih := sumOf_ok (tab := tab) fun S hS => hall S (List.mem_cons_of_mem _ hS)
    have h : Bool.rec (motive := fun _ => Option AVal) (sumOf tab f args H) (Option.rec (motive := fun _ => Option AVal) (sumOf tab f args H) (fun v => some v) (trySumm S args H)) (Nat.beq S.f f) = some v := h
    cases e : Nat.beq S.f f with
    | false => rw [e] at h; exact ih f args H v h B ρ w xs s wf hargs
    | true =>
      rw [e] at h
      have e := beq_true e
      cases ht : trySumm S args H with
      | none => rw [ht] at h; exact ih f args H v h B ρ w xs s wf hargs
      | some v' =>
        rw [ht] at h
        cases h
        obtain ⟨h1, call, H', h2, h3⟩ := hall S (List.mem_cons_self ..)
        rw [← e]
        exact summ_ok h2 h1 h3 ht B ρ w xs s hargs

end Go.Abs

namespace Go.Abs
open Go

noncomputable def by8 (l : List Nat) : List UInt8 := List.rec (motive := fun _ => List UInt8) [] (fun a _ ih => UInt8.ofNat a :: ih) l
def pr (sz : Nat) (cells : List AVal) : Row := ⟨cells, 0, 0, false, true, sz⟩

noncomputable def eqPl : AVal → AVal → Bool
  | .bool a, .bool b => a == b
  | .int k a, .int j b => decide (k = j) && eqInt a b
  | .str a, .str b => eqStr a b
  | .nilPtr, .nilPtr => true
  | .nilSlice, .nilSlice => true
  | _, _ => false
noncomputable def eqPls : List AVal → List AVal → Bool
  | [], [] => true
  | a :: as, b :: bs => eqPl a b && eqPls as bs
  | _, _ => false
noncomputable def eqPlT : AVal → AVal → Bool
  | .tuple as, .tuple bs => eqPls as bs
  | a, b => eqPl a b

theorem eqPl_eq {a b : AVal} (h : eqPl a b = true) : a = b := by
  unfold eqPl at h
  split at h
  · rw [eq_of_beq h]
  · simp only [Bool.and_eq_true, decide_eq_true_eq] at h; rw [h.1, eqInt_eq h.2]
  · rw [eqStr_eq h]
  · rfl
  · rfl
  · cases h
theorem eqPls_eq : ∀ {as bs : List AVal}, eqPls as bs = true → as = bs
  | [], [], _ => rfl
  | a :: as, b :: bs, h => by
    simp only [eqPls, Bool.and_eq_true] at h
    rw [eqPl_eq h.1, eqPls_eq h.2]
  | [], _ :: _, h => by simp [eqPls] at h
  | _ :: _, [], h => by simp [eqPls] at h
theorem eqPlT_eq {a b : AVal} (h : eqPlT a b = true) : a = b := by
  unfold eqPlT at h
  split at h
  · rw [eqPls_eq h]
  · exact eqPl_eq h

noncomputable def resIs (r : AVal) (x : Option (AVal × AHeap)) : Bool := Option.rec (motive := fun _ => Bool) false (fun p => eqPlT r p.1) x
theorem resIs_some {r : AVal} {x : Option (AVal × AHeap)} (h : resIs r x = true) : ∃ H', x = some (r, H') := by
  cases x with
  | none => cases h
  | some p => exact ⟨p.2, by rw [eqPlT_eq (show eqPlT r p.1 = true from h)]⟩

theorem summRun {P : Program} {ng : Nat} {S : Summ} {sm : ASum} (hsm : SumOk P ng sm) (hst : StaticP P) (m : Nat) (h1 : S.ok ng = true) (h2 : resIs S.res (callF P ng sm m S.f S.args S.H) = true) : SummRun P ng S := by
  obtain ⟨H', h⟩ := resIs_some h2
  exact ⟨h1, _, H', callF_ok hsm hst m, h⟩

theorem sumOk_nil (P : Program) (ng : Nat) : SumOk P ng (sumOf []) := sumOf_ok fun _ h => by cases h
end Go.Abs

namespace Go.Abs
open Go

noncomputable def bodyOk (fn : Func) : Bool := Option.rec (motive := fun _ => Bool) true (fun c => staticC c) fn.body
noncomputable def partOk (l : List Func) : Bool := List.rec (motive := fun _ => Bool) true (fun fn _ ih => Bool.rec (motive := fun _ => Bool) false ih (bodyOk fn)) l
theorem partOk_mem : ∀ {l : List Func}, partOk l = true → ∀ fn ∈ l, bodyOk fn = true
  | [], _, _, h => by cases h
  | a :: l, h, fn, hm => by
    have h : Bool.rec (motive := fun _ => Bool) false (partOk l) (bodyOk a) = true := h
    cases e : bodyOk a with
    | false => rw [e] at h; cases h
    | true =>
      rw [e] at h
      rcases List.mem_cons.1 hm with rfl | hm
      · exact e
      · exact partOk_mem h fn hm

theorem static_of {P : Program} (h : ∀ fn ∈ P.funcs.toList, bodyOk fn = true) : StaticP P := fun f fn c hf hb => by
  have hm : fn ∈ P.funcs.toList := by
    rw [← Array.getElem?_toList] at hf
    exact List.mem_of_getElem? hf
  have := h fn hm
  unfold bodyOk at this
  rw [hb] at this
  exact this

/-- the parts of a list -/
theorem mem_parts {l : List Func} (k : Nat) {Q : Func → Prop} (h1 : ∀ fn ∈ l.take k, Q fn) (h2 : ∀ fn ∈ l.drop k, Q fn) : ∀ fn ∈ l, Q fn := fun fn hm => by
  rw [← List.take_append_drop k l] at hm
  rcases List.mem_append.1 hm with h | h
  · exact h1 fn h
  · exact h2 fn h
end Go.Abs
