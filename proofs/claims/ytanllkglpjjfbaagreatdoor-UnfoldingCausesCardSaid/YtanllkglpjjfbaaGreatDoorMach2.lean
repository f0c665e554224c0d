/- The abstract machine, part 2: each operation is sound. -/
import Derived.Test.YtanllkglpjjfbaaGreatDoorMach1
set_option linter.unusedVariables false
set_option linter.unusedSimpArgs false
namespace Go.Abs
open Go
variable {P : Program} {B ng n : Nat} {ρ : Rho}

def Glob (ng : Nat) (ρ : Rho) : Prop := ∀ g, g < ng → ∃ c s, ρ g = some ⟨g, 0, c, s⟩

theorem opd_sound {T : Tr AVal} {a : Act} (hT : TRel ρ n T a.tmps) (hg : Glob ng ρ) {x : Operand} {v : AVal} (h : opd ng T x = some v) : vrel ρ v (a.eval x) := by
  cases x with
  | tmp t => cases h; exact hT.get t
  | const c => exact ofValue_vrel h
  | global g =>
    have h : Bool.rec (motive := fun _ => Option AVal) none (some (.ptr g 0)) (Nat.ble (g + 1) ng) = some v := h
    cases e : Nat.ble (g + 1) ng with
    | false => rw [e] at h; cases h
    | true =>
      rw [e] at h; cases h
      obtain ⟨c, s, hc⟩ := hg g (ble_true e)
      exact ⟨_, hc, rfl⟩
  | func f => cases h; exact ⟨[], [], rfl, rfl, rfl⟩

theorem opds_cons {T : Tr AVal} {x : Operand} {xs : List Operand} : opds ng T (x :: xs) = consO (opd ng T x) (opds ng T xs) := rfl
theorem opds_sound {T : Tr AVal} {a : Act} (hT : TRel ρ n T a.tmps) (hg : Glob ng ρ) : ∀ {xs : List Operand} {vs : List AVal}, opds ng T xs = some vs → vrels ρ vs (xs.map a.eval)
  | [], vs, h => by cases h; rfl
  | x :: xs, vs, h => by
    rw [opds_cons] at h
    unfold consO at h
    split at h
    · rename_i v l hv hl
      cases h
      exact vrels_cons.2 ⟨_, _, rfl, opd_sound hT hg hv, opds_sound hT hg hl⟩
    · cases h

theorem partsOf_sound {T : Tr AVal} {a : Act} (hT : TRel ρ n T a.tmps) (hg : Glob ng ρ) : ∀ {xs : List (Nat × Operand)} {vs : List (Nat × AVal)}, partsOf ng T xs = some vs →
    vs.map (·.1) = xs.map (·.1) ∧ vrels ρ (vs.map (·.2)) (xs.map fun p => a.eval p.2)
  | [], vs, h => by simp only [partsOf, Option.some.injEq] at h; subst h; exact ⟨rfl, rfl⟩
  | (i, x) :: xs, vs, h => by
    simp only [partsOf] at h
    split at h
    · rename_i v l hv hl
      cases h
      obtain ⟨h1, h2⟩ := partsOf_sound hT hg hl
      exact ⟨by simp [h1], vrels_cons.2 ⟨_, _, rfl, opd_sound hT hg hv, h2⟩⟩
    · cases h

theorem zeroOf_sound {t : TypeId} {z : AVal} (h : zeroOf P t = some z) : ∃ i v, P.info? t = some i ∧ i.zero = some v ∧ ∀ ρ, vrel ρ z v := by
  unfold zeroOf at h
  split at h
  · rename_i i hi
    split at h
    · rename_i v hv; exact ⟨i, v, hi, hv, fun ρ => ofValue_vrel h⟩
    · cases h
  · cases h

/-- the fold of 'fill' puts the cells in -/
theorem fold_put (cells : Array Value) (off : Nat) : ∀ (vs : List Value) (k : Nat) (cs : Array Value), off + k + vs.length ≤ cs.size →
    (vs.zipIdx k).foldl (fun (cs : Array Value) (p : Value × Nat) => cs.setIfInBounds (off + p.2) p.1) cs = (cs.toList.take (off + k) ++ vs ++ cs.toList.drop (off + k + vs.length)).toArray
  | [], k, cs, _ => by simp
  | v :: vs, k, cs, h => by
    simp only [List.zipIdx_cons, List.foldl_cons]
    simp only [List.length_cons] at h
    rw [fold_put cells off vs (k + 1) _ (by simp; omega)]
    apply Array.ext'
    simp only [Array.toList_setIfInBounds]
    apply List.ext_getElem?
    intro j
    have h1 : off + (k + 1) + vs.length ≤ (cs.toList.set (off + k) v).length := by simp; omega
    rw [get_put _ _ _ _ h1, List.length_cons]
    have h2 : off + k + (v :: vs).length ≤ cs.toList.length := by simp; omega
    have := get_put cs.toList (v :: vs) (off + k) j h2
    rw [List.length_cons] at this
    rw [this, List.getElem?_set]
    by_cases e1 : off + k = j
    · subst e1
      rw [if_neg (by omega), if_pos rfl, if_pos (by simp; omega), if_pos (by omega)]
      simp
    · by_cases e2 : off + (k + 1) ≤ j ∧ j < off + (k + 1) + vs.length
      · rw [if_pos e2, if_pos (by omega)]
        rw [show j - (off + k) = (j - (off + (k + 1))) + 1 by omega]
        simp
      · rw [if_neg e2, if_neg e1, if_neg (by omega)]

theorem fill_sound {place : Nat → Option (Nat × Nat)} {place' : Nat → Option (Nat × Nat)} (hp : ∀ i p, place i = some p → place' i = some p) :
    ∀ {l : List (Nat × AVal)} {l' : List (Nat × Value)} {cells cs : List AVal} {C : Array Value}, l.map (·.1) = l'.map (·.1) → vrels ρ (l.map (·.2)) (l'.map (·.2)) → vrels ρ cells C.toList →
      fill place cells l = some cs → ∃ C', Instr.fill place' C l' = some C' ∧ vrels ρ cs C'.toList ∧ C'.size = C.size
  | [], l', cells, cs, C, h1, _, hc, h => by
    simp only [fill, Option.some.injEq] at h; subst h
    cases l' with
    | nil => exact ⟨C, rfl, hc, rfl⟩
    | cons _ _ => simp at h1
  | (i, v) :: l, l', cells, cs, C, h1, h2, hc, h => by
    cases l' with
    | nil => simp at h1
    | cons p l' =>
      obtain ⟨j, x⟩ := p
      simp only [List.map_cons, List.cons.injEq] at h1
      obtain ⟨rfl, h1⟩ := h1
      simp only [List.map_cons] at h2
      obtain ⟨y, ys, he, hv, hr⟩ := vrels_cons.1 h2
      simp only [List.cons.injEq] at he
      obtain ⟨rfl, rfl⟩ := he
      simp only [fill] at h
      split at h
      · cases h
      · rename_i off size hpl
        split at h
        · rename_i hs hfit
          have hs := beq_true hs
          have hfit := ble_true hfit
          have hvc := vrel_cells hv
          have hvl := vrels_length hvc
          have hcl := vrels_length hc
          simp only [Instr.fill, hp i _ hpl]
          have hfit' : off + x.cells.size ≤ C.size := by simp at hvl hcl; omega
          rw [if_neg (by simp at hvl ⊢; omega)]
          have hf : x.cells.zipIdx.foldl (fun cs (p : Value × Nat) => cs.setIfInBounds (off + p.2) p.1) C = (C.toList.take off ++ x.cells.toList ++ C.toList.drop (off + x.cells.toList.length)).toArray := by
            rw [← Array.foldl_toList, Array.toList_zipIdx]
            have := fold_put C off x.cells.toList 0 C (by simpa using hfit')
            simpa using this
          obtain ⟨C', hC', hrel, hsz⟩ := fill_sound hp (l' := l') (C := (C.toList.take off ++ x.cells.toList ++ C.toList.drop (off + x.cells.toList.length)).toArray) h1 hr (by
            show vrels ρ (listPut cells off v.cells) _
            unfold listPut
            rw [← hvl]
            exact vrels_append (vrels_append (vrels_take _ hc) hvc) (vrels_drop _ hc)) h
          refine ⟨C', ?_, hrel, by rw [hsz]; simp at hvl ⊢; omega⟩
          rw [← hC', ← hf]
        · cases h

end Go.Abs

namespace Go.Abs
open Go
variable {P : Program} {B ng n : Nat} {ρ : Rho}

theorem pureSem_run {s : Sem Value} {v : AVal} (h : pureSem s = some v) : ∃ x, (∀ ρ, vrel ρ v x) ∧ ∀ (P : Program) w, s.run P w = .ok x w := by
  cases s with
  | pure x => exact ⟨x, fun ρ => ofCell_vrel h, fun P w => rfl⟩
  | _ => cases h

theorem eqGuard_scalar (op : BinOp) (t : TypeId) (x y : Operand) (a b : Value) (h : ∀ (c d : Array Value), ¬ (a = .agg c ∧ b = .agg d)) (h2 : ¬ (a = .nilIface ∧ b = .nilIface)) (w : World) :
    (eqGuard op t x y a b).run P w = .ok () w := by
  unfold eqGuard
  cases op
  all_goals (first
    | (simp; done)
    | (cases a <;> cases b <;> first | (simp; done) | (exact absurd ⟨rfl, rfl⟩ h2) | (exact absurd ⟨rfl, rfl⟩ (h _ _))))

/-- cells that are numbers and truths, compared field by field -/
theorem eqFields_run (d : Nat) : ∀ (fs : List Field) (k : Nat) (xs ys : List AVal) (xs' ys' : Array Value) (b : Bool), plainFields P k fs = true →
    vrels ρ xs (xs'.toList.drop k) → vrels ρ ys (ys'.toList.drop k) → eqCells P fs xs ys = some b → ∀ w, (Op.eqFields (d + 1) xs' ys' fs).run P w = .ok b w
  | [], k, xs, ys, xs', ys', b, _, _, _, h, w => by
    cases xs with
    | cons _ _ => simp [eqCells] at h
    | nil =>
      cases ys with
      | cons _ _ => simp [eqCells] at h
      | nil =>
        simp only [eqCells, Option.some.injEq] at h; subst h
        simp [Op.eqFields]
  | f :: fs, k, [], ys, xs', ys', b, _, _, _, h, _ => by simp [eqCells] at h
  | f :: fs, k, x :: xs, [], xs', ys', b, _, _, _, h, _ => by simp [eqCells] at h
  | f :: fs, k, x :: xs, y :: ys, xs', ys', b, hp, rx, ry, h, w => by
    simp only [plainFields, Bool.and_eq_true] at hp
    obtain ⟨⟨⟨h1, h2⟩, h3⟩, h4⟩ := hp
    have h2 := beq_true h2
    obtain ⟨p, ps, hpe, hp, rp⟩ := vrels_cons.1 rx
    obtain ⟨q, qs, hqe, hq, rq⟩ := vrels_cons.1 ry
    have gx : xs'[k]? = some p := by
      have : (xs'.toList.drop k)[0]? = some p := by rw [hpe]; rfl
      rw [List.getElem?_drop] at this; simpa using this
    have gy : ys'[k]? = some q := by
      have : (ys'.toList.drop k)[0]? = some q := by rw [hqe]; rfl
      rw [List.getElem?_drop] at this; simpa using this
    have dx : vrels ρ xs (xs'.toList.drop (k + 1)) := by
      have : xs'.toList.drop (k + 1) = ps := by rw [← List.drop_drop, hpe]; rfl
      rw [this]; exact rp
    have dy : vrels ρ ys (ys'.toList.drop (k + 1)) := by
      have : ys'.toList.drop (k + 1) = qs := by rw [← List.drop_drop, hqe]; rfl
      rw [this]; exact rq
    have h3' : f.name ≠ "_" := by simpa using h3
    have ih := fun b' hb' => eqFields_run d fs (k + 1) xs ys xs' ys' b' h4 dx dy hb' w
    have hpart : ∀ (c : Array Value) (r : Value), c[k]? = some r → (part f.type c f.offset).run P w = .ok r w := by
      intro c r hc
      rw [h2]
      cases hu : P.underlying f.type with
      | none => rw [hu] at h1; cases h1
      | some dd =>
        rw [hu] at h1
        cases dd <;> first | (cases h1; done) | simp [part, isAgg, run_underlying hu, hc]
    simp only [Op.eqFields, h3', ne_eq, not_false_eq_true, if_true, Sem.run_bind, hpart _ _ gx, hpart _ _ gy, Result.andThen_ok]
    cases x with
    | int k1 a1 =>
      cases y with
      | int k2 a2 =>
        cases hp; cases hq
        simp only [eqCells] at h
        split at h
        · rename_i kk hu hk
          have hk : k1 = k2 := of_decide_eq_true hk
          subst hk
          split at h
          · rename_i he
            have he : a1 = a2 := of_decide_eq_true he
            subst he
            simp [Op.equalIn, run_underlying hu, ih b h]
          · rename_i he
            have he : a1 ≠ a2 := of_decide_eq_false he
            cases h
            simp [Op.equalIn, run_underlying hu, he]
        · cases h
      | _ => simp [eqCells] at h
    | bool b1 =>
      cases y with
      | bool b2 =>
        cases hp; cases hq
        simp only [eqCells] at h
        split at h
        · rename_i hu
          split at h
          · rename_i he
            have he : b1 = b2 := by simpa using he
            subst he
            simp [Op.equalIn, run_underlying hu, ih b h]
          · rename_i he
            have he : b1 ≠ b2 := by simpa using he
            cases h
            simp [Op.equalIn, run_underlying hu, he]
        · cases h
      | _ => simp [eqCells] at h
    | _ => simp [eqCells] at h

set_option maxHeartbeats 4000000 in
theorem aEqIn_run (d : Nat) {t : TypeId} {a b : AVal} {p q : Value} {r : Bool} (ha : vrel ρ a p) (hb : vrel ρ b q) (h : aEq P t a b = some r) : ∀ w, (Op.equalIn (d + 1 + 1) t p q).run P w = .ok r w := by
  intro w
  unfold aEq at h
  split at h
  · rename_i b1 b2 ht; cases h; cases ha; cases hb
    simp [Op.equalIn, run_underlying ht]
  · rename_i e ht; cases h; cases ha; cases hb; simp [Op.equalIn, run_underlying ht]
  · rename_i e v off len lim ht; cases h; cases ha
    cases lim <;> (obtain ⟨l, hl, rfl⟩ := hb; simp [Op.equalIn, run_underlying ht])
  · rename_i e v off len lim ht; cases h; cases hb
    cases lim <;> (obtain ⟨l, hl, rfl⟩ := ha; simp [Op.equalIn, run_underlying ht])
  · rename_i e ht; cases h; cases ha; obtain ⟨x, c, rfl⟩ := hb; simp [Op.equalIn, run_underlying ht]
  · rename_i e ht; cases h; cases hb; obtain ⟨x, c, rfl⟩ := ha; simp [Op.equalIn, run_underlying ht]
  · rename_i e ht; cases h; cases ha; cases hb; simp [Op.equalIn, run_underlying ht]
  · rename_i e v off ht; cases h; cases ha; obtain ⟨l, hl, rfl⟩ := hb; simp [Op.equalIn, run_underlying ht]
  · rename_i e v off ht; cases h; cases hb; obtain ⟨l, hl, rfl⟩ := ha; simp [Op.equalIn, run_underlying ht]
  · rename_i e1 e2 e3 ht; cases h; cases ha; cases hb; simp [Op.equalIn, run_underlying ht]
  · rename_i e1 e2 e3 f c d ht; cases h; cases ha; obtain ⟨xs, ys, rfl, _, _⟩ := hb; simp [Op.equalIn, run_underlying ht]
  · rename_i e1 e2 e3 f c d ht; cases h; cases hb; obtain ⟨xs, ys, rfl, _, _⟩ := ha; simp [Op.equalIn, run_underlying ht]
  · rename_i fs xs ys ht
    split at h
    · rename_i h1 h2 h3 h4 h5
      obtain ⟨xs', rfl, rx⟩ := ha
      obtain ⟨ys', rfl, ry⟩ := hb
      have hfs : P.fieldsOf t = fs := by simp [Program.fieldsOf, ht]
      rw [run_equalIn_struct w (d + 1) t ⟨xs'⟩ ⟨ys'⟩ (by rw [hfs]; exact ht) h1, hfs]
      exact eqFields_run d fs.toList 0 xs ys ⟨xs'⟩ ⟨ys'⟩ r h3 (by simpa using rx) (by simpa using ry) h w
    · cases h
  · cases h

theorem aEq_run {t : TypeId} {a b : AVal} {p q : Value} {r : Bool} (ha : vrel ρ a p) (hb : vrel ρ b q) (h : aEq P t a b = some r) : ∀ w, (Op.equal t p q).run P w = .ok r w :=
  aEqIn_run 9998 ha hb h

theorem binOp_eql {t : TypeId} {p q : Value} (hi : ∀ k n k' m, ¬ (p = .int k n ∧ q = .int k' m)) (hs : ∀ a b, ¬ (p = .string a ∧ q = .string b)) (hf : ∀ k n k' m, ¬ (p = .float k n ∧ q = .float k' m)) (hc : ∀ k a b k' c d, ¬ (p = .complex k a b ∧ q = .complex k' c d)) :
    Go.binOp .eql t p q = (do pure (.bool (← Op.equal t p q)) : Sem Value) ∧ Go.binOp .neq t p q = (do pure (.bool (!(← Op.equal t p q))) : Sem Value) := by
  cases p <;> cases q <;> first | exact ⟨rfl, rfl⟩ | exact absurd ⟨rfl, rfl⟩ (hi _ _ _ _) | exact absurd ⟨rfl, rfl⟩ (hs _ _) | exact absurd ⟨rfl, rfl⟩ (hf _ _ _ _) | exact absurd ⟨rfl, rfl⟩ (hc _ _ _ _ _ _)

/-- the guard of '==' lets by what the abstract machine compares -/
theorem aEq_guard {op : BinOp} {t : TypeId} {x y : Operand} {a b : AVal} {p q : Value} {r : Bool} (ha : vrel ρ a p) (hb : vrel ρ b q) (h : aEq P t a b = some r) : ∀ w, (eqGuard op t x y p q).run P w = .ok () w := by
  intro w
  unfold aEq at h
  split at h
  · cases ha; exact eqGuard_scalar op t x y _ _ (fun _ _ k => by cases k.1) (fun k => by cases k.1) w
  · cases ha; exact eqGuard_scalar op t x y _ _ (fun _ _ k => by cases k.1) (fun k => by cases k.1) w
  · cases ha; exact eqGuard_scalar op t x y _ _ (fun _ _ k => by cases k.1) (fun k => by cases k.1) w
  · cases hb; exact eqGuard_scalar op t x y _ _ (fun _ _ k => by cases k.2) (fun k => by cases k.2) w
  · cases ha; exact eqGuard_scalar op t x y _ _ (fun _ _ k => by cases k.1) (fun k => by cases k.1) w
  · cases hb; exact eqGuard_scalar op t x y _ _ (fun _ _ k => by cases k.2) (fun k => by cases k.2) w
  · cases ha; exact eqGuard_scalar op t x y _ _ (fun _ _ k => by cases k.1) (fun k => by cases k.1) w
  · cases ha; exact eqGuard_scalar op t x y _ _ (fun _ _ k => by cases k.1) (fun k => by cases k.1) w
  · cases hb; exact eqGuard_scalar op t x y _ _ (fun _ _ k => by cases k.2) (fun k => by cases k.2) w
  · cases ha; exact eqGuard_scalar op t x y _ _ (fun _ _ k => by cases k.1) (fun k => by cases k.1) w
  · cases ha; exact eqGuard_scalar op t x y _ _ (fun _ _ k => by cases k.1) (fun k => by cases k.1) w
  · cases hb; exact eqGuard_scalar op t x y _ _ (fun _ _ k => by cases k.2) (fun k => by cases k.2) w
  · split at h
    · rename_i h1 h2 h3 h4 h5
      obtain ⟨xs', rfl, rx⟩ := ha
      obtain ⟨ys', rfl, ry⟩ := hb
      unfold eqGuard
      cases op <;> simp [h2]
    · cases h
  · cases h

/-- what is no number and no string -/
def plainEq : AVal → Bool
  | .int .. => false
  | .str _ => false
  | _ => true

theorem vrel_plainEq {a : AVal} {p : Value} (ha : vrel ρ a p) (h : plainEq a = true) : (∀ k n, p ≠ .int k n) ∧ (∀ s, p ≠ .string s) ∧ (∀ k n, p ≠ .float k n) ∧ (∀ k c d, p ≠ .complex k c d) := by
  cases a with
  | int k n => cases h
  | str s => cases h
  | slice v off len lim => cases lim <;> (obtain ⟨l, hl, rfl⟩ := ha; simp)
  | ptr v off => obtain ⟨l, hl, rfl⟩ := ha; simp
  | emptySl => obtain ⟨x, c, rfl⟩ := ha; simp
  | func f c d => obtain ⟨xs, ys, rfl, _, _⟩ := ha; simp
  | agg cs => obtain ⟨xs, rfl, _⟩ := ha; simp
  | tuple cs => obtain ⟨xs, rfl, _⟩ := ha; simp
  | bool b => cases ha; simp
  | nilPtr => cases ha; simp
  | nilSlice => cases ha; simp
  | nilFunc => cases ha; simp

theorem aEq_plain {t : TypeId} {a b : AVal} {r : Bool} (h : aEq P t a b = some r) : plainEq a = true := by
  unfold aEq at h
  split at h <;> first | rfl | cases h

theorem aBin_run {op : BinOp} {t : TypeId} {x y : Operand} {a b v : AVal} {p q : Value} (ha : vrel ρ a p) (hb : vrel ρ b q) (h : aBin P op t a b = some v) :
    ∃ r, vrel ρ v r ∧ ∀ w, (do eqGuard op t x y p q; Go.binOp op t p q : Sem Value).run P w = .ok r w := by
  unfold aBin at h
  split at h
  · cases ha; cases hb
    obtain ⟨r, hr, hrun⟩ := pureSem_run h
    refine ⟨r, hr ρ, fun w => ?_⟩
    rw [Sem.run_bind, eqGuard_scalar op t x y _ _ (fun _ _ k => by cases k.1) (fun k => by cases k.1) w]
    exact hrun P w
  · cases ha; cases hb
    obtain ⟨r, hr, hrun⟩ := pureSem_run h
    refine ⟨r, hr ρ, fun w => ?_⟩
    rw [Sem.run_bind, eqGuard_scalar op t x y _ _ (fun _ _ k => by cases k.1) (fun k => by cases k.1) w]
    exact hrun P w
  · have key : ∀ r, aEq P t a b = some r → Go.binOp .eql t p q = (do pure (.bool (← Op.equal t p q)) : Sem Value) ∧ Go.binOp .neq t p q = (do pure (.bool (!(← Op.equal t p q))) : Sem Value) := by
      intro r hr
      obtain ⟨h1, h2, h3, h4⟩ := vrel_plainEq ha (aEq_plain hr)
      exact binOp_eql (fun _ _ _ _ k => h1 _ _ k.1) (fun _ _ k => h2 _ k.1) (fun _ _ _ _ k => h3 _ _ k.1) (fun _ _ _ _ _ _ k => h4 _ _ _ k.1)
    split at h
    · split at h
      · rename_i r hr
        cases h
        refine ⟨.bool r, rfl, fun w => ?_⟩
        rw [Sem.run_bind, aEq_guard ha hb hr w, Result.andThen_ok, (key r hr).1, Sem.run_bind, aEq_run ha hb hr w]
        rfl
      · cases h
    · split at h
      · rename_i r hr
        cases h
        refine ⟨.bool (!r), rfl, fun w => ?_⟩
        rw [Sem.run_bind, aEq_guard ha hb hr w, Result.andThen_ok, (key r hr).2, Sem.run_bind, aEq_run ha hb hr w]
        rfl
      · cases h
    · cases h

theorem nilCheck_run {a v : AVal} {p : Value} (ha : vrel ρ a p) (h : pNil (some a) = some v) : v = a ∧ ∀ (σ : Operand → Value) (o : Oper) (x : Operand), o.op = .nilCheck x → σ x = p → ∀ w, (execOp σ o).run P w = .ok (.value p) w := by
  cases a with
  | ptr u off =>
    cases h
    obtain ⟨l, hl, rfl⟩ := ha
    refine ⟨rfl, fun σ o x ho hx w => ?_⟩
    simp [execOp, ho, hx]
  | func f c d =>
    cases h
    obtain ⟨xs, ys, rfl, _, _⟩ := ha
    refine ⟨rfl, fun σ o x ho hx w => ?_⟩
    simp [execOp, ho, hx]
  | _ => cases h

theorem fieldAt_run {s : TypeId} {a v : AVal} {p : Value} {f : Nat} (ha : vrel ρ a p) (h : aFieldAddr P s a f = some v) : ∃ r, vrel ρ v r ∧ ∀ w, (Instr.fieldAt s p f).run P w = .ok r w := by
  unfold aFieldAddr at h
  split at h
  · rename_i fs u off hs
    obtain ⟨l, hl, rfl⟩ := ha
    split at h
    · rename_i fd hfd
      split at h
      · rename_i i hi
        split at h
        · rename_i hsz
          cases h
          have hsz := beq_false hsz
          refine ⟨.pointer (some ⟨l.blk, l.off + (off + fd.offset), none⟩), ⟨l, hl, rfl⟩, fun w => ?_⟩
          have hfd' : fs[f]? = some fd := by simpa using hfd
          simp [Instr.fieldAt, run_underlying hs, hfd', Instr.sureAddr, fieldPlace, sizeOf, typeInfo, hi, hsz, addr_add, Nat.add_assoc]
        · cases h
      · cases h
    · cases h
  · cases h

theorem indexAt_run {t : TypeId} {a ix v : AVal} {p q : Value} (ha : vrel ρ a p) (hi : vrel ρ ix q) (h : aIndexAddr P t a ix = some v) : ∃ r, vrel ρ v r ∧ ∀ w, (Instr.indexAt t p q).run P w = .ok r w := by
  unfold aIndexAddr at h
  split at h
  · rename_i len e u off k i ht
    obtain ⟨l, hl, rfl⟩ := ha
    cases hi
    split at h
    · rename_i j hlt hj
      cases h
      have hlt := ble_true hlt
      refine ⟨.pointer (some ⟨l.blk, l.off + (off + i * j.size), none⟩), ⟨l, hl, rfl⟩, fun w => ?_⟩
      have h1 : (0 : Int) ≤ (Int.ofNat i) ∧ (Int.ofNat i) < (len : Int) := by constructor <;> simp <;> omega
      simp [Instr.indexAt, asIntOf, run_underlying ht, Instr.sureAddr, sizeOf, typeInfo, hj, addr_add, Nat.add_assoc] 
      intro h2; exfalso; omega
    · cases h
  · rename_i e u off len lim k i ht
    cases hi
    split at h
    · rename_i j hlt hj
      cases h
      have hlt := ble_true hlt
      cases lim with
      | none =>
        obtain ⟨l, hl, rfl⟩ := ha
        refine ⟨.pointer (some ⟨l.blk, l.off + (off + i * j.size), none⟩), ⟨l, hl, rfl⟩, fun w => ?_⟩
        simp [Instr.indexAt, asIntOf, run_underlying ht, sizeOf, typeInfo, hj, addr_add, Nat.add_assoc]
        intro h2; exfalso; omega
      | some c =>
        obtain ⟨l, hl, rfl⟩ := ha
        refine ⟨.pointer (some ⟨l.blk, l.off + (off + i * j.size), none⟩), ⟨l, hl, rfl⟩, fun w => ?_⟩
        simp [Instr.indexAt, asIntOf, run_underlying ht, sizeOf, typeInfo, hj, addr_add, Nat.add_assoc]
        intro h2; exfalso; omega
    · cases h
  · cases h

theorem index_run {t : TypeId} {a ix v : AVal} {p q : Value} (ha : vrel ρ a p) (hi : vrel ρ ix q) (h : aIndex P t a ix = some v) : ∃ r, vrel ρ v r ∧ ∀ w, (Instr.index t p q).run P w = .ok r w := by
  unfold aIndex at h
  split at h
  · rename_i s k i ht
    cases ha; cases hi
    split at h
    · rename_i b hb
      cases h
      refine ⟨.int .u8 b.toNat, rfl, fun w => ?_⟩
      have hb' : (⟨⟨s⟩⟩ : ByteArray)[i]? = some b := by
        have hlt : i < s.length := (List.getElem?_eq_some_iff.1 hb).1
        rw [getElem?_pos (⟨⟨s⟩⟩ : ByteArray) i hlt, ← hb, List.getElem?_eq_getElem hlt]; rfl
      simp [Instr.index, asIntOf, run_underlying ht, hb']
    · cases h
  · cases h

theorem len_run {t : TypeId} {a v : AVal} {p : Value} {ty : TypeId} {ts : Array TypeId} (hts : ts[0]? = some t) (ha : vrel ρ a p) (h : aLen P t a = some v) : ∃ r, vrel ρ v r ∧ ∀ w, (Builtin.len_ ts ty #[p]).run P w = .ok r w := by
  unfold aLen at h
  split at h
  · rename_i s ht; cases h; cases ha
    refine ⟨.int .i64 s.length, rfl, fun w => ?_⟩
    simp [Builtin.len_, hts, run_underlying ht, goInt]; rfl
  · rename_i e ht; cases h; cases ha
    exact ⟨.int .i64 0, rfl, fun w => by simp [Builtin.len_, hts, run_underlying ht, goInt]⟩
  · rename_i e ht; cases h; obtain ⟨x, c, rfl⟩ := ha
    exact ⟨.int .i64 0, rfl, fun w => by simp [Builtin.len_, hts, run_underlying ht, goInt]⟩
  · rename_i e u off m lim ht; cases h
    cases lim with
    | none => obtain ⟨l, hl, rfl⟩ := ha; exact ⟨.int .i64 m, rfl, fun w => by simp [Builtin.len_, hts, run_underlying ht, goInt]⟩
    | some c => obtain ⟨l, hl, rfl⟩ := ha; exact ⟨.int .i64 m, rfl, fun w => by simp [Builtin.len_, hts, run_underlying ht, goInt]⟩
  · rename_i y m e ht; cases h
    exact ⟨.int .i64 m, rfl, fun w => by simp [Builtin.len_, hts, run_underlying ht, goInt]⟩
  · cases h

end Go.Abs

namespace Go.Abs
open Go
variable {P : Program} {B ng n : Nat} {ρ : Rho}

theorem pPick_sound {c a b : Option AVal} {v : AVal} (h : pPick c a b = some v) : (∃ y, c = some (.bool true) ∧ a = some v ∧ b = some y) ∨ (∃ y, c = some (.bool false) ∧ a = some y ∧ b = some v) := by
  unfold pPick at h
  split at h
  · cases h; exact .inl ⟨_, rfl, rfl, rfl⟩
  · cases h; exact .inr ⟨_, rfl, rfl, rfl⟩
  · cases h

theorem placeOf_sound {fs : Array Field} {i : Nat} {p : Nat × Nat} (h : placeOf P fs i = some p) : ∃ f j, fs[i]? = some f ∧ P.info? f.type = some j ∧ p = (f.offset, j.size) := by
  unfold placeOf at h
  split at h
  · rename_i f hf
    split at h
    · rename_i j hj; cases h; exact ⟨f, j, by simpa using hf, hj, rfl⟩
    · cases h
  · cases h

def placesOf (P : Program) (fs : List Field) : List (Nat × Nat) := fs.map fun f => (f.offset, P.cellsOf f.type)

/-- the places of a struct's fields, as the model reads them -/
theorem mapM_places (w : World) : ∀ (fs : List Field), fs.all (fun f => (P.info? f.type).isSome) = true →
    (fs.mapM fun f => (do pure (f.offset, ← sizeOf f.type) : Sem (Nat × Nat))).run P w = .ok (placesOf P fs) w
  | [], _ => by simp [placesOf]
  | f :: fs, h => by
    simp only [List.all_cons, Bool.and_eq_true] at h
    have h1 := mapM_places w fs h.2
    obtain ⟨j, hj⟩ := Option.isSome_iff_exists.1 h.1
    simp only [List.mapM_cons, Sem.run_bind, sizeOf, typeInfo, run_program, Result.andThen_ok, hj, Sem.run_pure] at h1 ⊢
    rw [h1]
    simp [placesOf, Program.cellsOf, hj]

theorem build_run {t : TypeId} {l : List (Nat × AVal)} {l' : List (Nat × Value)} (h1 : l.map (·.1) = l'.map (·.1)) (h2 : vrels ρ (l.map (·.2)) (l'.map (·.2))) {v : AVal} (h : pBuild P t (some l) = some v) :
    ∃ r, vrel ρ v r ∧ ∀ w, (Instr.build t l'.toArray).run P w = .ok r w := by
  unfold pBuild at h
  split at h
  · rename_i z fs l0 hz ht hl0
    cases hl0
    split at h
    · rename_i hall
      split at h
      · rename_i cs hcs
        cases h
        obtain ⟨i, zv, hi, hzv, hzr⟩ := zeroOf_sound hz
        have key : ∀ w, (fs.mapM fun f => (do pure (f.offset, ← sizeOf f.type) : Sem (Nat × Nat))).run P w = .ok (placesOf P fs.toList).toArray w := by
          intro w
          have h3 := mapM_places (P := P) w fs.toList hall
          obtain ⟨fl⟩ := fs
          rw [List.mapM_toArray]
          simp only [Sem.run_map, h3, Result.andThen_ok]
        have hpl : ∀ (i : Nat) p, placeOf P fs i = some p → (placesOf P fs.toList).toArray[i]? = some p := by
          intro i p hp
          obtain ⟨f, j, hf, hj, rfl⟩ := placeOf_sound hp
          have hf' : fs.toList[i]? = some f := by simpa using hf
          simp [placesOf, List.getElem?_map, hf, Program.cellsOf, hj]
        obtain ⟨C', hC', hrel, _⟩ := fill_sound (place' := fun i => (placesOf P fs.toList)[i]?) (fun i p hp => by simpa using hpl i p hp) (C := zv.cells) h1 h2 (vrel_cells (hzr ρ)) hcs
        refine ⟨.agg C', ⟨C'.toList, rfl, hrel⟩, fun w => ?_⟩
        simp only [Instr.build, zeroValue, typeInfo, Sem.run_bind, run_program, Result.andThen_ok, hi, hzv, Sem.run_pure, run_underlying ht, key]
        simp [hC']
      · cases h
    · cases h
  · cases h

theorem pOp_sound {T : Tr AVal} {a : Act} (hT : TRel ρ n T a.tmps) (hg : Glob ng ρ) {o : Oper} {v : AVal} (h : pOp P ng T o.op = some v) :
    ∃ x, vrel ρ v x ∧ ∀ w, (execOp a.eval o).run P w = .ok (.value x) w := by
  obtain ⟨dst, op, type, pos, after, guard⟩ := o
  cases op with
  | move x => exact ⟨_, opd_sound hT hg h, fun w => by simp [execOp]⟩
  | assign x => exact ⟨_, opd_sound hT hg h, fun w => by simp [execOp]⟩
  | pick c x y =>
    rcases pPick_sound h with ⟨y', h1, h2, h3⟩ | ⟨y', h1, h2, h3⟩
    · have e1 := opd_sound hT hg h1
      have e1 : a.eval c = .bool true := e1
      exact ⟨_, opd_sound hT hg h2, fun w => by simp [execOp, e1, asBool]⟩
    · have e1 : a.eval c = .bool false := opd_sound hT hg h1
      exact ⟨_, opd_sound hT hg h3, fun w => by simp [execOp, e1, asBool]⟩
  | build t ps =>
    change pBuild P t (partsOf ng T ps.toList) = some v at h
    cases hp : partsOf ng T ps.toList with
    | none => rw [hp] at h; unfold pBuild at h; split at h <;> first | (rename_i hh; cases hh; done) | cases h
    | some l =>
      rw [hp] at h
      obtain ⟨h1, h2⟩ := partsOf_sound hT hg hp
      obtain ⟨r, hr, hrun⟩ := build_run (l' := ps.toList.map fun p => (p.1, a.eval p.2)) (by rw [h1]; simp) (by simpa [Function.comp_def] using h2) h
      refine ⟨r, hr, fun w => ?_⟩
      have e : (ps.map fun p => (p.1, a.eval p.2)) = (ps.toList.map fun p => (p.1, a.eval p.2)).toArray := by apply Array.ext'; simp
      simp only [execOp, Sem.run_bind]
      rw [show (ps.map fun (x : Nat × Operand) => match x with | (i, x) => (i, a.eval x)) = (ps.toList.map fun p => (p.1, a.eval p.2)).toArray from e, hrun w]
      rfl
  | nilCheck x =>
    change pNil (opd ng T x) = some v at h
    cases hx : opd ng T x with
    | none => rw [hx] at h; cases h
    | some u =>
      rw [hx] at h
      have e1 := opd_sound hT hg hx
      obtain ⟨rfl, hrun⟩ := nilCheck_run (P := P) e1 h
      exact ⟨_, e1, fun w => hrun a.eval _ x rfl rfl w⟩
  | binOp op t x y yt =>
    change pBin P op t (opd ng T x) (opd ng T y) = some v at h
    unfold pBin at h
    split at h
    · rename_i p q hx hy
      obtain ⟨r, hr, hrun⟩ := aBin_run (x := x) (y := y) (opd_sound hT hg hx) (opd_sound hT hg hy) h
      refine ⟨r, hr, fun w => ?_⟩
      have := hrun w
      simp only [execOp, Sem.run_bind] at this ⊢
      rw [this]; rfl
    · cases h
  | unOp op t x =>
    change pUn op (opd ng T x) = some v at h
    unfold pUn at h
    split at h
    · rename_i p hx
      have e1 := opd_sound hT hg hx
      unfold aUn at h
      split at h
      · have e1 : a.eval x = .int _ _ := e1
        obtain ⟨r, hr, hrun⟩ := pureSem_run h
        exact ⟨r, hr ρ, fun w => by simp only [execOp, Sem.run_bind, e1, hrun P w]; rfl⟩
      · have e1 : a.eval x = .bool _ := e1
        obtain ⟨r, hr, hrun⟩ := pureSem_run h
        exact ⟨r, hr ρ, fun w => by simp only [execOp, Sem.run_bind, e1, hrun P w]; rfl⟩
      · cases h
    · cases h
  | convert s d x =>
    change pConv P s d (opd ng T x) = some v at h
    unfold pConv at h
    split at h
    · rename_i ds k kk m hs hd hx
      cases h
      have e1 : a.eval x = .int kk m := opd_sound hT hg hx
      refine ⟨.int k (k.wrap m), rfl, fun w => ?_⟩
      simp [execOp, Go.convert, run_underlying hs, run_underlying hd, e1, Conv.intToInt]
    · cases h
  | makeFunc fn first cap =>
    change pMakeFunc ng T fn first cap = some v at h
    cases fn with
    | func f =>
      change pFunc f (opds ng T first.toList) (opds ng T cap.toList) = some v at h
      unfold pFunc at h
      split at h
      · rename_i p q h1 h2
        cases h
        refine ⟨.func (.func f) ⟨first.toList.map a.eval⟩ ⟨cap.toList.map a.eval⟩, ⟨_, _, rfl, opds_sound hT hg h1, opds_sound hT hg h2⟩, fun w => ?_⟩
        simp only [execOp, Instr.makeFunc, Sem.run_bind, Sem.run_pure, Result.andThen_ok]
        have e1 : Array.map a.eval first = ⟨List.map a.eval first.toList⟩ := by apply Array.ext'; simp
        have e2 : Array.map a.eval cap = ⟨List.map a.eval cap.toList⟩ := by apply Array.ext'; simp
        rw [e1, e2]
      · cases h
    | _ => cases h
  | fieldAddr s x f =>
    change pField P s f (opd ng T x) = some v at h
    unfold pField at h
    split at h
    · rename_i p hx
      obtain ⟨r, hr, hrun⟩ := fieldAt_run (opd_sound hT hg hx) h
      exact ⟨r, hr, fun w => by simp only [execOp, Sem.run_bind, hrun w]; rfl⟩
    · cases h
  | indexAddr t x ix =>
    change pIndexAddr P t (opd ng T x) (opd ng T ix) = some v at h
    unfold pIndexAddr at h
    split at h
    · rename_i p q hx hi
      obtain ⟨r, hr, hrun⟩ := indexAt_run (opd_sound hT hg hx) (opd_sound hT hg hi) h
      exact ⟨r, hr, fun w => by simp only [execOp, Sem.run_bind, hrun w]; rfl⟩
    · cases h
  | index t x ix =>
    change pIndex P t (opd ng T x) (opd ng T ix) = some v at h
    unfold pIndex at h
    split at h
    · rename_i p q hx hi
      obtain ⟨r, hr, hrun⟩ := index_run (opd_sound hT hg hx) (opd_sound hT hg hi) h
      exact ⟨r, hr, fun w => by simp only [execOp, Sem.run_bind, hrun w]; rfl⟩
    · cases h
  | extract x i =>
    change pExtract i (opd ng T x) = some v at h
    unfold pExtract at h
    split at h
    · rename_i vs hx
      obtain ⟨xs, he, hrel⟩ := opd_sound hT hg hx
      obtain ⟨y, hy, hr⟩ := vrels_get hrel h
      refine ⟨y, hr, fun w => ?_⟩
      simp [execOp, he, Instr.extract, hy]
    · cases h
  | call c =>
    obtain ⟨callee, args, ts⟩ := c
    change pCall P ng T ⟨callee, args, ts⟩ = some v at h
    unfold pCall at h
    split at h
    · rename_i t rest x h1 h2 h3
      have h1 : callee = .builtin .len := h1
      have h2 : ts.toList = t :: rest := h2
      have h3 : args.toList = [x] := h3
      subst h1
      split at h
      · rename_i p hx
        obtain ⟨r, hr, hrun⟩ := len_run (ty := type) (ts := ts) (by rw [← Array.getElem?_toList, h2]; rfl) (opd_sound hT hg hx) h
        refine ⟨r, hr, fun w => ?_⟩
        have ha : args = #[x] := by apply Array.ext'; simpa using h3
        subst ha
        simp [execOp, resolve, invoke, Go.builtin, hrun w]
      · cases h
    · cases h
  | _ => cases h

end Go.Abs

namespace Go.Abs
open Go
variable {P : Program} {B ng n : Nat} {ρ : Rho}

theorem load_run {obj : Nat → Option Row} {fam : Nat → Option (List Nat)} {w : World} (s : SimF B ng ρ obj fam w.heap) {t : TypeId} {a v : AVal} {p : Value} (ha : vrel ρ a p) (h : aLoad P obj t a = some v) :
    ∃ r, vrel ρ v r ∧ (Instr.loadAt t p).run P w = .ok r w := by
  unfold aLoad at h
  split at h
  · rename_i x off
    obtain ⟨l, hl, rfl⟩ := ha
    split at h
    · rename_i d i hd hi
      split at h
      · rename_i hagg
        split at h
        · rename_i cs hcs
          cases h
          obtain ⟨l', C, e, fz, xs, hl', hb, hlen, hrel, hxl, hget⟩ := readCells_sim s hcs
          rw [hl] at hl'; cases hl'
          refine ⟨.agg ⟨xs⟩, ⟨xs, rfl, hrel⟩, ?_⟩
          have hld := run_loadCells_list (P := P) w ⟨l.blk, l.off + off, none⟩ xs (fun j y hy => by rw [cell_at hb]; exact hget j y hy)
          rw [hxl] at hld
          have hia : (isAgg t).run P w = .ok true w := by
            unfold isAggD at hagg
            simp only [isAgg, Sem.run_bind, run_underlying hd, Result.andThen_ok]
            split at hagg <;> first | rfl | cases hagg
          simp [Instr.loadAt, Instr.sureAddr, loadVar, hia, sizeOf, typeInfo, hi, hld]
        · cases h
      · rename_i hagg
        split at h
        · rename_i c cs' hcs
          cases h
          obtain ⟨l', C, e, fz, xs, hl', hb, hlen, hrel, hxl, hget⟩ := readCells_sim s hcs
          rw [hl] at hl'; cases hl'
          obtain ⟨y, ys, rfl, hy, _⟩ := vrels_cons.1 hrel
          refine ⟨y, hy, ?_⟩
          have hcell : w.cell? ⟨l.blk, l.off + off, none⟩ = some y := by
            have := hget 0 y rfl
            rw [cell_of_row w l.blk (l.off + off) C e fz hb]; simpa using this
          have hia : (isAgg t).run P w = .ok false w := by
            unfold isAggD at hagg
            simp only [isAgg, Sem.run_bind, run_underlying hd, Result.andThen_ok]
            split at hagg <;> first | (cases hagg; done) | (cases d <;> first | rfl | simp_all)
          simp [Instr.loadAt, Instr.sureAddr, loadVar, hia, hcell]
        · cases h
    · cases h
  · cases h

theorem boundOf_some {x : Option AVal} {d l : Nat} (h : boundOf x d = some l) : (x = none ∧ l = d) ∨ ∃ k, x = some (.int k (Int.ofNat l)) := by
  unfold boundOf at h
  split at h
  · cases h; exact .inl ⟨rfl, rfl⟩
  · split at h
    · cases h; exact .inr ⟨_, rfl⟩
    · cases h
  · cases h

/-- optional operands -/
theorem optOpd_sound {T : Tr AVal} {a : Act} (hT : TRel ρ n T a.tmps) (hg : Glob ng ρ) {x : Option Operand} {y : Option AVal} (h : optOpd ng T x = some y) : (x = none ∧ y = none) ∨ ∃ o v, x = some o ∧ y = some v ∧ vrel ρ v (a.eval o) := by
  unfold optOpd at h
  split at h
  · cases h; exact .inl ⟨rfl, rfl⟩
  · split at h
    · rename_i o v hv; cases h; exact .inr ⟨_, _, rfl, rfl, opd_sound hT hg hv⟩
    · cases h

theorem run_bound (w : World) (k : IntKind) (l y : Nat) (code : BoundsCode) (h : l ≤ y) : (Instr.sliceBound (.int k (Int.ofNat l)) y code).run P w = .ok l w := by
  have := run_sliceBound (P := P) w k (Int.ofNat l) y code (by simp) (by simp; omega)
  simpa using this

/-- the bounds of a slice expression with two indexes -/
theorem sliceBounds_run (w : World) (len cap l h : Nat) (lo hi : Option Value) (hlo : (lo = none ∧ l = 0) ∨ ∃ k, lo = some (.int k (Int.ofNat l))) (hhi : (hi = none ∧ h = len) ∨ ∃ k, hi = some (.int k (Int.ofNat h)))
    (h1 : l ≤ h) (h2 : h ≤ cap) : (Instr.sliceBounds true len cap lo hi none).run P w = .ok (l, h, cap) w := by
  unfold Instr.sliceBounds
  rcases hlo with ⟨rfl, rfl⟩ | ⟨k, rfl⟩
  · rcases hhi with ⟨rfl, rfl⟩ | ⟨k', rfl⟩
    · simp only [Sem.run_bind, Sem.run_pure, Result.andThen_ok]
    · simp only [Sem.run_bind, Sem.run_pure, Result.andThen_ok, run_bound w k' h cap _ h2]
  · rcases hhi with ⟨rfl, rfl⟩ | ⟨k', rfl⟩
    · simp only [Sem.run_bind, Sem.run_pure, Result.andThen_ok, run_bound w k l _ _ h1]
    · simp only [Sem.run_bind, Sem.run_pure, Result.andThen_ok, run_bound w k' h cap _ h2, run_bound w k l _ _ h1]

theorem slice_run {obj : Nat → Option Row} {fam : Nat → Option (List Nat)} {w : World} (s : SimF B ng ρ obj fam w.heap) {t : TypeId} {a v : AVal} {p : Value} {lo hi : Option AVal} {lo' hi' : Option Value} (ha : vrel ρ a p)
    (hlo : (lo = none ∧ lo' = none) ∨ ∃ x y, lo = some x ∧ lo' = some y ∧ vrel ρ x y) (hhi : (hi = none ∧ hi' = none) ∨ ∃ x y, hi = some x ∧ hi' = some y ∧ vrel ρ x y) (h : aSlice P obj t a lo hi = some v) :
    ∃ r, vrel ρ v r ∧ (Instr.sliceAt t p lo' hi' none).run P w = .ok r w := by
  have blo : ∀ l, boundOf lo 0 = some l → (lo' = none ∧ l = 0) ∨ ∃ k, lo' = some (.int k (Int.ofNat l)) := by
    intro l hl
    rcases hlo with ⟨rfl, rfl⟩ | ⟨x, y, rfl, rfl, hxy⟩
    · rcases boundOf_some hl with ⟨_, rfl⟩ | ⟨k, hk⟩
      · exact .inl ⟨rfl, rfl⟩
      · cases hk
    · rcases boundOf_some hl with ⟨hk, _⟩ | ⟨k, hk⟩
      · cases hk
      · cases hk; cases hxy; exact .inr ⟨k, rfl⟩
  have bhi : ∀ d m, boundOf hi d = some m → (hi' = none ∧ m = d) ∨ ∃ k, hi' = some (.int k (Int.ofNat m)) := by
    intro d m hm
    rcases hhi with ⟨rfl, rfl⟩ | ⟨x, y, rfl, rfl, hxy⟩
    · rcases boundOf_some hm with ⟨_, rfl⟩ | ⟨k, hk⟩
      · exact .inl ⟨rfl, rfl⟩
      · cases hk
    · rcases boundOf_some hm with ⟨hk, _⟩ | ⟨k, hk⟩
      · cases hk
      · cases hk; cases hxy; exact .inr ⟨k, rfl⟩
  unfold aSlice at h
  split at h
  · rename_i e ht
    split at h
    · rename_i h1 h2
      split at h
      · rename_i i hi0
        cases h; cases ha
        refine ⟨.slice none 0 0, rfl, ?_⟩
        have := sliceBounds_run (P := P) w 0 0 0 0 lo' hi' (blo 0 h1) (bhi 0 0 h2) (Nat.le_refl _) (Nat.le_refl _)
        simp only [Instr.sliceAt, Sem.run_bind, run_underlying ht, Result.andThen_ok, Instr.slice, this, sizeOf, typeInfo, run_program, hi0, Sem.run_pure]
        rfl
      · cases h
    · cases h
  · rename_i e x off len lim ht
    split at h
    · cases h
    · rename_i i hi0
      split at h
      · rename_i ex c l m hcap hl hm
        split at h
        · rename_i h1 h2
          have h1 := ble_true h1
          have h2 := ble_true h2
          obtain ⟨b, n', cap, rfl, hc1, hc2⟩ := capOf_sim s ha hcap
          -- the model's run
          obtain ⟨_, loc, hloc, hbe⟩ := vrel_longer ha len
          have hn' : n' = len := by
            cases lim with
            | none => obtain ⟨_, _, he⟩ := ha; cases he; rfl
            | some _ => obtain ⟨_, _, he⟩ := ha; cases he; rfl
          subst hn'
          subst hbe
          have hrun : (Instr.sliceAt t (.slice (some ⟨loc.blk, loc.off + off, none⟩) n' cap) lo' hi' none).run P w =
              .ok (.slice (if cap = l then some ⟨loc.blk, loc.off + off, none⟩ else some ⟨loc.blk, loc.off + off + l * i.size, none⟩) (m - l) (cap - l)) w := by
            have := sliceBounds_run (P := P) w n' cap l m lo' hi' (blo l hl) (bhi n' m hm) h1 (by omega)
            simp only [Instr.sliceAt, Sem.run_bind, run_underlying ht, Result.andThen_ok, Instr.slice, this, sizeOf, typeInfo, run_program, hi0, Sem.run_pure, Option.map_some, addr_add]
          split at h
          · -- a limit
            rename_i c'
            cases h
            obtain ⟨l2, hl2, he⟩ := ha
            rw [hloc] at hl2; cases hl2
            injection he with _ _ hcc
            subst hcc
            refine ⟨_, ?_, hrun⟩
            cases hb : Nat.beq cap l with
            | true =>
              have hb := beq_true hb
              rw [if_pos hb]
              exact ⟨loc, hloc, rfl⟩
            | false =>
              have hb := beq_false hb
              rw [if_neg hb]
              exact ⟨loc, hloc, by rw [Nat.add_assoc]⟩
          · obtain ⟨l2, hl2, he⟩ := ha
            injection he with _ _ hcape
            rw [hloc] at hl2; cases hl2
            -- the element's size
            have hsz : loc.sz = i.size ∧ ∃ r C fz, obj x = some r ∧ RowOk B ρ r loc C fz ∧ off ≤ r.cells.length ∧ c = (r.cells.length - off) / i.size := by
              simp only [capOf] at hcap
              split at hcap
              · rename_i r hr
                split at hcap
                · rename_i hz ho
                  simp only [Option.some.injEq, Prod.mk.injEq] at hcap
                  obtain ⟨l3, C3, e3, fz3, hl3, hb3, ok3⟩ := s.row x r hr
                  rw [hloc] at hl3; cases hl3
                  exact ⟨by rw [ok3.sz, beq_true hz], r, C3, fz3, hr, ok3, ble_true ho, hcap.2.symm⟩
                · cases hcap
              · cases hcap
            obtain ⟨hz, r, C3, fz3, hr, ok3, hoff, hceq⟩ := hsz
            have hnew : (loc.cap - (off + l * i.size)) / loc.sz = cap - l := by
              rw [hcape, hz, ← Nat.sub_sub, Nat.mul_comm, Nat.sub_mul_div]
            split at h
            · rename_i hlt
              have hlt := ble_true hlt
              cases h
              refine ⟨_, ?_, hrun⟩
              rw [if_neg (by omega)]
              exact ⟨loc, hloc, by rw [hnew, Nat.add_assoc]⟩
            · rename_i hlt h0
              have h0 := beq_true h0
              subst h0
              cases h
              refine ⟨_, ?_, hrun⟩
              have : (if cap = 0 then some (⟨loc.blk, loc.off + off, none⟩ : Addr) else some ⟨loc.blk, loc.off + off + 0 * i.size, none⟩) = some ⟨loc.blk, loc.off + off, none⟩ := by simp
              rw [this]
              exact ⟨loc, hloc, by simp [hcape]⟩
            · rename_i hlt h0
              have hlt := ble_false hlt
              have h0 := beq_false h0
              have hml : m = l := by omega
              subst hml
              split at h
              · cases h
                have hcc := hc2 rfl
                refine ⟨_, ?_, hrun⟩
                rw [if_pos (by omega)]
                exact ⟨loc, hloc, by rw [show m - m = 0 by omega, show cap - m = 0 by omega]⟩
              · cases h
                refine ⟨_, ?_, hrun⟩
                rw [Nat.sub_self]
                split
                · exact ⟨_, _, rfl⟩
                · exact ⟨_, _, rfl⟩
        · cases h
      · cases h
  · cases h

theorem cap_run {obj : Nat → Option Row} {fam : Nat → Option (List Nat)} {w : World} (s : SimF B ng ρ obj fam w.heap) {t ty : TypeId} {ts : Array TypeId} (hts : ts[0]? = some t) {a v : AVal} {p : Value} (ha : vrel ρ a p) (h : aCap P obj t a = some v) :
    ∃ r, vrel ρ v r ∧ (Builtin.cap_ ts ty #[p]).run P w = .ok r w := by
  unfold aCap at h
  split at h
  · rename_i e ht
    split at h
    · rename_i i hi
      split at h
      · rename_i c hc
        cases h
        obtain ⟨b, m, cap, rfl, h1, h2⟩ := capOf_sim s ha hc
        have := h2 rfl
        subst this
        exact ⟨.int .i64 cap, rfl, by simp [Builtin.cap_, hts, run_underlying ht, goInt]⟩
      · cases h
    · cases h
  · cases h

theorem rOp_sound {obj : Nat → Option Row} {fam : Nat → Option (List Nat)} {w : World} (s : SimF B ng ρ obj fam w.heap) {T : Tr AVal} {a : Act} (hT : TRel ρ n T a.tmps) {o : Oper} {v : AVal} (h : rOp P ng T obj o.op = some v) :
    ∃ x, vrel ρ v x ∧ (execOp a.eval o).run P w = .ok (.value x) w := by
  have hg : Glob ng ρ := s.glob
  obtain ⟨dst, op, type, pos, after, guard⟩ := o
  cases op with
  | load t x =>
    change rLoad P obj t (opd ng T x) = some v at h
    unfold rLoad at h
    split at h
    · rename_i p hx
      obtain ⟨r, hr, hrun⟩ := load_run s (opd_sound hT hg hx) h
      exact ⟨r, hr, by simp only [execOp, Sem.run_bind, hrun]; rfl⟩
    · cases h
  | slice t x lo hi mx =>
    change rSlice P obj t (opd ng T x) (optOpd ng T lo) (optOpd ng T hi) mx = some v at h
    unfold rSlice at h
    split at h
    · rename_i p l m hx hl hm
      have h1 : (l = none ∧ lo.map a.eval = none) ∨ ∃ x y, l = some x ∧ lo.map a.eval = some y ∧ vrel ρ x y := by
        rcases optOpd_sound hT hg hl with ⟨rfl, rfl⟩ | ⟨o, u, rfl, rfl, hr⟩
        · exact .inl ⟨rfl, rfl⟩
        · exact .inr ⟨u, _, rfl, rfl, hr⟩
      have h2 : (m = none ∧ hi.map a.eval = none) ∨ ∃ x y, m = some x ∧ hi.map a.eval = some y ∧ vrel ρ x y := by
        rcases optOpd_sound hT hg hm with ⟨rfl, rfl⟩ | ⟨o, u, rfl, rfl, hr⟩
        · exact .inl ⟨rfl, rfl⟩
        · exact .inr ⟨u, _, rfl, rfl, hr⟩
      obtain ⟨r, hr, hrun⟩ := slice_run s (opd_sound hT hg hx) h1 h2 h
      exact ⟨r, hr, by simp only [execOp, Sem.run_bind, Option.map_none, hrun]; rfl⟩
    · cases h
  | call c =>
    obtain ⟨callee, args, ts⟩ := c
    change rCall P ng T obj ⟨callee, args, ts⟩ = some v at h
    unfold rCall at h
    split at h
    · rename_i t rest x h1 h2 h3
      have h1 : callee = .builtin .cap := h1
      have h2 : ts.toList = t :: rest := h2
      have h3 : args.toList = [x] := h3
      subst h1
      split at h
      · rename_i p hx
        obtain ⟨r, hr, hrun⟩ := cap_run (ty := type) (ts := ts) s (by rw [← Array.getElem?_toList, h2]; rfl) (opd_sound hT hg hx) h
        refine ⟨r, hr, ?_⟩
        have ha : args = #[x] := by apply Array.ext'; simpa using h3
        subst ha
        simp [execOp, resolve, invoke, Go.builtin, hrun]
      · cases h
    · cases h
  | _ => cases h

/-- reads go on in a greater heap -/
theorem readCells_mono {g g' : Nat → Option Row} (hs : ∀ v r, g v = some r → g' v = some r) {v off m : Nat} {cs : List AVal} (h : readCells g v off m = some cs) : readCells g' v off m = some cs := by
  unfold readCells at h ⊢
  split at h
  · cases h
  · rename_i r hr; rw [hs v r hr]; exact h
theorem capOf_mono {g g' : Nat → Option Row} (hs : ∀ v r, g v = some r → g' v = some r) {sz : Nat} {x : AVal} {p : Bool × Nat} (h : capOf g sz x = some p) : capOf g' sz x = some p := by
  cases x with
  | slice v off len lim =>
    cases lim with
    | some c => exact h
    | none =>
      simp only [capOf] at h ⊢
      split at h
      · rename_i r hr; rw [hs v r hr]; exact h
      · cases h
  | _ => exact h
theorem aLoad_mono {g g' : Nat → Option Row} (hs : ∀ v r, g v = some r → g' v = some r) {t : TypeId} {x v : AVal} (h : aLoad P g t x = some v) : aLoad P g' t x = some v := by
  unfold aLoad at h ⊢
  split at h
  · split at h
    · split at h
      · split at h
        · rename_i cs hcs; simp only [readCells_mono hs hcs]; exact h
        · cases h
      · split at h
        · rename_i hcs; simp only [readCells_mono hs hcs]; exact h
        · cases h
    · cases h
  · cases h

end Go.Abs

namespace Go.Abs
open Go
variable {P : Program} {B ng n : Nat} {ρ : Rho}

theorem aSlice_mono {g g' : Nat → Option Row} (hs : ∀ v r, g v = some r → g' v = some r) {t : TypeId} {x v : AVal} {lo hi : Option AVal} (h : aSlice P g t x lo hi = some v) : aSlice P g' t x lo hi = some v := by
  unfold aSlice at h ⊢
  split at h
  · exact h
  · split at h
    · cases h
    · split at h
      · rename_i hc hl hm
        simp only [capOf_mono hs hc, hl, hm]
        exact h
      · cases h
  · cases h
theorem aCap_mono {g g' : Nat → Option Row} (hs : ∀ v r, g v = some r → g' v = some r) {t : TypeId} {x v : AVal} (h : aCap P g t x = some v) : aCap P g' t x = some v := by
  unfold aCap at h ⊢
  split at h
  · split at h
    · split at h
      · rename_i hc
        simp only [capOf_mono hs hc]
        exact h
      · cases h
    · cases h
  · cases h
theorem rSlice_mono {g g' : Nat → Option Row} (hs : ∀ v r, g v = some r → g' v = some r) {t : TypeId} {v : AVal} : ∀ (A : Option AVal) (L H : Option (Option AVal)) (M : Option Operand), rSlice P g t A L H M = some v → rSlice P g' t A L H M = some v
  | some _, some _, some _, none, h => aSlice_mono hs h
  | none, _, _, _, h => by cases h
  | some _, none, _, _, h => by cases h
  | some _, some _, none, _, h => by cases h
  | some _, some _, some _, some _, h => by cases h
theorem rOp_mono {g g' : Nat → Option Row} (hs : ∀ v r, g v = some r → g' v = some r) {T : Tr AVal} {o : Op} {v : AVal} (h : rOp P ng T g o = some v) : rOp P ng T g' o = some v := by
  cases o with
  | load t x =>
    change rLoad P g t (opd ng T x) = some v at h
    change rLoad P g' t (opd ng T x) = some v
    cases hx : opd ng T x with
    | none => rw [hx] at h; cases h
    | some p => rw [hx] at h; exact aLoad_mono hs h
  | slice t x lo hi mx => exact rSlice_mono hs _ _ _ _ h
  | call c =>
    obtain ⟨callee, args, ts⟩ := c
    change rCall P ng T g ⟨callee, args, ts⟩ = some v at h
    change rCall P ng T g' ⟨callee, args, ts⟩ = some v
    unfold rCall at h ⊢
    dsimp only at h ⊢
    generalize ts.toList = tl at h ⊢
    generalize args.toList = al at h ⊢
    split at h
    · cases hx : opd ng T _ with
      | none => simp only [hx] at h; cases h
      | some p => simp only [hx] at h ⊢; exact aCap_mono hs h
    · cases h
  | _ => cases h

theorem rep_length (z : List AVal) : ∀ k, (rep z k).length = k * z.length
  | 0 => by simp [rep]
  | k + 1 => by simp [rep, rep_length z k, Nat.add_mul, Nat.add_comm]
theorem rep_get (z : List AVal) : ∀ k i, i < k * z.length → (rep z k)[i]? = z[i % z.length]?
  | 0, i, h => by simp at h
  | k + 1, i, h => by
    simp only [rep]
    rw [Nat.add_mul, Nat.one_mul] at h
    by_cases hi : i < z.length
    · rw [List.getElem?_append_left hi, Nat.mod_eq_of_lt hi]
    · rw [List.getElem?_append_right (by omega), rep_get z k _ (by omega), ← Nat.mod_eq_sub_mod (by omega)]

theorem vrels_rep {z : List AVal} {zv : Array Value} (h : vrels ρ z zv.toList) (k : Nat) : vrels ρ (rep z k) ((Array.range (k * zv.size)).map fun i => zv[i % zv.size]!).toList := by
  have hl := vrels_length h
  simp only [Array.length_toList] at hl
  refine vrels_of_get (by simp [rep_length, hl]) fun i c hc => ?_
  have hlt : i < (rep z k).length := (List.getElem?_eq_some_iff.1 hc).1
  rw [rep_length] at hlt
  rw [rep_get z k i hlt] at hc
  obtain ⟨x, hx, hr⟩ := vrels_get h hc
  refine ⟨x, ?_, hr⟩
  have hx' : zv[i % z.length]? = some x := by simpa using hx
  rw [hl]
  simp only [Array.toList_map, Array.toList_range, List.getElem?_map]
  rw [List.getElem?_range hlt]; simp [getElem!_def, hx']

def newV (b : Nat) : Option Nat → Nat → Value
  | none, _ => .pointer (some ⟨b, 0, none⟩)
  | some k, c => .slice (some ⟨b, 0, none⟩) k c

theorem newVal_vrel {id : Nat} {l : Loc} (hl : ρ id = some l) (ho : l.off = 0) (m : Option Nat) (hc : ∀ k, m = some k → 0 < l.sz) : vrel ρ (newVal id m) (newV l.blk m (l.cap / l.sz)) := by
  cases m with
  | none => exact ⟨l, hl, by simp [newV, ho]⟩
  | some k => exact ⟨l, hl, by simp [newV, ho]⟩

theorem nOp_sound {T : Tr AVal} {a : Act} (hT : TRel ρ n T a.tmps) (hg : Glob ng ρ) {o : Oper} {cs : List AVal} {sz : Nat} {m : Option Nat} (h : nOp P ng T o.op = some (cs, sz, m)) :
    ∃ (C : Array Value) (e : TypeId), vrels ρ cs C.toList ∧ ∀ w, (execOp a.eval o).run P w = .ok (.value (newV w.heap.size m (cs.length / sz))) (w.alloc (.cells C e)) := by
  obtain ⟨dst, op, type, pos, after, guard⟩ := o
  cases op with
  | alloc t =>
    change nBox (zeroOf P t) = _ at h
    unfold nBox at h
    split at h
    · rename_i z hz
      cases h
      obtain ⟨i, zv, hi, hzv, hr⟩ := zeroOf_sound hz
      refine ⟨zv.cells, t, vrel_cells (hr ρ), fun w => ?_⟩
      simp [execOp, Instr.alloc, zeroValue, typeInfo, hi, hzv, newVar, newRow, newV]
    · cases h
  | box t x =>
    change nBox (opd ng T x) = _ at h
    unfold nBox at h
    split at h
    · rename_i z hz
      cases h
      refine ⟨(a.eval x).cells, t, vrel_cells (opd_sound hT hg hz), fun w => ?_⟩
      simp [execOp, Instr.box, newVar, newRow, newV]
    · cases h
  | buildSlice t len ps =>
    change nBuildSlice P t len (partsOf ng T ps.toList) = _ at h
    unfold nBuildSlice at h
    split at h
    · rename_i e l ht hl
      split at h
      · rename_i i z hi hz
        split at h
        · rename_i h1 h2 h3
          have h1 := beq_true h1
          have h2 := beq_false h2
          have h3 := ble_true h3
          split at h
          · rename_i cs' hcs
            cases h
            obtain ⟨i', zv, hi', hzv, hr⟩ := zeroOf_sound hz
            rw [hi] at hi'; cases hi'
            have hzc := vrel_cells (hr ρ)
            have hzl := vrels_length hzc
            simp only [Array.length_toList] at hzl
            have hzs : zv.cells.size = i.size := by rw [hzl]; exact h1
            obtain ⟨p1, p2⟩ := partsOf_sound hT hg hl
            obtain ⟨C, hC, hrel, hCs⟩ := fill_sound (place' := fun j => some (j * i.size, i.size)) (fun j p hp => hp) (l' := ps.toList.map fun p => (p.1, a.eval p.2))
              (C := (Array.range (len * zv.cells.size)).map fun j => zv.cells[j % zv.cells.size]!) (by rw [p1]; simp) (by simpa [Function.comp_def] using p2) (vrels_rep hzc len) hcs
            refine ⟨C, e, hrel, fun w => ?_⟩
            have hcl : cs.length = len * i.size := by
              have := vrels_length hrel
              simp only [Array.length_toList] at this
              rw [← this, hCs]; simp [hzs]
            have hdiv : cs.length / i.size = len := by rw [hcl]; exact Nat.mul_div_cancel _ (by omega)
            have e2 : (ps.map fun (x : Nat × Operand) => match x with | (i, x) => (i, a.eval x)).toList = ps.toList.map fun p => (p.1, a.eval p.2) := by simp
            by_cases hz0 : len * i.size = 0
            · have hlen0 : len = 0 := by rcases Nat.mul_eq_zero.1 hz0 with h | h <;> omega
              subst hlen0
              have hr0 : Array.range 0 = #[] := rfl
              have hC' : Instr.fill (fun j => some (j * i.size, i.size)) #[] (ps.toList.map fun p => (p.1, a.eval p.2)) = some C := by simpa [hr0] using hC
              simp [execOp, Instr.buildSlice, run_underlying ht, sizeOf, typeInfo, hi, newRow, newV, hdiv, hC', hr0]
            · rw [hzs] at hC
              have hbig : ¬ (16777216 < len * i.size) := by omega
              simp only [execOp, Instr.buildSlice, Sem.run_bind, run_underlying ht, Result.andThen_ok, sizeOf, typeInfo, run_program, hi, Sem.run_pure, e2, Sem.run_ite, hz0, if_false, zeroValue, hzv]
              simp [hbig, hzs, hC, newRow, newV, hdiv]
          · cases h
        · cases h
      · cases h
    · cases h
  | makeSlice t l c =>
    change nMakeSlice P t (opd ng T l) (opd ng T c) = _ at h
    unfold nMakeSlice at h
    split at h
    · rename_i e k m' ht hl hc
      split at h
      · rename_i i z hi hz
        split at h
        · rename_i h1 h2 h3 h4 h5
          have h1 := beq_true h1
          have h2 := beq_false h2
          have h3 := ble_true h3
          have h4 : m' * i.bytes ≤ 1099511627776 := ble_true h4
          have h5 : m' ≤ 1099511627776 := ble_true h5
          cases h
          obtain ⟨i', zv, hi', hzv, hr⟩ := zeroOf_sound hz
          rw [hi] at hi'; cases hi'
          have hzc := vrel_cells (hr ρ)
          have hzl := vrels_length hzc
          simp only [Array.length_toList] at hzl
          have hzs : zv.cells.size = i.size := by rw [hzl]; exact h1
          have el : a.eval l = .int .i64 (Int.ofNat k) := opd_sound hT hg hl
          have ec : a.eval c = .int .i64 (Int.ofNat m') := opd_sound hT hg hc
          have hdiv : (rep z.cells m').length / i.size = m' := by rw [rep_length, h1]; exact Nat.mul_div_cancel _ (by omega)
          refine ⟨(Array.range (m' * zv.cells.size)).map fun j => zv.cells[j % zv.cells.size]!, e, vrels_rep hzc m', fun w => ?_⟩
          have w1 := wrap_small k (by omega)
          have w2 := wrap_small m' h5
          have w3 : ¬ (281474976710656 < (i.bytes : Int) * (m' : Int)) := by rw [Int.mul_comm]; exact mul_cast_le h4
          have w4 : ¬ ((m' : Int) < 0) := by omega
          have w5 : ¬ ((k : Int) < 0) := by omega
          have w6 : ¬ ((m' : Int) < (k : Int)) := by omega
          simp only [execOp, Instr.makeSlice, Sem.run_bind, run_underlying ht, Result.andThen_ok, el, ec, asInt, asIntOf, Sem.run_pure, typeInfo, run_program, hi, Int.ofNat_eq_natCast, w1, w2]
          by_cases hm0 : m' * i.size = 0
          · have hm : m' = 0 := by rcases Nat.mul_eq_zero.1 hm0 with h | h <;> omega
            subst hm
            have hr0 : Array.range 0 = #[] := rfl
            have hk0 : k = 0 := by omega
            subst hk0
            simp [sizeOf, typeInfo, hi, newRow, newV, hr0, rep]
          · simp [w3, w4, w5, w6, sizeOf, typeInfo, hi, hm0, zeroValue, hzv, newRow, newV, hdiv, hzs]
        · cases h
      · cases h
    · cases h
  | _ => cases h

end Go.Abs

namespace Go.Abs
open Go
variable {P : Program} {ng n : Nat} {ρ : Rho}

/-- numbers go up, and stay in order -/
def Grow (H H' : AHeap) : Prop := H.next ≤ H'.next ∧ (WF H → WF H')
theorem Grow.refl (H : AHeap) : Grow H H := ⟨Nat.le_refl _, id⟩
theorem Grow.trans {a b c : AHeap} (h : Grow a b) (k : Grow b c) : Grow a c := ⟨Nat.le_trans h.1 k.1, fun w => k.2 (h.2 w)⟩

theorem alloc_grow (H : AHeap) (cs : List AVal) (ex : Bool) (sz : Nat) : Grow H (alloc H cs ex sz) := by
  refine ⟨Nat.le_succ _, fun w v r hv => ?_⟩
  have hv : (H.objs.set H.next _).get v = some r := hv
  rw [Tr.get_set] at hv
  show v < H.next + 1 ∧ r.fam < H.next + 1
  split at hv
  · rename_i e; cases hv; simp; omega
  · have := w v r hv; omega

theorem write_grow {H H' : AHeap} {v off : Nat} {new : List AVal} (h : write H v off new = some H') : Grow H H' := by
  unfold write at h
  split at h
  · cases h
  · rename_i r hr
    split at h
    · rename_i mem h1 h2 h3 h4
      cases h
      refine ⟨Nat.le_refl _, fun w u ru hu => ?_⟩
      have hu : ((killIn H.objs v (r.start + off) (r.start + off + new.length) mem).set v _).get u = some ru := hu
      rw [Tr.get_set] at hu
      split at hu
      · rename_i e; cases hu; subst e; exact w v r hr
      · exact w u ru (killIn_spec mem _ u ru hu).1
    · cases h

theorem aAppend_grow {H H' : AHeap} {sz bytes m : Nat} {s v : AVal} {new : List AVal} (h : aAppend H sz bytes s m new = some (v, H')) : Grow H H' := by
  unfold aAppend at h
  split at h
  · split at h
    · split at h
      · cases h; exact Grow.refl _
      · split at h
        · rename_i hw; cases h; exact write_grow hw
        · cases h
      · cases h
    · split at h
      · split at h
        · cases h; exact alloc_grow _ _ _ _
        · split at h
          · split at h
            · rename_i r hr
              split at h
              · rename_i mem _ _ _
                cases h
                refine ⟨Nat.le_succ _, fun w u ru hu => ?_⟩
                have hu : ((killFrom H.objs _ mem).set H.next _).get u = some ru := hu
                rw [Tr.get_set] at hu
                show u < H.next + 1 ∧ ru.fam < H.next + 1
                split at hu
                · rename_i e; cases hu; have := (w _ r hr).2; simp; omega
                · have := w u ru (killFrom_spec mem _ u ru hu).1; omega
              · cases h
            · cases h
          · cases h
      · cases h
  · cases h

theorem aAppendB_grow {H H' : AHeap} {ts : List TypeId} {l : List AVal} {v : AVal} (h : aAppendB P H ts l = some (v, H')) : Grow H H' := by
  unfold aAppendB at h
  repeat' (split at h)
  all_goals first | (cases h; done) | exact aAppend_grow h

def CallGrow (call : ACall) : Prop := ∀ f args H v H', call f args H = some (v, H') → Grow H H'

theorem aCallF_some {call : ACall} {f : FuncId} {args : List AVal} {H : AHeap} {r : AVal × AHeap} (h : aCallF P call f args H = some r) :
    ∃ fn c, P.funcs[f]? = some fn ∧ fn.body = some c ∧ (fn.name == "runtime.NumGoroutine") = false ∧ call f args H = some r := by
  unfold aCallF at h
  split at h
  · rename_i fn hf
    split at h
    · rename_i c hb hn; exact ⟨fn, c, hf, hb, hn, h⟩
    · cases h
  · cases h

theorem eOp_grow {call : ACall} (hc : CallGrow call) {T : Tr AVal} {H H' : AHeap} {o : Op} {v : AVal} (h : eOp P ng call T H o = some (v, H')) : Grow H H' := by
  cases o with
  | store t x y =>
    change eStore P H t (opd ng T x) (opd ng T y) = _ at h
    unfold eStore at h
    split at h
    · split at h
      · rename_i H1 hs
        cases h
        unfold aStore at hs
        split at hs
        · split at hs
          · exact write_grow hs
          · cases hs
        · cases hs
      · cases h
    · cases h
  | call c =>
    change eCallee P ng call T H c = _ at h
    unfold eCallee at h
    split at h
    · unfold eCall at h
      split at h
      · obtain ⟨fn, c', h1, h2, h3, h4⟩ := aCallF_some h
        exact hc _ _ _ _ _ h4
      · cases h
    · unfold eApp at h
      split at h
      · exact aAppendB_grow h
      · cases h
    · cases h
  | _ => cases h

theorem aOp_grow {call : ACall} (hc : CallGrow call) {T : Tr AVal} {H H' : AHeap} {o : Op} {v : AVal} (h : aOp P ng call T H o = some (v, H')) : Grow H H' := by
  unfold aOp at h
  split at h
  · unfold withH at h; split at h <;> cases h; exact Grow.refl _
  · unfold withH at h; split at h <;> cases h; exact Grow.refl _
  · unfold nDone at h; split at h <;> cases h; exact alloc_grow _ _ _ _
  · exact eOp_grow hc h

/-- a call does what the abstract machine says -/
def CallOk (P : Program) (ng : Nat) (call : ACall) : Prop := ∀ f args H v H', call f args H = some (v, H') → ∀ B ρ w xs, Sim B ng ρ H w → WF H → Free ρ H.next H'.next → vrels ρ args xs →
  Calls P f ⟨xs⟩ w (fun e w' => ∃ x ρ', e = .returned x ∧ vrel ρ' v x ∧ Chg B ng H.objs.get H.next H'.next ρ w H'.objs.get H'.fams.get ρ' w')

variable {B : Nat}

theorem store_run {H H' : AHeap} {w : World} (s : Sim B ng ρ H w) {t : TypeId} {p v : AVal} {pv vv : Value} (hp : vrel ρ p pv) (hv : vrel ρ v vv) (h : aStore P H t p v = some H') :
    ∃ w', (Instr.storeAt t pv vv).run P w = .ok () w' ∧ Chg B ng H.objs.get H.next H'.next ρ w H'.objs.get H'.fams.get ρ w' := by
  unfold aStore at h
  split at h
  · rename_i x off i hi
    split at h
    · rename_i hsz
      have hsz := beq_true hsz
      obtain ⟨l0, hl0, rfl⟩ := hp
      have hvc := vrel_cells hv
      have hvl := vrels_length hvc
      obtain ⟨l, C, e, hl, hb, hfit, hone, _, hchg⟩ := chg_write s h hvc
      rw [hl0] at hl; cases hl
      refine ⟨_, ?_, hchg⟩
      have hst := run_store_at (P := P) hb hfit hone
      have hs2 : vv.cells.size = i.size := by simp at hvl; omega
      simp [Instr.storeAt, Instr.sureAddr, storeVar, sizeOf, typeInfo, hi, hs2, hst]
    · cases h
  · cases h

theorem appendB_run {H H' : AHeap} {w : World} (s : Sim B ng ρ H w) (wf : WF H) {ts : Array TypeId} {l : List AVal} {ls : List Value} (hl : vrels ρ l ls) {v : AVal} (h : aAppendB P H ts.toList l = some (v, H')) (hfree : Free ρ H.next H'.next) (ty : TypeId) :
    ∃ x ρ' w', (Builtin.append_ ts ty ⟨ls⟩).run P w = .ok x w' ∧ vrel ρ' v x ∧ Chg B ng H.objs.get H.next H'.next ρ w H'.objs.get H'.fams.get ρ' w' := by
  unfold aAppendB at h
  split at h
  · rename_i t u sa xa hts
    obtain ⟨sv, ys, rfl, hsv, hys⟩ := vrels_cons.1 hl
    obtain ⟨xv, zs, rfl, hxv, hzs⟩ := vrels_cons.1 hys
    obtain rfl := vrels_nil.1 hzs
    have hts' : ts = #[t, u] := by apply Array.ext'; simpa using hts
    subst hts'
    split at h
    · rename_i e du ht hu
      split at h
      · rename_i i hi
        split at h
        · rename_i z hsz hz
          have hsz := beq_false hsz
          obtain ⟨i', zv, hi', hzv, hzr⟩ := zeroOf_sound hz
          rw [hi] at hi'; cases hi'
          have hzc := vrel_cells (hzr ρ)
          have hzl := vrels_length hzc
          simp only [Array.length_toList] at hzl
          split at h
          · -- zeros
            rename_i k k' m hzs'
            have hzs' := beq_true hzs'
            split at h
            · rename_i h1 h2
              have h1 : m * i.bytes ≤ 1099511627776 := ble_true h1
              have h2' : m ≤ 1099511627776 := ble_true (Bool.and_eq_true_iff.1 h2).1
              have h3 : 1 ≤ m := ble_true (Bool.and_eq_true_iff.1 h2).2
              cases hxv
              have hcells : vrels ρ (rep z.cells m) (Builtin.zeroCells zv.cells m).toList := vrels_rep hzc m
              exact aAppend_sound s wf ht hi hzv (by omega) (by omega) hsv hcells (by rw [rep_length, hzs'])
                (.inr ⟨k, k', hu, rfl, h2', h1, Nat.mul_ne_zero (by omega) hsz, rfl⟩) h hfree
            · cases h
          · rename_i d hzs'
            have hzs' := beq_true hzs'
            split at h
            · rename_i m hm
              split at h
              · rename_i new hnew
                obtain ⟨news, hn1, hn2, hn3⟩ := sliceCells_sim (P := P) s hxv hnew
                obtain ⟨b, c, he, hlm⟩ := lenOf_vrel hxv hm
                exact aAppend_sound s wf ht hi hzv (by omega) (by omega) hsv hn1 hn2 (.inl ⟨d, hu, hlm, hn3⟩) h hfree
              · cases h
            · cases h
          · cases h
        · cases h
      · cases h
    · cases h
  · cases h

theorem eOp_wp {call : ACall} (hc : CallOk P ng call) {H H' : AHeap} {w : World} (s : Sim B ng ρ H w) (wf : WF H) {T : Tr AVal} {a : Act} (hT : TRel ρ n T a.tmps) {o : Oper} {v : AVal} (h : eOp P ng call T H o.op = some (v, H'))
    (hfree : Free ρ H.next H'.next) {K : Act → World → Prop} {Q : Exit → Act → World → Prop}
    (hK : ∀ x ρ' w', vrel ρ' v x → Chg B ng H.objs.get H.next H'.next ρ w H'.objs.get H'.fams.get ρ' w' → K (a.put o.dst x) w') : o.wp P a w K Q := by
  have hg : Glob ng ρ := s.glob
  obtain ⟨dst, op, type, pos, after, guard⟩ := o
  cases op with
  | store t x y =>
    change eStore P H t (opd ng T x) (opd ng T y) = _ at h
    unfold eStore at h
    split at h
    · rename_i p q hx hy
      split at h
      · rename_i H1 hs
        cases h
        obtain ⟨w', hrun, hchg⟩ := store_run s (opd_sound hT hg hx) (opd_sound hT hg hy) hs
        have := hK undef ρ w' (vrel_undef ρ) hchg
        simp only [Oper.wp, execOp, Sem.run_bind, hrun, Result.andThen_ok, Sem.run_pure, Oper.upon]
        exact this
      · cases h
    · cases h
  | call c =>
    obtain ⟨callee, args, ts⟩ := c
    change eCallee P ng call T H ⟨callee, args, ts⟩ = _ at h
    unfold eCallee at h
    cases callee with
    | value f =>
      change eCall P call H (opd ng T f) (opds ng T args.toList) = _ at h
      unfold eCall at h
      split at h
      · rename_i g first cap l hf hl
        obtain ⟨fn, cd, h1, h2, h3, h4⟩ := aCallF_some h
        obtain ⟨xs, ys, he, hxs, hys⟩ := opd_sound hT hg hf
        have hargs := opds_sound hT hg hl
        have hall : vrels ρ (first ++ l ++ cap) (xs ++ args.toList.map a.eval ++ ys) := vrels_append (vrels_append hxs hargs) hys
        have hcall := hc g _ H v H' h4 B ρ w _ s wf hfree hall
        have harr : (⟨xs⟩ : Array Value) ++ args.map a.eval ++ ⟨ys⟩ = ⟨xs ++ args.toList.map a.eval ++ ys⟩ := by apply Array.ext'; simp
        have h3' : fn.name ≠ "runtime.NumGoroutine" := by simpa using h3
        have hrun : (execOp a.eval ⟨dst, .call ⟨.value f, args, ts⟩, type, pos, after, guard⟩).run P w = .ok (.enter g ⟨xs ++ args.toList.map a.eval ++ ys⟩) w := by
          simp only [execOp, resolve, he, Deferred.ofValue, Sem.run_bind, Sem.run_pure, Result.andThen_ok, invoke, callFunc, run_program, h1, harr]
          simp [h3', h2]
        simp only [Oper.wp, hrun, Oper.upon]
        refine hcall.mono fun e w' ⟨x, ρ', he', hr, hchg⟩ => ?_
        subst he'
        exact hK x ρ' w' hr hchg
      · cases h
    | builtin b =>
      cases b with
      | append =>
        change eApp P H ts.toList (opds ng T args.toList) = _ at h
        unfold eApp at h
        split at h
        · rename_i l hl
          obtain ⟨x, ρ', w', hrun, hr, hchg⟩ := appendB_run s wf (opds_sound hT hg hl) h hfree type
          have harr : args.map a.eval = ⟨args.toList.map a.eval⟩ := by apply Array.ext'; simp
          have := hK x ρ' w' hr hchg
          simp only [Oper.wp, execOp, resolve, Sem.run_bind, Sem.run_pure, Result.andThen_ok, invoke, Go.builtin, harr, hrun, Oper.upon]
          exact this
        · cases h
      | _ => cases h
    | invoke r m => cases h
  | _ => cases h

end Go.Abs

namespace Go.Abs
open Go
variable {P : Program} {ng n B : Nat} {ρ : Rho}

theorem aOp_wp {call : ACall} (hc : CallOk P ng call) {H H' : AHeap} {w : World} (s : Sim B ng ρ H w) (wf : WF H) {T : Tr AVal} {a : Act} (hT : TRel ρ n T a.tmps) {o : Oper} {v : AVal} (h : aOp P ng call T H o.op = some (v, H'))
    (hfree : Free ρ H.next H'.next) {K : Act → World → Prop} {Q : Exit → Act → World → Prop}
    (hK : ∀ x ρ' w', vrel ρ' v x → Chg B ng H.objs.get H.next H'.next ρ w H'.objs.get H'.fams.get ρ' w' → K (a.put o.dst x) w') : o.wp P a w K Q := by
  unfold aOp at h
  split at h
  · unfold withH at h
    split at h
    · rename_i v' hp
      cases h
      obtain ⟨x, hx, hrun⟩ := pOp_sound hT s.glob hp
      have := hK x ρ w hx (Chg.refl s _ _)
      simp only [Oper.wp, hrun w, Oper.upon]
      exact this
    · cases h
  · unfold withH at h
    split at h
    · rename_i v' hp
      cases h
      obtain ⟨x, hx, hrun⟩ := rOp_sound s hT hp
      have := hK x ρ w hx (Chg.refl s _ _)
      simp only [Oper.wp, hrun, Oper.upon]
      exact this
    · cases h
  · unfold nDone at h
    split at h
    · rename_i cs sz m hp
      cases h
      obtain ⟨C, e, hrel, hrun⟩ := nOp_sound hT s.glob hp
      have hid : ρ H.next = none := hfree H.next (Nat.le_refl _) (Nat.lt_succ_self _)
      have hCs : C.size = cs.length := by have := vrels_length hrel; simpa using this
      have hchg := chg_alloc (w' := w.alloc (.cells C e)) (e := e) s hid (fun v r hv => ⟨Nat.ne_of_lt (wf v r hv).1, Nat.ne_of_lt (wf v r hv).2⟩) cs true sz cs.length hCs (Nat.le_refl _) (fun _ => rfl)
        (fun i c hc => by obtain ⟨x, hx, hr⟩ := vrels_get hrel hc; exact ⟨x, by simpa using hx, hr⟩) rfl rfl rfl rfl
      have hv : vrel (upd ρ H.next (some ⟨w.heap.size, 0, cs.length, sz⟩)) (newVal H.next m) (newV w.heap.size m (cs.length / sz)) := by
        cases m with
        | none => exact ⟨_, upd_same _ _ _, rfl⟩
        | some k => exact ⟨_, upd_same _ _ _, rfl⟩
      have := hK _ _ _ hv (by
        show Chg B ng H.objs.get H.next (H.next + 1) ρ w (H.objs.set H.next _).get (H.fams.set H.next _).get _ _
        rw [get_set_upd, get_set_upd]; exact hchg)
      simp only [Oper.wp, hrun w, Oper.upon]
      exact this
    · cases h
  · exact eOp_wp hc s wf hT h hfree hK

theorem wanted_eq {ops : Array Oper} {T : Tr AVal} {a : Act} (hT : TRel ρ n T a.tmps) (o : Oper) : wantedA ops.toList T o = Region.wanted o (yielded ops a.tmps) := by
  unfold wantedA Region.wanted
  cases hg : o.guard with
  | none => rfl
  | some gw =>
    obtain ⟨j, want⟩ := gw
    simp only []
    unfold yielded
    rw [Array.getElem?_toList]
    cases hj : ops[j]? with
    | none => rfl
    | some oj =>
      simp only [Option.bind_some]
      cases hd : oj.dst with
      | none => rfl
      | some d =>
        simp only [Option.bind_some]
        have hget := hT.get d
        rw [Array.getD_eq_getD_getElem?] at hget
        cases ht : a.tmps[d]? with
        | none =>
          rw [ht] at hget
          cases hv : getT T d with
          | bool b => rw [hv] at hget; have hget : undef = .bool b := hget; cases hget
          | _ => rfl
        | some x =>
          rw [ht] at hget
          simp only [Option.getD_some] at hget
          cases hv : getT T d with
          | bool b => rw [hv] at hget; have hget : x = .bool b := hget; subst hget; simp
          | int _ _ => rw [hv] at hget; cases hget; simp
          | str _ => rw [hv] at hget; cases hget; simp
          | nilPtr => rw [hv] at hget; cases hget; simp
          | ptr _ _ => rw [hv] at hget; obtain ⟨l, _, rfl⟩ := hget; simp
          | nilSlice => rw [hv] at hget; cases hget; simp
          | slice _ _ _ lim => rw [hv] at hget; cases lim <;> (obtain ⟨l, _, rfl⟩ := hget; simp)
          | emptySl => rw [hv] at hget; obtain ⟨l, _, rfl⟩ := hget; simp
          | nilFunc => rw [hv] at hget; cases hget; simp
          | func _ _ _ => rw [hv] at hget; obtain ⟨_, _, rfl, _, _⟩ := hget; simp
          | agg _ => rw [hv] at hget; obtain ⟨_, rfl, _⟩ := hget; simp
          | tuple _ => rw [hv] at hget; obtain ⟨_, rfl, _⟩ := hget; simp

theorem put_defers (a : Act) (d : Option Tmp) (v : Value) : (a.put d v).defers = a.defers := by cases d <;> rfl

theorem aOps_cons (call : ACall) (ops : List Oper) (o : Oper) (l : List Oper) (T : Tr AVal) (H : AHeap) :
    aOps P ng call n ops (o :: l) T H = if wantedA ops T o then (match aOp P ng call T H o.op with | some r => aOps P ng call n ops l (setT n T o.dst r.1) r.2 | none => none) else aOps P ng call n ops l (setT n T o.dst (.tuple [])) H := by
  show Bool.rec (motive := fun _ => Option (Tr AVal × AHeap)) (aOps P ng call n ops l (setT n T o.dst (.tuple [])) H)
      (Option.rec (motive := fun _ => Option (Tr AVal × AHeap)) none (fun r => aOps P ng call n ops l (setT n T o.dst r.1) r.2) (aOp P ng call T H o.op)) (wantedA ops T o) = _
  cases wantedA ops T o with
  | false => rfl
  | true => cases aOp P ng call T H o.op <;> rfl

theorem aOps_grow {call : ACall} (hc : CallGrow call) {ops : List Oper} : ∀ {l : List Oper} {T T' : Tr AVal} {H H' : AHeap}, aOps P ng call n ops l T H = some (T', H') → Grow H H'
  | [], T, T', H, H', h => by cases h; exact Grow.refl _
  | o :: l, T, T', H, H', h => by
    rw [aOps_cons] at h
    split at h
    · split at h
      · rename_i r hr
        obtain ⟨v, H1⟩ := r
        exact (aOp_grow hc hr).trans (aOps_grow hc h)
      · cases h
    · exact aOps_grow hc h

theorem Free.sub {lo hi lo' hi' : Nat} (h : Free ρ lo hi) (h1 : lo ≤ lo') (h2 : hi' ≤ hi) : Free ρ lo' hi' := fun v a b => h v (by omega) (by omega)
theorem Free.chg {obj obj' : Nat → Option Row} {fam' : Nat → Option (List Nat)} {lo mi hi : Nat} {ρ' : Rho} {w w' : World} (h : Free ρ lo hi) (c : Chg B ng obj lo mi ρ w obj' fam' ρ' w') (h1 : lo ≤ mi) : Free ρ' mi hi := fun v a b => by
  rw [c.ext v (fun k => by omega)]; exact h v (by omega) b

theorem aOps_wp {call : ACall} (hc : CallOk P ng call) (hcg : CallGrow call) {ops : Array Oper} {Q : Exit → Act → World → Prop} : ∀ (l : List Oper) (k : Nat) (T T' : Tr AVal) (H H' : AHeap) (ρ : Rho) (a : Act) (w : World), ops.toList.drop k = l →
    aOps P ng call n ops.toList l T H = some (T', H') → Sim B ng ρ H w → WF H → Free ρ H.next H'.next → TRel ρ n T a.tmps → a.defers = [] →
    (∀ a' w' ρ', TRel ρ' n T' a'.tmps → a'.defers = [] → Chg B ng H.objs.get H.next H'.next ρ w H'.objs.get H'.fams.get ρ' w' → Q .normal a' w') → wpOps P ops Q (List.range' k l.length) a w
  | [], k, T, T', H, H', ρ, a, w, _, h, s, wf, hf, hT, hd, hQ => by
    cases h
    exact hQ a w ρ hT hd (Chg.refl s _ _)
  | o :: l, k, T, T', H, H', ρ, a, w, hl, h, s, wf, hf, hT, hd, hQ => by
    have ho : ops[k]? = some o := by
      have : (ops.toList.drop k)[0]? = some o := by rw [hl]; rfl
      rw [List.getElem?_drop] at this; simpa using this
    have hl' : ops.toList.drop (k + 1) = l := by rw [← List.drop_drop, hl]; rfl
    rw [aOps_cons] at h
    rw [List.length_cons, List.range'_succ, wpOps_cons]
    unfold wpOp
    simp only [ho]
    rw [← wanted_eq hT o]
    split at h
    · rename_i hw
      rw [if_pos hw]
      left
      split at h
      · rename_i r hr
        obtain ⟨v, H1⟩ := r
        have g1 := aOp_grow hcg hr
        have g2 := aOps_grow hcg h
        refine aOp_wp hc s wf hT hr (hf.sub (Nat.le_refl _) g2.1) (fun x ρ' w' hx hchg => ?_)
        have hext := hchg.exts (hf.sub (Nat.le_refl _) g2.1)
        exact aOps_wp hc hcg l (k + 1) _ T' H1 H' ρ' (a.put o.dst x) w' hl' h hchg.sim (g1.2 wf) (hf.chg hchg g1.1) ((hT.mono hext).put o.dst hx) (by rw [put_defers]; exact hd)
          (fun a' w'' ρ'' hT' hd' hchg' => hQ a' w'' ρ'' hT' hd' (hchg.trans hchg' g1.1 g2.1))
      · cases h
    · rename_i hw
      rw [if_neg hw]
      exact aOps_wp hc hcg l (k + 1) _ T' H H' ρ (a.put o.dst undef) w hl' h s wf hf (hT.put o.dst (vrel_undef ρ)) (by rw [put_defers]; exact hd) hQ

end Go.Abs
