/- Rules for reasoning about the abstract machine at values that are variables. -/
import Derived.Test.YtanllkglpjjfbaaGreatDoorMach4
set_option linter.unusedVariables false
set_option linter.unusedSimpArgs false
namespace Go.Abs
open Go
variable {P : Program} {ng n : Nat} {call : ACall}

/-- more fuel gives the same -/
theorem evalCode_more : ∀ (m : Nat) (c : Code) (T : Tr AVal) (H : AHeap) (r : AState), evalCode P ng call n m c T H = some r → evalCode P ng call n (m + 1) c T H = some r := by
  intro m
  induction m with
  | zero => intro c T H r h; cases h
  | succ m ih =>
    intro c T H r h
    cases c with
    | seq a b =>
      have h : andThen (evalCode P ng call n m b) (evalCode P ng call n m a T H) = some r := h
      show andThen (evalCode P ng call n (m + 1) b) (evalCode P ng call n (m + 1) a T H) = some r
      cases ha : evalCode P ng call n m a T H with
      | none => rw [ha] at h; cases h
      | some s =>
        rw [ha] at h
        rw [ih a T H s ha]
        obtain ⟨e, T1, H1⟩ := s
        cases e with
        | normal => exact ih b T1 H1 r h
        | exit id => exact h
        | ret => exact h
    | cond x a b =>
      have h : onBool (evalCode P ng call n m a T H) (evalCode P ng call n m b T H) (opd ng T x) = some r := h
      show onBool (evalCode P ng call n (m + 1) a T H) (evalCode P ng call n (m + 1) b T H) (opd ng T x) = some r
      generalize opd ng T x = o at h ⊢
      unfold onBool at h ⊢
      split at h
      · exact ih a T H r h
      · exact ih b T H r h
      · cases h
    | block id a =>
      have h : leaveBlock id (evalCode P ng call n m a T H) = some r := h
      show leaveBlock id (evalCode P ng call n (m + 1) a T H) = some r
      cases ha : evalCode P ng call n m a T H with
      | none => rw [ha] at h; cases h
      | some s => rw [ha] at h; rw [ih a T H s ha]; exact h
    | loop a =>
      have h : andThen (evalCode P ng call n m (.loop a)) (evalCode P ng call n m a T H) = some r := h
      show andThen (evalCode P ng call n (m + 1) (.loop a)) (evalCode P ng call n (m + 1) a T H) = some r
      cases ha : evalCode P ng call n m a T H with
      | none => rw [ha] at h; cases h
      | some s =>
        rw [ha] at h
        rw [ih a T H s ha]
        obtain ⟨e, T1, H1⟩ := s
        cases e with
        | normal => exact ih (.loop a) T1 H1 r h
        | exit id => exact h
        | ret => exact h
    | skip => exact h
    | region id ops d => exact h
    | exit id => exact h
    | ret => exact h
    | _ => cases h

theorem evalCode_le {m k : Nat} (hk : m ≤ k) {c : Code} {T : Tr AVal} {H : AHeap} {r : AState} (h : evalCode P ng call n m c T H = some r) : evalCode P ng call n k c T H = some r := by
  obtain ⟨d, rfl⟩ := Nat.exists_eq_add_of_le hk
  clear hk
  induction d with
  | zero => exact h
  | succ d ih => exact evalCode_more _ c T H r ih

/-- the code ends so that Q holds -/
def W (P : Program) (ng : Nat) (call : ACall) (n : Nat) (c : Code) (T : Tr AVal) (H : AHeap) (Q : AExit → Tr AVal → AHeap → Prop) : Prop :=
  ∃ m e T' H', evalCode P ng call n m c T H = some (e, T', H') ∧ Q e T' H'

def seqQ (P : Program) (ng : Nat) (call : ACall) (n : Nat) (b : Code) (Q : AExit → Tr AVal → AHeap → Prop) : AExit → Tr AVal → AHeap → Prop
  | .normal, T, H => W P ng call n b T H Q
  | e, T, H => Q e T H

def blockQ (id : Nat) (Q : AExit → Tr AVal → AHeap → Prop) : AExit → Tr AVal → AHeap → Prop
  | .exit j, T, H => if j = id then Q .normal T H else Q (.exit j) T H
  | e, T, H => Q e T H

variable {T : Tr AVal} {H : AHeap} {Q : AExit → Tr AVal → AHeap → Prop}

theorem W.mono {c : Code} {R : AExit → Tr AVal → AHeap → Prop} (h : W P ng call n c T H R) (k : ∀ e T H, R e T H → Q e T H) : W P ng call n c T H Q := by
  obtain ⟨m, e, T', H', h1, h2⟩ := h
  exact ⟨m, e, T', H', h1, k _ _ _ h2⟩

theorem W_skip (h : Q .normal T H) : W P ng call n .skip T H Q := ⟨1, _, _, _, rfl, h⟩
theorem W_ret (h : Q .ret T H) : W P ng call n .ret T H Q := ⟨1, _, _, _, rfl, h⟩
theorem W_exit {id : Nat} (h : Q (.exit id) T H) : W P ng call n (.exit id) T H Q := ⟨1, _, _, _, rfl, h⟩
theorem W_region {id : Nat} {ops : Array Oper} {d : Bool} {T' : Tr AVal} {H' : AHeap} (h : aRegion P ng call n ops T H d = some (T', H')) (hQ : Q .normal T' H') : W P ng call n (.region id ops d) T H Q :=
  ⟨1, _, _, _, show asNormal (aRegion P ng call n ops T H d) = _ by rw [h]; rfl, hQ⟩
theorem W_seq {a b : Code} (h : W P ng call n a T H (seqQ P ng call n b Q)) : W P ng call n (.seq a b) T H Q := by
  obtain ⟨m, e, T', H', h1, h2⟩ := h
  cases e with
  | normal =>
    obtain ⟨k, e2, T2, H2, h3, h4⟩ := h2
    refine ⟨max m k + 1, e2, T2, H2, ?_, h4⟩
    show andThen (evalCode P ng call n (max m k) b) (evalCode P ng call n (max m k) a T H) = _
    rw [evalCode_le (Nat.le_max_left m k) h1]
    exact evalCode_le (Nat.le_max_right m k) h3
  | exit id =>
    refine ⟨m + 1, _, _, _, ?_, h2⟩
    show andThen (evalCode P ng call n m b) (evalCode P ng call n m a T H) = _
    rw [h1]; rfl
  | ret =>
    refine ⟨m + 1, _, _, _, ?_, h2⟩
    show andThen (evalCode P ng call n m b) (evalCode P ng call n m a T H) = _
    rw [h1]; rfl
theorem W_loop {a : Code} (h : W P ng call n a T H (seqQ P ng call n (.loop a) Q)) : W P ng call n (.loop a) T H Q := by
  obtain ⟨m, e, T', H', h1, h2⟩ := h
  cases e with
  | normal =>
    obtain ⟨k, e2, T2, H2, h3, h4⟩ := h2
    refine ⟨max m k + 1, e2, T2, H2, ?_, h4⟩
    show andThen (evalCode P ng call n (max m k) (.loop a)) (evalCode P ng call n (max m k) a T H) = _
    rw [evalCode_le (Nat.le_max_left m k) h1]
    exact evalCode_le (Nat.le_max_right m k) h3
  | exit id =>
    refine ⟨m + 1, _, _, _, ?_, h2⟩
    show andThen (evalCode P ng call n m (.loop a)) (evalCode P ng call n m a T H) = _
    rw [h1]; rfl
  | ret =>
    refine ⟨m + 1, _, _, _, ?_, h2⟩
    show andThen (evalCode P ng call n m (.loop a)) (evalCode P ng call n m a T H) = _
    rw [h1]; rfl
theorem W_block {id : Nat} {a : Code} (h : W P ng call n a T H (blockQ id Q)) : W P ng call n (.block id a) T H Q := by
  obtain ⟨m, e, T', H', h1, h2⟩ := h
  cases e with
  | normal =>
    refine ⟨m + 1, .normal, T', H', ?_, h2⟩
    show leaveBlock id (evalCode P ng call n m a T H) = _
    rw [h1]; rfl
  | ret =>
    refine ⟨m + 1, .ret, T', H', ?_, h2⟩
    show leaveBlock id (evalCode P ng call n m a T H) = _
    rw [h1]; rfl
  | exit j =>
    have h2 : if j = id then Q .normal T' H' else Q (.exit j) T' H' := h2
    by_cases hj : j = id
    · rw [if_pos hj] at h2
      refine ⟨m + 1, .normal, T', H', ?_, h2⟩
      show leaveBlock id (evalCode P ng call n m a T H) = _
      rw [h1]
      simp only [leaveBlock]
      rw [hj, Nat.beq_refl]
    · rw [if_neg hj] at h2
      refine ⟨m + 1, .exit j, T', H', ?_, h2⟩
      show leaveBlock id (evalCode P ng call n m a T H) = _
      rw [h1]
      simp only [leaveBlock]
      have : Nat.beq j id = false := by cases e : Nat.beq j id with | false => rfl | true => exact absurd (beq_true e) hj
      rw [this]
theorem W_cond {x : Operand} {a b : Code} {v : Bool} (hx : opd ng T x = some (.bool v)) (ht : v = true → W P ng call n a T H Q) (hf : v = false → W P ng call n b T H Q) : W P ng call n (.cond x a b) T H Q := by
  cases v with
  | true =>
    obtain ⟨m, e, T', H', h1, h2⟩ := ht rfl
    refine ⟨m + 1, e, T', H', ?_, h2⟩
    show onBool (evalCode P ng call n m a T H) (evalCode P ng call n m b T H) (opd ng T x) = _
    rw [hx]; exact h1
  | false =>
    obtain ⟨m, e, T', H', h1, h2⟩ := hf rfl
    refine ⟨m + 1, e, T', H', ?_, h2⟩
    show onBool (evalCode P ng call n m a T H) (evalCode P ng call n m b T H) (opd ng T x) = _
    rw [hx]; exact h1

/-- what a function's body gives -/
def FnRes (P : Program) (ng : Nat) (call : ACall) (f : FuncId) (args : List AVal) (H : AHeap) (r : AVal × AHeap) : Prop :=
  ∃ fn c m e T l, P.funcs[f]? = some fn ∧ fn.body = some c ∧ evalCode P ng call (args.length + (fn.ntmps - args.length)) m c (setArgs args 0 .nil) H = some (e, T, r.2) ∧ (∀ id, e ≠ .exit id) ∧
    aResults P r.2.objs.get T fn.results.toList = some l ∧ r.1 = packA l

theorem FnRes.unique {f : FuncId} {args : List AVal} {H : AHeap} {r s : AVal × AHeap} (h : FnRes P ng call f args H r) (k : FnRes P ng call f args H s) : r = s := by
  obtain ⟨fn, c, m, e, T, l, h1, h2, h3, _, h5, h6⟩ := h
  obtain ⟨fn', c', m', e', T', l', k1, k2, k3, _, k5, k6⟩ := k
  rw [h1] at k1; cases k1
  rw [h2] at k2; cases k2
  have a := evalCode_le (Nat.le_max_left m m') h3
  have b := evalCode_le (Nat.le_max_right m m') k3
  rw [a] at b
  cases r; cases s
  simp only [Option.some.injEq, Prod.mk.injEq] at b
  obtain ⟨_, rfl, rfl⟩ := b
  simp only at h5 k5 h6 k6
  rw [h5] at k5
  cases k5
  rw [h6, k6]

open Classical in
/-- calls by their bodies, over calls that are known; some are known beforehand -/
noncomputable def stepCall (P : Program) (ng : Nat) (base call : ACall) : ACall := fun f args H =>
  match base f args H with
  | some r => some r
  | none => if h : ∃ r, FnRes P ng call f args H r then some (Classical.choose h) else none

theorem stepCall_base {base : ACall} {f : FuncId} {args : List AVal} {H : AHeap} {r : AVal × AHeap} (h : base f args H = some r) : stepCall P ng base call f args H = some r := by
  unfold stepCall; rw [h]
theorem stepCall_body {base : ACall} {f : FuncId} {args : List AVal} {H : AHeap} {r : AVal × AHeap} (h0 : base f args H = none) (h : FnRes P ng call f args H r) : stepCall P ng base call f args H = some r := by
  unfold stepCall
  rw [h0]
  have hex : ∃ r, FnRes P ng call f args H r := ⟨r, h⟩
  rw [dif_pos hex, FnRes.unique (Classical.choose_spec hex) h]
theorem stepCall_some {base : ACall} {f : FuncId} {args : List AVal} {H : AHeap} {r : AVal × AHeap} (h : stepCall P ng base call f args H = some r) : base f args H = some r ∨ FnRes P ng call f args H r := by
  unfold stepCall at h
  split at h
  · rename_i hb; left; rw [hb]; exact h
  · split at h
    · rename_i hex
      right
      cases h
      exact Classical.choose_spec hex
    · cases h

theorem fnRes_grow (hg : CallGrow call) {f : FuncId} {args : List AVal} {H : AHeap} {r : AVal × AHeap} (h : FnRes P ng call f args H r) : Grow H r.2 := by
  obtain ⟨fn, c, m, e, T, l, h1, h2, h3, _, h5, h6⟩ := h
  exact evalCode_grow hg _ c _ H e T r.2 h3

theorem stepCall_grow {base : ACall} (hb : CallGrow base) (hg : CallGrow call) : CallGrow (stepCall P ng base call) := fun f args H v H' h => by
  rcases stepCall_some h with h | h
  · exact hb f args H v H' h
  · exact fnRes_grow hg h

theorem fnRes_ok (hok : CallOk P ng call) (hg : CallGrow call) (hst : StaticP P) {f : FuncId} {args : List AVal} {H H' : AHeap} {v : AVal} (h : FnRes P ng call f args H (v, H')) : ∀ B ρ w xs, Sim B ng ρ H w → WF H → Free ρ H.next H'.next → vrels ρ args xs →
    Calls P f ⟨xs⟩ w (fun e w' => ∃ x ρ', e = .returned x ∧ vrel ρ' v x ∧ Chg B ng H.objs.get H.next H'.next ρ w H'.objs.get H'.fams.get ρ' w') := by
  intro B ρ w xs s wf hfree hargs
  obtain ⟨fn, c, m, e, T, l, hf, hb, hev, hne, hres, hv⟩ := h
  obtain rfl : v = packA l := hv
  have hlen : xs.length = args.length := vrels_length hargs
  refine calls_of_wp hf hb ?_
  have hsz : (⟨xs⟩ : Array Value).size = args.length := by simpa using hlen
  rw [hsz]
  refine (evalCode_wp (B := B) hok hg m).1 c _ H e T H' hev (hst f fn c hf hb) ρ _ w _ s wf hfree (TRel_args hargs _) rfl ?_
  intro a' w' ρ' hT hd hc
  obtain ⟨vs, hvs, hrun⟩ := aResults_run (P := P) hc.sim hT hres
  have hr := results_run hrun
  have hval : vrel ρ' (packA l) (packV vs) := by
    clear hr hrun hres
    match l, hvs with
    | [], hvs => obtain rfl := vrels_nil.1 hvs; exact ⟨[], rfl, rfl⟩
    | [x], hvs =>
      obtain ⟨y, ys, rfl, hy, hys⟩ := vrels_cons.1 hvs
      obtain rfl := vrels_nil.1 hys
      exact hy
    | x :: y :: l, hvs =>
      obtain ⟨x', ys, rfl, hx, hys⟩ := vrels_cons.1 hvs
      obtain ⟨y', zs, rfl, hy, hzs⟩ := vrels_cons.1 hys
      exact ⟨_, rfl, hvs⟩
  have hpost : a'.defers = [] ∧ ∃ v, (results fn a'.tmps).run P w' = .ok v w' ∧ ∃ x ρ'', Ending.returned v = .returned x ∧ vrel ρ'' (packA l) x ∧ Chg B ng H.objs.get H.next H'.next ρ w H'.objs.get H'.fams.get ρ'' w' :=
    ⟨hd, _, hr, _, ρ', rfl, hval, hc⟩
  cases e with
  | normal => exact hpost
  | ret => exact hpost
  | exit id => exact absurd rfl (hne id)

theorem stepCall_ok {base : ACall} (hb : CallOk P ng base) (hok : CallOk P ng call) (hg : CallGrow call) (hst : StaticP P) : CallOk P ng (stepCall P ng base call) := fun f args H v H' h => by
  rcases stepCall_some h with h | h
  · exact hb f args H v H' h
  · exact fnRes_ok hok hg hst h

/-- a function's result by the rules -/
theorem fnRes_of_W {f : FuncId} {fn : Func} {c : Code} {args : List AVal} {H : AHeap} {R : AVal × AHeap → Prop} (hf : P.funcs[f]? = some fn) (hb : fn.body = some c)
    (h : W P ng call (args.length + (fn.ntmps - args.length)) c (setArgs args 0 .nil) H (fun e T H' => (∀ id, e ≠ .exit id) ∧ ∃ l, aResults P H'.objs.get T fn.results.toList = some l ∧ R (packA l, H'))) :
    ∃ r, FnRes P ng call f args H r ∧ R r := by
  obtain ⟨m, e, T', H', h1, h2, l, h3, h4⟩ := h
  exact ⟨_, ⟨fn, c, m, e, T', l, hf, hb, h1, h2, h3, rfl⟩, h4⟩

end Go.Abs

namespace Go.Abs
open Go
variable {P : Program} {ng n : Nat} {call : ACall}

theorem aOps_nil {ops : List Oper} {T : Tr AVal} {H : AHeap} : aOps P ng call n ops [] T H = some (T, H) := rfl
theorem aOps_cons2 {ops : List Oper} {o : Oper} {l : List Oper} {T : Tr AVal} {H : AHeap} : aOps P ng call n ops (o :: l) T H =
    if wantedA ops T o = true then (match aOp P ng call T H o.op with | some r => aOps P ng call n ops l (setT n T o.dst r.1) r.2 | none => none) else aOps P ng call n ops l (setT n T o.dst (.tuple [])) H := by
  show Bool.rec (motive := fun _ => Option (Tr AVal × AHeap)) (aOps P ng call n ops l (setT n T o.dst (.tuple [])) H)
      (Option.rec (motive := fun _ => Option (Tr AVal × AHeap)) none (fun r => aOps P ng call n ops l (setT n T o.dst r.1) r.2) (aOp P ng call T H o.op)) (wantedA ops T o) = _
  cases wantedA ops T o with
  | false => rfl
  | true => cases aOp P ng call T H o.op <;> rfl
theorem aRegion_plain {ops : Array Oper} {T : Tr AVal} {H : AHeap} : aRegion P ng call n ops T H false = aOps P ng call n ops.toList ops.toList T H := rfl
theorem wanted_none {ops : List Oper} {T : Tr AVal} {o : Oper} (h : o.guard = none) : wantedA ops T o = true := by unfold wantedA; rw [h]

theorem getT_setT2 (T : Tr AVal) (d : Nat) (v : AVal) (i : Nat) : getT (setT n T (some d) v) i = if d = i ∧ d < n then v else getT T i := by
  rw [setT_some]
  by_cases hd : d < n
  · rw [if_pos hd, getT_eq, Tr.get_set]
    by_cases e : d = i
    · rw [if_pos e, if_pos ⟨e, hd⟩]; rfl
    · rw [if_neg e, if_neg (fun h => e h.1), ← getT_eq]
  · rw [if_neg hd, if_neg (fun h => hd h.2)]
theorem setT_no (T : Tr AVal) (v : AVal) : setT n T none v = T := rfl

theorem opd_tmp {T : Tr AVal} {t : Nat} : opd ng T (.tmp t) = some (getT T t) := rfl
theorem opd_const {T : Tr AVal} {v : Value} : opd ng T (.const v) = ofValue v := rfl
theorem opd_func {T : Tr AVal} {f : FuncId} : opd ng T (.func f) = some (.func f [] []) := rfl
theorem opds_nil {T : Tr AVal} : opds ng T [] = some [] := rfl
theorem opds_cons2 {T : Tr AVal} {x : Operand} {l : List Operand} : opds ng T (x :: l) = consO (opd ng T x) (opds ng T l) := rfl
theorem consO_some {a : AVal} {l : List AVal} : consO (some a) (some l) = some (a :: l) := rfl


def loopQ (I : Nat → Tr AVal → AHeap → Prop) (k : Nat) (Q : AExit → Tr AVal → AHeap → Prop) : AExit → Tr AVal → AHeap → Prop
  | .normal, T, H => ∃ j, j < k ∧ I j T H
  | e, T, H => Q e T H
theorem W_loop_ind {a : Code} {Q : AExit → Tr AVal → AHeap → Prop} (I : Nat → Tr AVal → AHeap → Prop) (step : ∀ k T H, I k T H → W P ng call n a T H (loopQ I k Q)) : ∀ (k : Nat) (T : Tr AVal) (H : AHeap), I k T H → W P ng call n (.loop a) T H Q := by
  intro k
  induction k using Nat.strongRecOn with
  | ind k ih =>
    intro T H hI
    refine W_loop ((step k T H hI).mono fun e T' H' h => ?_)
    cases e with
    | normal => obtain ⟨j, hj, hI'⟩ := h; exact ih j hj T' H' hI'
    | exit id => exact h
    | ret => exact h

end Go.Abs

namespace Go.Abs
open Go
variable {P : Program} {ng n : Nat} {call : ACall}

/-- numbers -/
def InK (a : Int) : Prop := -9223372036854775808 ≤ a ∧ a < 9223372036854775808

theorem wrap_in {a : Int} (h : InK a) : IntKind.wrap .i64 a = a := by
  obtain ⟨h1, h2⟩ := h
  have e : IntKind.wrap .i64 a = (if (true && decide (a % 18446744073709551616 ≥ 9223372036854775808)) = true then a % 18446744073709551616 - 18446744073709551616 else a % 18446744073709551616) := rfl
  rw [e]
  split
  · rename_i h; simp at h; omega
  · rename_i h; simp at h; omega

theorem aBin_add {t : TypeId} {a b : Int} (h : InK (a + b)) : aBin P .add t (.int .i64 a) (.int .i64 b) = some (.int .i64 (a + b)) := by
  show some (AVal.int .i64 (IntKind.wrap .i64 (a + b))) = _
  rw [wrap_in h]
theorem aBin_lss {t : TypeId} {k : IntKind} {a b : Int} : aBin P .lss t (.int k a) (.int k b) = some (.bool (decide (a < b))) := by cases k <;> rfl
theorem aBin_leq {t : TypeId} {k : IntKind} {a b : Int} : aBin P .leq t (.int k a) (.int k b) = some (.bool (decide (a ≤ b))) := by cases k <;> rfl
theorem aBin_gtr {t : TypeId} {k : IntKind} {a b : Int} : aBin P .gtr t (.int k a) (.int k b) = some (.bool (decide (a > b))) := by cases k <;> rfl
theorem aBin_geq {t : TypeId} {k : IntKind} {a b : Int} : aBin P .geq t (.int k a) (.int k b) = some (.bool (decide (a ≥ b))) := by cases k <;> rfl
theorem aBin_eql {t : TypeId} {k : IntKind} {a b : Int} : aBin P .eql t (.int k a) (.int k b) = some (.bool (decide (a = b))) := by cases k <;> rfl
theorem aBin_neq {t : TypeId} {k : IntKind} {a b : Int} : aBin P .neq t (.int k a) (.int k b) = some (.bool (!decide (a = b))) := by cases k <;> rfl
theorem aUn_not {b : Bool} : aUn .not (.bool b) = some (.bool !b) := rfl


/-! ## heaps -/
structure Good (H : AHeap) : Prop where
  wf : WF H
  fam : ∀ f mem u r, H.fams.get f = some mem → u ∈ mem → H.objs.get u = some r → r.fam = f
  mem : ∀ f mem, H.fams.get f = some mem → f < H.next ∧ ∀ u ∈ mem, u < H.next

/-- rows of other families stay, and those families -/
structure Fr (fm : Option Nat) (H H' : AHeap) : Prop where
  row : ∀ u r, H.objs.get u = some r → some r.fam ≠ fm → H'.objs.get u = some r
  fams : ∀ f mem, H.fams.get f = some mem → some f ≠ fm → H'.fams.get f = some mem
  next : H.next ≤ H'.next

theorem Fr.refl (fm : Option Nat) (H : AHeap) : Fr fm H H := ⟨fun _ _ h _ => h, fun _ _ h _ => h, Nat.le_refl _⟩
theorem Fr.trans {fm : Option Nat} {A B C : AHeap} (h : Fr fm A B) (k : Fr fm B C) : Fr fm A C :=
  ⟨fun u r e ne => k.row u r (h.row u r e ne) ne, fun f m e ne => k.fams f m (h.fams f m e ne) ne, Nat.le_trans h.next k.next⟩
/-- nothing that was there changes -/
theorem Fr.any {fm : Option Nat} {H H' : AHeap} (h : Fr Option.none H H') : Fr fm H H' := ⟨fun u r e _ => h.row u r e (by simp), fun f m e _ => h.fams f m e (by simp), h.next⟩
/-- a family that was not there is none -/
theorem Fr.fresh {f : Nat} {H H' : AHeap} (h : Fr (some f) H H') (g : Good H) (hf : H.next ≤ f) : Fr none H H' :=
  ⟨fun u r e _ => h.row u r e (by have := (g.wf u r e).2; simp; omega), fun k m e _ => h.fams k m e (by have := (g.mem k m e).1; simp; omega), h.next⟩

structure Own (H : AHeap) (v : Nat) (r : Row) : Prop where
  row : H.objs.get v = some r
  ro : r.ro = false
  mem : ∃ mem, H.fams.get r.fam = some mem

theorem Own.keep {fm : Option Nat} {H H' : AHeap} {v : Nat} {r : Row} (h : Own H v r) (k : Fr fm H H') (ne : some r.fam ≠ fm) : Own H' v r :=
  ⟨k.row v r h.row ne, h.ro, let ⟨m, e⟩ := h.mem; ⟨m, k.fams _ _ e ne⟩⟩

theorem good_alloc {H : AHeap} (g : Good H) (cells : List AVal) (exact : Bool) (sz : Nat) : Good (alloc H cells exact sz) := by
  refine ⟨fun v r h => ?_, fun f mem u r h1 h2 h3 => ?_, fun f mem h => ?_⟩
  · simp only [alloc] at h ⊢
    rw [Tr.get_set] at h
    split at h
    · rename_i e; cases h; simp only; omega
    · have := g.wf v r h; omega
  · simp only [alloc] at h1 h3
    rw [Tr.get_set] at h1 h3
    split at h1
    · rename_i e; cases h1
      simp only [List.mem_singleton] at h2
      subst h2
      rw [if_pos rfl] at h3
      cases h3; exact e
    · have hm := (g.mem f mem h1).2 u h2
      rw [if_neg (by omega)] at h3
      exact g.fam f mem u r h1 h2 h3
  · simp only [alloc] at h ⊢
    rw [Tr.get_set] at h
    split at h
    · rename_i e; cases h
      refine ⟨by omega, fun u hu => ?_⟩
      simp only [List.mem_singleton] at hu
      omega
    · obtain ⟨h1, h2⟩ := g.mem f mem h
      exact ⟨by omega, fun u hu => by have := h2 u hu; omega⟩

theorem fr_alloc {H : AHeap} (g : Good H) (cells : List AVal) (exact : Bool) (sz : Nat) : Fr none H (alloc H cells exact sz) := by
  refine ⟨fun u r h _ => ?_, fun f mem h _ => ?_, by simp [alloc]⟩
  · have := (g.wf u r h).1
    simp only [alloc]
    rw [Tr.get_set_other _ (by omega)]; exact h
  · have := (g.mem f mem h).1
    simp only [alloc]
    rw [Tr.get_set_other _ (by omega)]; exact h

theorem own_alloc (H : AHeap) (cells : List AVal) (exact : Bool) (sz : Nat) : Own (alloc H cells exact sz) H.next ⟨cells, H.next, 0, exact, false, sz⟩ :=
  ⟨by simp only [alloc]; rw [Tr.get_set_same], rfl, ⟨[H.next], by simp only [alloc]; rw [Tr.get_set_same]⟩⟩

theorem killIn_other {v lo hi : Nat} : ∀ (mem : List Nat) (objs : Tr Row) (u : Nat), u ∉ mem → (killIn objs v lo hi mem).get u = objs.get u
  | [], _, _, _ => rfl
  | a :: mem, objs, u, h => by
    simp only [List.mem_cons, not_or] at h
    simp only [killIn]
    split
    · exact killIn_other mem objs u h.2
    · split
      · exact killIn_other mem objs u h.2
      · split
        · rw [killIn_other mem _ u h.2, Tr.get_set_other _ (fun e => h.1 e.symm)]
        · exact killIn_other mem objs u h.2
theorem killFrom_other {lo : Nat} : ∀ (mem : List Nat) (objs : Tr Row) (u : Nat), u ∉ mem → (killFrom objs lo mem).get u = objs.get u
  | [], _, _, _ => rfl
  | a :: mem, objs, u, h => by
    simp only [List.mem_cons, not_or] at h
    simp only [killFrom]
    split
    · exact killFrom_other mem objs u h.2
    · split
      · exact killFrom_other mem objs u h.2
      · rw [killFrom_other mem _ u h.2, Tr.get_set_other _ (fun e => h.1 e.symm)]

theorem write_own {H : AHeap} (g : Good H) {v : Nat} {r : Row} (o : Own H v r) {off : Nat} {new : List AVal} (hfit : off + new.length ≤ r.cells.length) (hone : new.all AVal.oneCell = true) :
    ∃ H', write H v off new = some H' ∧ Own H' v { r with cells := listPut r.cells off new } ∧ Fr (some r.fam) H H' ∧ H'.next = H.next ∧ Good H' := by
  obtain ⟨hrow, hro, mem, hmem⟩ := o
  refine ⟨{ H with objs := (killIn H.objs v (r.start + off) (r.start + off + new.length) mem).set v (some { r with cells := listPut r.cells off new }) }, ?_, ⟨?_, hro, ⟨mem, hmem⟩⟩, ⟨fun u ru hu ne => ?_, fun f m hf _ => hf, Nat.le_refl _⟩, rfl, ⟨fun u ru hu => ?_, fun f m u ru h1 h2 h3 => ?_, g.mem⟩⟩
  · unfold write
    rw [hrow]
    simp only [hro, Nat.ble_eq_true_of_le hfit, hone, hmem]
  · exact Tr.get_set_same _ _ _
  · simp only
    have hv : v ≠ u := by rintro rfl; rw [hrow] at hu; cases hu; exact ne rfl
    rw [Tr.get_set_other _ hv, killIn_other mem _ u ?_]
    · exact hu
    · intro hm
      have := g.fam _ _ _ _ hmem hm hu
      exact ne (by rw [this])
  · simp only at hu ⊢
    rw [Tr.get_set] at hu
    split at hu
    · rename_i e; subst e; cases hu; exact g.wf v r hrow
    · exact g.wf u ru (killIn_spec mem _ u ru hu).1
  · simp only at h1 h3
    rw [Tr.get_set] at h3
    split at h3
    · rename_i e; subst e; cases h3; exact g.fam f m v r h1 h2 hrow
    · exact g.fam _ _ _ _ h1 h2 (killIn_spec mem _ u ru h3).1


/-- a slice of one's own: n elements, their cells, its family -/
def OwnSl (H : AHeap) (sz n : Nat) (s : AVal) (cs : List AVal) (fm : Option Nat) : Prop :=
  cs.length = n * sz ∧ ((s = .nilSlice ∧ n = 0 ∧ fm = none) ∨ ∃ v r, s = .slice v 0 n none ∧ Own H v r ∧ r.sz = sz ∧ n * sz ≤ r.cells.length ∧ r.cells.take (n * sz) = cs ∧ fm = some r.fam)

theorem OwnSl.keep {H H' : AHeap} {sz n : Nat} {s : AVal} {cs : List AVal} {fm f2 : Option Nat} (h : OwnSl H sz n s cs fm) (k : Fr f2 H H') (ne : fm = none ∨ fm ≠ f2) : OwnSl H' sz n s cs fm := by
  obtain ⟨h1, h2 | ⟨v, r, rfl, o, hsz, hl, ht, rfl⟩⟩ := h
  · exact ⟨h1, .inl h2⟩
  · refine ⟨h1, .inr ⟨v, r, rfl, o.keep k ?_, hsz, hl, ht, rfl⟩⟩
    rcases ne with h | h
    · cases h
    · exact h

theorem OwnSl.lenOf {H : AHeap} {sz n : Nat} {s : AVal} {cs : List AVal} {fm : Option Nat} (h : OwnSl H sz n s cs fm) : lenOf s = some n := by
  obtain ⟨h1, ⟨rfl, rfl, _⟩ | ⟨v, r, rfl, _⟩⟩ := h <;> rfl

theorem OwnSl.cells {H : AHeap} {sz n : Nat} {s : AVal} {cs : List AVal} {fm : Option Nat} (h : OwnSl H sz n s cs fm) : sliceCells H.objs.get sz n s = some cs := by
  obtain ⟨h1, ⟨rfl, rfl, _⟩ | ⟨v, r, rfl, o, hsz, hl, ht, rfl⟩⟩ := h
  · obtain rfl := List.eq_nil_of_length_eq_zero (by simpa using h1)
    rfl
  · simp only [sliceCells, Nat.ble_eq_true_of_le (Nat.le_refl n), readCells, o.row]
    rw [Nat.ble_eq_true_of_le (by omega)]
    simp only [List.drop_zero]
    rw [ht]

theorem ble_lt {a b : Nat} (h : b < a) : Nat.ble a b = false := by
  cases e : Nat.ble a b with
  | false => rfl
  | true => have := ble_true e; omega

theorem append_own {H : AHeap} (g : Good H) {sz bytes n k : Nat} {s : AVal} {cs new : List AVal} {fm : Option Nat} (hsz0 : 0 < sz) (h : OwnSl H sz n s cs fm) (hk : new.length = k * sz) (hone : new.all AVal.oneCell = true)
    (hb : (n + k) * bytes ≤ maxNeed) (hb2 : n + k ≤ maxNeed) :
    ∃ s' H' fm', aAppend H sz bytes s k new = some (s', H') ∧ OwnSl H' sz (n + k) s' (cs ++ new) fm' ∧ Fr fm H H' ∧ Good H' ∧ (fm' = fm ∨ ∃ f, H.next ≤ f ∧ fm' = some f) := by
  have hcells := h.cells
  have hlenOf := h.lenOf
  obtain ⟨h1, ⟨rfl, rfl, rfl⟩ | ⟨v, r, rfl, o, hsz, hl, ht, rfl⟩⟩ := h
  · -- nil
    obtain rfl := List.eq_nil_of_length_eq_zero (by simpa using h1)
    cases k with
    | zero =>
      obtain rfl := List.eq_nil_of_length_eq_zero (by simpa using hk)
      exact ⟨.nilSlice, H, none, rfl, ⟨by simp, .inl ⟨rfl, rfl, rfl⟩⟩, Fr.refl _ _, g, .inl rfl⟩
    | succ k =>
      refine ⟨.slice H.next 0 (k + 1) none, alloc H new false sz, some H.next, ?_, ⟨by simpa using hk, .inr ⟨H.next, _, by simp, own_alloc H new false sz, rfl, by simp [hk], by simp only [Nat.zero_add, List.nil_append]; exact List.take_of_length_le (by omega), rfl⟩⟩, fr_alloc g new false sz, good_alloc g new false sz, .inr ⟨H.next, Nat.le_refl _, rfl⟩⟩
      simp only [aAppend, Abs.lenOf, capOf, hcells]
      rw [ble_lt (by omega), Nat.ble_eq_true_of_le hb, Nat.ble_eq_true_of_le hb2]
      simp
  · have hcap : capOf H.objs.get sz (.slice v 0 n none) = some (r.exact, r.cells.length / sz) := by
      simp only [capOf, o.row, hsz, Nat.beq_refl]
      rw [Nat.ble_eq_true_of_le (Nat.zero_le _)]
      simp
    by_cases hfit : n + k ≤ r.cells.length / sz
    · -- in place
      have hfit2 : (n + k) * sz ≤ r.cells.length := by
        have := Nat.mul_le_mul_right sz hfit
        have := Nat.div_mul_le_self r.cells.length sz
        omega
      have hmul : (n + k) * sz = n * sz + k * sz := Nat.add_mul n k sz
      obtain ⟨H', hw, ho', hf, hn, g'⟩ := write_own g o (off := n * sz) (new := new) (by omega) hone
      refine ⟨.slice v 0 (n + k) none, H', some r.fam, ?_, ⟨by simp [h1, hk, hmul], .inr ⟨v, _, rfl, ho', hsz, ?_, ?_, rfl⟩⟩, hf, g', .inl rfl⟩
      · simp only [aAppend, hlenOf, hcap]
        rw [Nat.ble_eq_true_of_le hfit]
        simp only [Nat.zero_add, hw]
      · simp only; rw [length_listPut _ _ _ (by omega)]; exact hfit2
      · simp only [listPut]
        rw [List.append_assoc, List.take_append, List.take_of_length_le (by simp; omega)]
        rw [ht]
        congr 1
        rw [h1, show (n + k) * sz - n * sz = new.length by omega, List.take_append, List.take_of_length_le (Nat.le_refl _)]
        simp
    · by_cases hex : r.exact = true
      · -- a new row
        refine ⟨.slice H.next 0 (n + k) none, alloc H (cs ++ new) false sz, some H.next, ?_, ⟨by simp [h1, hk, Nat.add_mul], .inr ⟨H.next, _, rfl, own_alloc H _ false sz, rfl, by simp [h1, hk, Nat.add_mul], ?_, rfl⟩⟩, (fr_alloc g _ false sz).any, good_alloc g _ false sz, .inr ⟨H.next, Nat.le_refl _, rfl⟩⟩
        · simp only [aAppend, hlenOf, hcap]
          rw [ble_lt (by omega), hcells, Nat.ble_eq_true_of_le hb, Nat.ble_eq_true_of_le hb2]
          simp [hex]
        · simp only
          rw [List.take_of_length_le (by simp [h1, hk, Nat.add_mul])]
      · have hex : r.exact = false := by simpa using hex
        obtain ⟨hrow, hro, mem, hmem⟩ := o
        let r' : Row := { cells := cs ++ new, fam := r.fam, start := r.start, exact := false, ro := false, sz := sz }
        let H' : AHeap := { objs := (killFrom H.objs (r.start + n * sz) mem).set H.next (some r'), fams := H.fams.set r.fam (some (H.next :: mem)), next := H.next + 1 }
        refine ⟨.slice H.next 0 (n + k) none, H', some r.fam, ?_, ⟨by simp [h1, hk, Nat.add_mul], .inr ⟨H.next, r', rfl, ⟨Tr.get_set_same _ _ _, rfl, ⟨H.next :: mem, Tr.get_set_same _ _ _⟩⟩, rfl, by simp [r', h1, hk, Nat.add_mul], ?_, rfl⟩⟩, ⟨fun u ru hu ne => ?_, fun f m hf ne => ?_, by simp [H']⟩, ⟨fun u ru hu => ?_, fun f m u ru h2 h3 h4 => ?_, fun f m hf => ?_⟩, .inl rfl⟩
        · simp only [aAppend, hlenOf, hcap]
          rw [ble_lt (by omega), hcells, Nat.ble_eq_true_of_le hb, Nat.ble_eq_true_of_le hb2]
          simp [hex, hrow, hro, hone, hmem, H', r']
        · simp only [r']
          rw [List.take_of_length_le (by simp [h1, hk, Nat.add_mul])]
        · have hlt := (g.wf u ru hu).1
          simp only [H']
          rw [Tr.get_set_other _ (by omega), killFrom_other mem _ u ?_]
          · exact hu
          · intro hm
            have := g.fam _ _ _ _ hmem hm hu
            exact ne (by rw [this])
        · simp only [H']
          rw [Tr.get_set_other _ (by intro e; exact ne (by rw [e]))]; exact hf
        · simp only [H'] at hu ⊢
          rw [Tr.get_set] at hu
          split at hu
          · rename_i e; cases hu
            have := (g.mem _ _ hmem).1
            simp only [r']; omega
          · have := g.wf u ru (killFrom_spec mem _ u ru hu).1
            omega
        · simp only [H'] at h2 h4
          rw [Tr.get_set] at h2 h4
          split at h2
          · rename_i e; cases h2
            split at h4
            · cases h4; simp only [r']; exact e
            · have h4' := (killFrom_spec mem _ u ru h4).1
              rcases List.mem_cons.1 h3 with rfl | h3
              · have := (g.wf _ _ h4').1; omega
              · rw [← e]; exact g.fam _ _ _ _ hmem h3 h4'
          · have hm := (g.mem f m h2).2 u h3
            rw [if_neg (by omega)] at h4
            exact g.fam _ _ _ _ h2 h3 (killFrom_spec mem _ u ru h4).1
        · simp only [H'] at hf ⊢
          rw [Tr.get_set] at hf
          split at hf
          · rename_i e; cases hf
            obtain ⟨h2, h3⟩ := g.mem _ _ hmem
            refine ⟨by omega, fun u hu => ?_⟩
            rcases List.mem_cons.1 hu with rfl | hu
            · omega
            · have := h3 u hu; omega
          · obtain ⟨h2, h3⟩ := g.mem f m hf
            exact ⟨by omega, fun u hu => by have := h3 u hu; omega⟩

end Go.Abs

namespace Go.Abs
open Go
variable {P : Program} {ng n : Nat} {call : ACall}

/-- a slice that can be read: n elements of sz cells -/
def RSl (g : Nat → Option Row) (sz n : Nat) (s : AVal) (cs : List AVal) : Prop :=
  cs.length = n * sz ∧ ((n = 0 ∧ (s = .nilSlice ∨ s = .emptySl)) ∨ ∃ v off lim r, s = .slice v off n lim ∧ g v = some r ∧ off + n * sz ≤ r.cells.length ∧ (r.cells.drop off).take (n * sz) = cs)

theorem OwnSl.keep0 {H H' : AHeap} {sz n : Nat} {s : AVal} {cs : List AVal} {fm : Option Nat} (h : OwnSl H sz n s cs fm) (k : Fr Option.none H H') : OwnSl H' sz n s cs fm :=
  h.keep k (by cases fm <;> simp)

theorem OwnSl.read {H : AHeap} {sz n : Nat} {s : AVal} {cs : List AVal} {fm : Option Nat} (h : OwnSl H sz n s cs fm) : RSl H.objs.get sz n s cs := by
  obtain ⟨h1, ⟨rfl, rfl, _⟩ | ⟨v, r, rfl, o, hsz, hl, ht, rfl⟩⟩ := h
  · exact ⟨h1, .inl ⟨rfl, .inl rfl⟩⟩
  · exact ⟨h1, .inr ⟨v, 0, none, r, rfl, o.row, by omega, by simpa using ht⟩⟩

theorem RSl.lenOf {g : Nat → Option Row} {sz n : Nat} {s : AVal} {cs : List AVal} (h : RSl g sz n s cs) : lenOf s = some n := by
  obtain ⟨h1, ⟨rfl, rfl | rfl⟩ | ⟨v, off, lim, r, rfl, _⟩⟩ := h <;> rfl
theorem RSl.cells {g : Nat → Option Row} {sz n : Nat} {s : AVal} {cs : List AVal} (h : RSl g sz n s cs) : sliceCells g sz n s = some cs := by
  obtain ⟨h1, ⟨rfl, rfl | rfl⟩ | ⟨v, off, lim, r, rfl, hr, hl, ht⟩⟩ := h
  · obtain rfl := List.eq_nil_of_length_eq_zero (by simpa using h1); rfl
  · obtain rfl := List.eq_nil_of_length_eq_zero (by simpa using h1); rfl
  · simp only [sliceCells, Nat.ble_eq_true_of_le (Nat.le_refl n), readCells, hr]
    rw [Nat.ble_eq_true_of_le hl]
    simp only [ht]
theorem RSl.aLen {g : Nat → Option Row} {sz n : Nat} {s : AVal} {cs : List AVal} (h : RSl g sz n s cs) {t e : TypeId} (ht : P.underlying t = some (.slice e)) : aLen P t s = some (.int .i64 (.ofNat n)) := by
  obtain ⟨h1, ⟨rfl, rfl | rfl⟩ | ⟨v, off, lim, r, rfl, _⟩⟩ := h <;> simp only [Abs.aLen, ht] <;> rfl

/-- element i: where it lies, and what is there -/
theorem RSl.index {g : Nat → Option Row} {sz n : Nat} {s : AVal} {cs : List AVal} (h : RSl g sz n s cs) {i : Nat} (hi : i < n) {t e : TypeId} {j : TypeInfo} (ht : P.underlying t = some (.slice e)) (hj : P.info? e = some j) (hsz : j.size = sz) :
    ∃ v off, (∀ k, aIndexAddr P t s (.int k (.ofNat i)) = some (.ptr v off)) ∧ readCells g v off sz = some ((cs.drop (i * sz)).take sz) ∧ ∀ c x, c < sz → cs[i * sz + c]? = some x → readCells g v (off + c) 1 = some [x] := by
  obtain ⟨h1, ⟨rfl, _⟩ | ⟨v, off, lim, r, rfl, hr, hl, hcs⟩⟩ := h
  · omega
  · have hle : i * sz + sz ≤ n * sz := by
      have := Nat.mul_le_mul_right sz (show i + 1 ≤ n by omega)
      rw [Nat.add_mul] at this; omega
    refine ⟨v, off + i * sz, fun k => ?_, ?_, fun c x hc hx => ?_⟩
    · simp only [aIndexAddr, ht, hj, Nat.ble_eq_true_of_le hi, hsz]
    · simp only [readCells, hr]
      rw [Nat.ble_eq_true_of_le (by omega)]
      simp only
      congr 1
      rw [← hcs, List.drop_take, List.take_take, List.drop_drop, Nat.min_eq_left (by omega)]
    · simp only [readCells, hr]
      rw [Nat.ble_eq_true_of_le (by omega)]
      simp only
      congr 1
      have hlt : off + i * sz + c < r.cells.length := by omega
      have : r.cells[off + i * sz + c]? = some x := by
        rw [← hcs, List.getElem?_take, if_pos (by omega), List.getElem?_drop] at hx
        rw [← hx]; congr 1; omega
      rw [List.drop_eq_getElem_cons hlt]
      rw [List.getElem?_eq_getElem hlt] at this
      cases this
      rfl

theorem RSl.keep {H H' : AHeap} {sz n : Nat} {s : AVal} {cs : List AVal} (h : RSl H.objs.get sz n s cs) (k : Fr Option.none H H') : RSl H'.objs.get sz n s cs := by
  obtain ⟨h1, h2 | ⟨v, off, lim, r, rfl, hr, hl, hcs⟩⟩ := h
  · exact ⟨h1, .inl h2⟩
  · exact ⟨h1, .inr ⟨v, off, lim, r, rfl, k.row v r hr (by simp), hl, hcs⟩⟩

/-! ## regions that draw their order and only read -/
mutual
theorem beqA_refl : ∀ (a : AVal), beqA a a = true
  | .bool b => by simp [beqA]
  | .int _ _ => by simp [beqA]
  | .str _ => by simp [beqA]
  | .nilPtr => by simp [beqA]
  | .ptr _ _ => by simp [beqA]
  | .nilSlice => by simp [beqA]
  | .slice _ _ _ _ => by simp [beqA]
  | .emptySl => by simp [beqA]
  | .nilFunc => by simp [beqA]
  | .func _ a b => by simp [beqA, beqAs_refl a, beqAs_refl b]
  | .agg a => by simp [beqA, beqAs_refl a]
  | .tuple a => by simp [beqA, beqAs_refl a]
theorem beqAs_refl : ∀ (as : List AVal), beqAs as as = true
  | [] => by simp [beqAs]
  | a :: as => by simp [beqAs, beqA_refl a, beqAs_refl as]
end

theorem aOpsD_cons2 {ops : List Oper} {bef : Nat → Nat} {o : Oper} {l : List Oper} {i : Nat} {S : Seen} {T : Tr AVal} {H : AHeap} : aOpsD P ng call n ops bef (o :: l) i S T H =
    if wantedA ops T o = true then (match aOp P ng call T H o.op with
      | some r => (match nextSeen (bef i) i T o.op S r with | some S' => aOpsD P ng call n ops bef l (i + 1) S' (setT n T o.dst r.1) r.2 | none => none)
      | none => none) else aOpsD P ng call n ops bef l (i + 1) S (setT n T o.dst (.tuple [])) H := by
  show Bool.rec (motive := fun _ => Option (Seen × Tr AVal × AHeap)) (aOpsD P ng call n ops bef l (Nat.succ i) S (setT n T o.dst (.tuple [])) H)
      (Option.rec (motive := fun _ => Option (Seen × Tr AVal × AHeap)) none
        (fun r => Option.rec (motive := fun _ => Option (Seen × Tr AVal × AHeap)) none (fun S' => aOpsD P ng call n ops bef l (Nat.succ i) S' (setT n T o.dst r.1) r.2) (nextSeen (bef i) i T o.op S r)) (aOp P ng call T H o.op)) (wantedA ops T o) = _
  cases wantedA ops T o with
  | false => rfl
  | true =>
    cases aOp P ng call T H o.op with
    | none => rfl
    | some r =>
      show Option.rec (motive := fun _ => Option (Seen × Tr AVal × AHeap)) none (fun S' => aOpsD P ng call n ops bef l (Nat.succ i) S' (setT n T o.dst r.1) r.2) (nextSeen (bef i) i T o.op S r) = _
      simp only [if_true]
      cases nextSeen (bef i) i T o.op S r <;> rfl

noncomputable def readsOnly (l : List Oper) : Bool := l.all (fun o => match cls o.op with | 0 => true | 1 => true | _ => false)

theorem readsOk_cons {bef : Nat → Nat} {objs0 : Tr Row} {es : List (Nat × Tr Row)} {r : Nat × Tr AVal × Op × AVal} {rs : List (Nat × Tr AVal × Op × AVal)} :
    readsOk P ng bef objs0 es (r :: rs) = (readOk P ng bef objs0 r.1 r.2.1 r.2.2.1 r.2.2.2 es none && readsOk P ng bef objs0 es rs) := rfl

theorem aOpsD_reads {ops : List Oper} {bef : Nat → Nat} : ∀ {l : List Oper} {i : Nat} {rs : List (Nat × Tr AVal × Op × AVal)} {T : Tr AVal} {H : AHeap} {T' : Tr AVal} {H' : AHeap}, readsOnly l = true →
    aOps P ng call n ops l T H = some (T', H') → readsOk P ng bef H.objs [] rs = true →
    H' = H ∧ ∃ rs', aOpsD P ng call n ops bef l i ⟨[], [], rs⟩ T H = some (⟨[], [], rs'⟩, T', H') ∧ readsOk P ng bef H.objs [] rs' = true
  | [], i, rs, T, H, T', H', _, h, hr => by cases h; exact ⟨rfl, rs, rfl, hr⟩
  | o :: l, i, rs, T, H, T', H', hl, h, hr => by
    simp only [readsOnly, List.all_cons, Bool.and_eq_true] at hl
    rw [aOps_cons2] at h
    rw [aOpsD_cons2]
    split at h
    · rename_i hw
      rw [if_pos hw]
      cases ho : aOp P ng call T H o.op with
      | none => rw [ho] at h; cases h
      | some r =>
        rw [ho] at h
        simp only at h
        have hcl := hl.1
        have hcc : cls o.op = 0 ∨ cls o.op = 1 := by
          split at hcl
          · left; assumption
          · right; assumption
          · cases hcl
        rcases hcc with hc | hc
        · have e1 : aOp P ng call T H o.op = withH H (pOp P ng T o.op) := by unfold aOp; rw [hc]; rfl
          have e2 : nextSeen (bef i) i T o.op ⟨[], [], rs⟩ r = some ⟨[], [], rs⟩ := by unfold nextSeen; rw [hc]; rfl
          have hH : r.2 = H := by
            rw [e1] at ho
            cases hp : pOp P ng T o.op with
            | none => rw [hp] at ho; cases ho
            | some v => rw [hp] at ho; cases ho; rfl
          simp only [e2]
          rw [hH] at h ⊢
          exact aOpsD_reads hl.2 h hr
        · have e1 : aOp P ng call T H o.op = withH H (rOp P ng T H.objs.get o.op) := by unfold aOp; rw [hc]; rfl
          have e2 : nextSeen (bef i) i T o.op ⟨[], [], rs⟩ r = some ⟨[], [], (i, T, o.op, r.1) :: rs⟩ := by unfold nextSeen; rw [hc]; rfl
          have hH : r.2 = H ∧ rOp P ng T H.objs.get o.op = some r.1 := by
            rw [e1] at ho
            cases hp : rOp P ng T H.objs.get o.op with
            | none => rw [hp] at ho; cases ho
            | some v => rw [hp] at ho; cases ho; exact ⟨rfl, rfl⟩
          simp only [e2]
          rw [hH.1] at h ⊢
          refine aOpsD_reads hl.2 h ?_
          simp only [readsOk_cons, Bool.and_eq_true]
          refine ⟨?_, hr⟩
          show (false || sameRead P ng T H.objs.get o.op r.1) = true
          simp only [sameRead, hH.2, beqA_refl, Bool.or_true]
    · rename_i hw
      rw [if_neg hw]
      exact aOpsD_reads hl.2 h hr

/-- a region that only reads gives the same in every order -/
theorem aRegion_reads {ops : Array Oper} {T T' : Tr AVal} {H H' : AHeap} (hl : readsOnly ops.toList = true) (h : aRegion P ng call n ops T H false = some (T', H')) : aRegion P ng call n ops T H true = some (T', H') := by
  obtain ⟨rfl, rs, h1, h2⟩ := aOpsD_reads (bef := befOf ops) (i := 0) (rs := []) hl h rfl
  show drawDone P ng (befOf ops) H'.objs (aOpsD P ng call n ops.toList (befOf ops) ops.toList 0 ⟨[], [], []⟩ T H') = _
  rw [h1]
  simp only [drawDone, h2]

end Go.Abs

namespace Go.Abs
open Go
variable {P : Program} {ng n : Nat} {call : ACall}

theorem pendOk_iff {bef : Nat} : ∀ {l : List Nat}, pendOk bef l = true ↔ ∀ a ∈ l, tb bef a = true
  | [] => by simp; rfl
  | a :: l => by
    show Bool.rec (motive := fun _ => Bool) false (pendOk bef l) (tb bef a) = true ↔ _
    rw [List.forall_mem_cons]
    cases h : tb bef a with
    | false => simp
    | true => simpa using pendOk_iff

/-- the effects stand behind all that was made or done -/
noncomputable def pendAll (bef : Nat → Nat) (l : List Oper) : Nat → List Nat → Bool :=
  List.rec (motive := fun _ => Nat → List Nat → Bool) (fun _ _ => true)
    (fun o _ ih i pend => match cls o.op with
      | 0 => ih (Nat.succ i) pend
      | 1 => ih (Nat.succ i) pend
      | 2 => ih (Nat.succ i) (i :: pend)
      | _ => pendOk (bef i) pend && ih (Nat.succ i) (i :: pend)) l

theorem pendAll_cons {bef : Nat → Nat} {o : Oper} {l : List Oper} {i : Nat} {pend : List Nat} : pendAll bef (o :: l) i pend = (match cls o.op with
      | 0 => pendAll bef l (i + 1) pend
      | 1 => pendAll bef l (i + 1) pend
      | 2 => pendAll bef l (i + 1) (i :: pend)
      | _ => pendOk (bef i) pend && pendAll bef l (i + 1) (i :: pend)) := rfl

structure Rec where
  es : List (Tr Row)
  rs : List (Tr AVal × Op × AVal)

noncomputable def recStep (R : Rec) (T : Tr AVal) (o : Op) (r : AVal × AHeap) : Rec :=
  match cls o with
  | 0 => R
  | 1 => { R with rs := (T, o, r.1) :: R.rs }
  | 2 => R
  | _ => { R with es := r.2.objs :: R.es }

/-- the order of the text, with a record -/
noncomputable def aOpsR (P : Program) (ng : Nat) (call : ACall) (n : Nat) (ops : List Oper) : List Oper → Rec → Tr AVal → AHeap → Option (Rec × Tr AVal × AHeap)
  | [], R, T, H => some (R, T, H)
  | o :: l, R, T, H =>
    if wantedA ops T o = true then
      (match aOp P ng call T H o.op with
      | some r => aOpsR P ng call n ops l (recStep R T o.op r) (setT n T o.dst r.1) r.2
      | none => none)
    else aOpsR P ng call n ops l R (setT n T o.dst (.tuple [])) H

theorem cls_cases (o : Op) : cls o = 0 ∨ cls o = 1 ∨ cls o = 2 ∨ cls o = 3 := by
  unfold cls
  split <;> simp

theorem recStep_0 {R : Rec} {T : Tr AVal} {o : Op} {r : AVal × AHeap} (h : cls o = 0) : recStep R T o r = R := by unfold recStep; rw [h]; rfl
theorem recStep_1 {R : Rec} {T : Tr AVal} {o : Op} {r : AVal × AHeap} (h : cls o = 1) : recStep R T o r = { R with rs := (T, o, r.1) :: R.rs } := by unfold recStep; rw [h]; rfl
theorem recStep_2 {R : Rec} {T : Tr AVal} {o : Op} {r : AVal × AHeap} (h : cls o = 2) : recStep R T o r = R := by unfold recStep; rw [h]; rfl
theorem recStep_3 {R : Rec} {T : Tr AVal} {o : Op} {r : AVal × AHeap} (h : cls o = 3) : recStep R T o r = { R with es := r.2.objs :: R.es } := by unfold recStep; rw [h]; rfl
theorem nextSeen_0 {b i : Nat} {T : Tr AVal} {o : Op} {S : Seen} {r : AVal × AHeap} (h : cls o = 0) : nextSeen b i T o S r = some S := by unfold nextSeen; rw [h]; rfl
theorem nextSeen_1 {b i : Nat} {T : Tr AVal} {o : Op} {S : Seen} {r : AVal × AHeap} (h : cls o = 1) : nextSeen b i T o S r = some (stepR i T o S r.1) := by unfold nextSeen; rw [h]; rfl
theorem nextSeen_2 {b i : Nat} {T : Tr AVal} {o : Op} {S : Seen} {r : AVal × AHeap} (h : cls o = 2) : nextSeen b i T o S r = some (stepA i S) := by unfold nextSeen; rw [h]; rfl
theorem nextSeen_3 {b i : Nat} {T : Tr AVal} {o : Op} {S : Seen} {r : AVal × AHeap} (h : cls o = 3) (hp : pendOk b S.pend = true) : nextSeen b i T o S r = some (stepE i S r.2) := by
  unfold nextSeen; rw [h]
  show (match pendOk b S.pend with | true => some (stepE i S r.2) | false => none) = _
  rw [hp]
theorem pendAll_3 {bef : Nat → Nat} {o : Oper} {l : List Oper} {i : Nat} {pend : List Nat} (h : cls o.op = 3) : pendAll bef (o :: l) i pend = (pendOk (bef i) pend && pendAll bef l (i + 1) (i :: pend)) := by
  rw [pendAll_cons, h]; rfl
theorem pendAll_2 {bef : Nat → Nat} {o : Oper} {l : List Oper} {i : Nat} {pend : List Nat} (h : cls o.op = 2) : pendAll bef (o :: l) i pend = pendAll bef l (i + 1) (i :: pend) := by
  rw [pendAll_cons, h]; rfl
theorem pendAll_1 {bef : Nat → Nat} {o : Oper} {l : List Oper} {i : Nat} {pend : List Nat} (h : cls o.op = 0 ∨ cls o.op = 1) : pendAll bef (o :: l) i pend = pendAll bef l (i + 1) pend := by
  rw [pendAll_cons]
  rcases h with h | h <;> rw [h] <;> rfl

theorem aOpsD_of {ops : List Oper} {bef : Nat → Nat} : ∀ {l : List Oper} {i : Nat} {S : Seen} {pend : List Nat} {R R' : Rec} {T T' : Tr AVal} {H H' : AHeap}, pendAll bef l i pend = true → (∀ a ∈ S.pend, a ∈ pend) →
    (S.es.map (·.2) = R.es) → (S.rs.map (·.2) = R.rs) → aOpsR P ng call n ops l R T H = some (R', T', H') →
    ∃ S', aOpsD P ng call n ops bef l i S T H = some (S', T', H') ∧ S'.es.map (·.2) = R'.es ∧ S'.rs.map (·.2) = R'.rs
  | [], i, S, pend, R, R', T, T', H, H', _, _, he, hr, h => by cases h; exact ⟨S, rfl, he, hr⟩
  | o :: l, i, S, pend, R, R', T, T', H, H', hp, hsub, he, hr, h => by
    simp only [aOpsR] at h
    rw [aOpsD_cons2]
    have hsub2 : ∀ a ∈ S.pend, a ∈ i :: pend := fun a ha => List.mem_cons_of_mem _ (hsub a ha)
    have hsub3 : ∀ a ∈ i :: S.pend, a ∈ i :: pend := fun a ha => by
      rcases List.mem_cons.1 ha with rfl | ha
      · exact List.mem_cons_self ..
      · exact hsub2 a ha
    split at h
    · rename_i hw
      rw [if_pos hw]
      cases ho : aOp P ng call T H o.op with
      | none => rw [ho] at h; cases h
      | some r =>
        rw [ho] at h
        simp only at h ⊢
        rcases cls_cases o.op with hc | hc | hc | hc
        · rw [pendAll_1 (.inl hc)] at hp
          rw [recStep_0 hc] at h
          rw [nextSeen_0 hc]
          exact aOpsD_of hp hsub he hr h
        · rw [pendAll_1 (.inr hc)] at hp
          rw [recStep_1 hc] at h
          rw [nextSeen_1 hc]
          exact aOpsD_of (S := stepR i T o.op S r.1) (R := ⟨R.es, (T, o.op, r.1) :: R.rs⟩) hp hsub he (by simp [stepR, hr]) h
        · rw [pendAll_2 hc] at hp
          rw [recStep_2 hc] at h
          rw [nextSeen_2 hc]
          exact aOpsD_of (S := stepA i S) hp hsub3 he hr h
        · rw [pendAll_3 hc, Bool.and_eq_true] at hp
          rw [recStep_3 hc] at h
          rw [nextSeen_3 hc (pendOk_iff.2 fun a ha => pendOk_iff.1 hp.1 a (hsub a ha))]
          exact aOpsD_of (S := stepE i S r.2) (R := ⟨r.2.objs :: R.es, R.rs⟩) hp.2 hsub3 (by simp [stepE, he]) hr h
    · rename_i hw
      rw [if_neg hw]
      rcases cls_cases o.op with hc | hc | hc | hc
      · rw [pendAll_1 (.inl hc)] at hp; exact aOpsD_of hp hsub he hr h
      · rw [pendAll_1 (.inr hc)] at hp; exact aOpsD_of hp hsub he hr h
      · rw [pendAll_2 hc] at hp; exact aOpsD_of hp hsub2 he hr h
      · rw [pendAll_3 hc, Bool.and_eq_true] at hp; exact aOpsD_of hp.2 hsub2 he hr h

theorem readOk_all {bef : Nat → Nat} {objs0 : Tr Row} {j : Nat} {T : Tr AVal} {o : Op} {v : AVal} : ∀ {es : List (Nat × Tr Row)} {up : Option Nat}, rOp P ng T objs0.get o = some v → (∀ K ∈ es.map (·.2), rOp P ng T K.get o = some v) →
    readOk P ng bef objs0 j T o v es up = true
  | [], up, h0, _ => by
    show ((match up with | some e => tb (bef j) e | none => false) || sameRead P ng T objs0.get o v) = true
    simp [sameRead, h0, beqA_refl]
  | e :: es, up, h0, h => by
    show (((match up with | some e' => tb (bef j) e' | none => false) || tb (bef e.1) j || sameRead P ng T e.2.get o v) && readOk P ng bef objs0 j T o v es (some e.1)) = true
    simp only [List.map_cons, List.forall_mem_cons] at h
    rw [readOk_all h0 h.2]
    simp [sameRead, h.1, beqA_refl]

theorem readsOk_all {bef : Nat → Nat} {objs0 : Tr Row} {es : List (Nat × Tr Row)} : ∀ {rs : List (Nat × Tr AVal × Op × AVal)}, (∀ r ∈ rs.map (·.2), rOp P ng r.1 objs0.get r.2.1 = some r.2.2 ∧ ∀ K ∈ es.map (·.2), rOp P ng r.1 K.get r.2.1 = some r.2.2) →
    readsOk P ng bef objs0 es rs = true
  | [], _ => rfl
  | r :: rs, h => by
    simp only [List.map_cons, List.forall_mem_cons] at h
    rw [readsOk_cons, readsOk_all h.2, readOk_all h.1.1 h.1.2]; rfl

/-- a region with effects whose reads see the same in every state -/
theorem aRegion_draw {ops : Array Oper} {T T' : Tr AVal} {H H' : AHeap} {R : Rec} (hp : pendAll (befOf ops) ops.toList 0 [] = true) (h : aOpsR P ng call n ops.toList ops.toList ⟨[], []⟩ T H = some (R, T', H'))
    (hr : ∀ r ∈ R.rs, rOp P ng r.1 H.objs.get r.2.1 = some r.2.2 ∧ ∀ K ∈ R.es, rOp P ng r.1 K.get r.2.1 = some r.2.2) : aRegion P ng call n ops T H true = some (T', H') := by
  obtain ⟨S, h1, h2, h3⟩ := aOpsD_of (S := ⟨[], [], []⟩) hp (fun a ha => ha) rfl rfl h
  show drawDone P ng (befOf ops) H.objs (aOpsD P ng call n ops.toList (befOf ops) ops.toList 0 ⟨[], [], []⟩ T H) = _
  rw [h1]
  simp only [drawDone]
  rw [readsOk_all]
  rw [h2, h3]
  exact hr

end Go.Abs

namespace Go.Abs
open Go
variable {P : Program} {ng n : Nat} {call : ACall}

theorem ops_go {ops l : List Oper} {o : Oper} {T : Tr AVal} {H H' : AHeap} {R : Tr AVal → Prop} {r : AVal × AHeap} (hw : wantedA ops T o = true) (ho : aOp P ng call T H o.op = some r)
    (h : ∃ T', aOps P ng call n ops l (setT n T o.dst r.1) r.2 = some (T', H') ∧ R T') : ∃ T', aOps P ng call n ops (o :: l) T H = some (T', H') ∧ R T' := by
  obtain ⟨T', h1, h2⟩ := h
  refine ⟨T', ?_, h2⟩
  rw [aOps_cons2, if_pos hw, ho]
  exact h1
theorem ops_miss {ops l : List Oper} {o : Oper} {T : Tr AVal} {H H' : AHeap} {R : Tr AVal → Prop} (hw : wantedA ops T o = false)
    (h : ∃ T', aOps P ng call n ops l (setT n T o.dst (.tuple [])) H = some (T', H') ∧ R T') : ∃ T', aOps P ng call n ops (o :: l) T H = some (T', H') ∧ R T' := by
  obtain ⟨T', h1, h2⟩ := h
  refine ⟨T', ?_, h2⟩
  rw [aOps_cons2, if_neg (by rw [hw]; simp)]
  exact h1
theorem wanted_some {ops : List Oper} {T : Tr AVal} {o oj : Oper} {j d : Nat} {want b : Bool} (hg : o.guard = some (j, want)) (hj : ops[j]? = some oj) (hd : oj.dst = some d) (hb : getT T d = .bool b) : wantedA ops T o = (b == want) := by
  unfold wantedA
  rw [hg]
  simp only [hj, hd, hb]
theorem wanted_none2 {ops : List Oper} {T : Tr AVal} {o oj : Oper} {j d : Nat} {want : Bool} (hg : o.guard = some (j, want)) (hj : ops[j]? = some oj) (hd : oj.dst = some d) (hb : getT T d = .tuple []) : wantedA ops T o = false := by
  unfold wantedA
  rw [hg]
  simp only [hj, hd, hb]
theorem ops_goG {ops l : List Oper} {o oj : Oper} {T : Tr AVal} {H H' : AHeap} {R : Tr AVal → Prop} {r : AVal × AHeap} {j d : Nat} {want b : Bool} (hg : o.guard = some (j, want)) (hj : ops[j]? = some oj) (hd : oj.dst = some d) (hw : (b == want) = true) (hb : getT T d = .bool b)
    (ho : aOp P ng call T H o.op = some r) (h : ∃ T', aOps P ng call n ops l (setT n T o.dst r.1) r.2 = some (T', H') ∧ R T') : ∃ T', aOps P ng call n ops (o :: l) T H = some (T', H') ∧ R T' :=
  ops_go ((wanted_some hg hj hd hb).trans hw) ho h
theorem ops_missG {ops l : List Oper} {o oj : Oper} {T : Tr AVal} {H H' : AHeap} {R : Tr AVal → Prop} {j d : Nat} {want b : Bool} (hg : o.guard = some (j, want)) (hj : ops[j]? = some oj) (hd : oj.dst = some d) (hw : (b == want) = false) (hb : getT T d = .bool b)
    (h : ∃ T', aOps P ng call n ops l (setT n T o.dst (.tuple [])) H = some (T', H') ∧ R T') : ∃ T', aOps P ng call n ops (o :: l) T H = some (T', H') ∧ R T' :=
  ops_miss ((wanted_some hg hj hd hb).trans hw) h
theorem ops_missN {ops l : List Oper} {o oj : Oper} {T : Tr AVal} {H H' : AHeap} {R : Tr AVal → Prop} {j d : Nat} {want : Bool} (hg : o.guard = some (j, want)) (hj : ops[j]? = some oj) (hd : oj.dst = some d) (hb : getT T d = .tuple [])
    (h : ∃ T', aOps P ng call n ops l (setT n T o.dst (.tuple [])) H = some (T', H') ∧ R T') : ∃ T', aOps P ng call n ops (o :: l) T H = some (T', H') ∧ R T' :=
  ops_miss (wanted_none2 hg hj hd hb) h
theorem ops_nil {ops : List Oper} {T : Tr AVal} {H : AHeap} {R : Tr AVal → Prop} (h : R T) : ∃ T', aOps P ng call n ops [] T H = some (T', H) ∧ R T' := ⟨T, rfl, h⟩

theorem W_regionE {T : Tr AVal} {H H' : AHeap} {Q : AExit → Tr AVal → AHeap → Prop} {id : Nat} {ops : Array Oper} {d : Bool} (R : Tr AVal → Prop) (h : ∃ T', aRegion P ng call n ops T H d = some (T', H') ∧ R T') (hQ : ∀ T', R T' → Q .normal T' H') : W P ng call n (.region id ops d) T H Q := by
  obtain ⟨T', h1, h2⟩ := h
  exact W_region h1 (hQ T' h2)
/-- in the order of the text -/
theorem W_regionP {T : Tr AVal} {H H' : AHeap} {Q : AExit → Tr AVal → AHeap → Prop} {id : Nat} {ops : Array Oper} (R : Tr AVal → Prop) (h : ∃ T', aOps P ng call n ops.toList ops.toList T H = some (T', H') ∧ R T') (hQ : ∀ T', R T' → Q .normal T' H') : W P ng call n (.region id ops false) T H Q :=
  W_regionE R h hQ
/-- a drawn region that only reads -/
theorem W_regionD {T : Tr AVal} {H H' : AHeap} {Q : AExit → Tr AVal → AHeap → Prop} {id : Nat} {ops : Array Oper} (R : Tr AVal → Prop) (hr : readsOnly ops.toList = true) (h : ∃ T', aOps P ng call n ops.toList ops.toList T H = some (T', H') ∧ R T') (hQ : ∀ T', R T' → Q .normal T' H') : W P ng call n (.region id ops true) T H Q := by
  obtain ⟨T', h1, h2⟩ := h
  exact W_region (aRegion_reads hr h1) (hQ T' h2)

/-- temporaries that no operation sets stay -/
noncomputable def dstFree (l : List Oper) (t : Nat) : Bool := List.rec (motive := fun _ => Bool) true (fun o _ ih => (match o.dst with | some d => !(Nat.beq d t) | none => true) && ih) l
theorem setT_other {T : Tr AVal} {d : Option Tmp} {v : AVal} {t : Nat} (h : (match d with | some d => !(Nat.beq d t) | none => true) = true) : getT (setT n T d v) t = getT T t := by
  cases d with
  | none => rfl
  | some d =>
    rw [getT_setT2, if_neg]
    rintro ⟨rfl, _⟩
    simp [Nat.beq_refl] at h
theorem aOps_frame {ops : List Oper} : ∀ {l : List Oper} {T T' : Tr AVal} {H H' : AHeap}, aOps P ng call n ops l T H = some (T', H') → ∀ t, dstFree l t = true → getT T' t = getT T t
  | [], T, T', H, H', h, t, _ => by cases h; rfl
  | o :: l, T, T', H, H', h, t, hf => by
    have hf : ((match o.dst with | some d => !(Nat.beq d t) | none => true) && dstFree l t) = true := hf
    rw [Bool.and_eq_true] at hf
    rw [aOps_cons2] at h
    split at h
    · split at h
      · rw [aOps_frame h t hf.2, setT_other hf.1]
      · cases h
    · rw [aOps_frame h t hf.2, setT_other hf.1]
theorem W_regionF {T : Tr AVal} {H H' : AHeap} {Q : AExit → Tr AVal → AHeap → Prop} {id : Nat} {ops : Array Oper} (R : Tr AVal → Prop) (h : ∃ T', aOps P ng call n ops.toList ops.toList T H = some (T', H') ∧ R T') (hQ : ∀ T', R T' → (∀ t, dstFree ops.toList t = true → getT T' t = getT T t) → Q .normal T' H') : W P ng call n (.region id ops false) T H Q := by
  obtain ⟨T', h1, h2⟩ := h
  exact W_region h1 (hQ T' h2 (aOps_frame h1))
theorem W_regionDF {T : Tr AVal} {H H' : AHeap} {Q : AExit → Tr AVal → AHeap → Prop} {id : Nat} {ops : Array Oper} (R : Tr AVal → Prop) (hr : readsOnly ops.toList = true) (h : ∃ T', aOps P ng call n ops.toList ops.toList T H = some (T', H') ∧ R T') (hQ : ∀ T', R T' → (∀ t, dstFree ops.toList t = true → getT T' t = getT T t) → Q .normal T' H') : W P ng call n (.region id ops true) T H Q := by
  obtain ⟨T', h1, h2⟩ := h
  exact W_region (aRegion_reads hr h1) (hQ T' h2 (aOps_frame h1))
end Go.Abs
