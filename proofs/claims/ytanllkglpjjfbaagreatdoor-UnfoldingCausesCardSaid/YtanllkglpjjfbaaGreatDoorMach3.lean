/- The abstract machine, part 3: regions in any order are sound. -/
import Derived.Test.YtanllkglpjjfbaaGreatDoorMach2
import Derived.Orders
set_option linter.unusedVariables false
set_option linter.unusedSimpArgs false
namespace Go.Abs
open Go
variable {P : Program} {ng n B : Nat} {ρ : Rho}

theorem tb_eq (m i : Nat) : tb m i = m.testBit i := by
  unfold tb
  rw [Nat.testBit_eq_decide_div_mod_eq]
  have e1 : Nat.shiftRight m i = m / 2 ^ i := Nat.shiftRight_eq_div_pow m i
  rw [e1]
  show Nat.beq (m / 2 ^ i % 2) 1 = _
  cases h : Nat.beq (m / 2 ^ i % 2) 1 with
  | true => rw [beq_true h]; rfl
  | false => exact (decide_eq_false (beq_false h)).symm

/-- the bits that the edges of one operation bring -/
theorem edges_bits (acc : Array Nat) (j : Nat) : ∀ (es : List Edge) (s : Nat), (es.foldl (fun s e => if Region.binds .any e then s ||| 2 ^ e.on ||| acc.getD e.on 0 else s) s).testBit j = true →
    s.testBit j = true ∨ ∃ e ∈ es, Region.binds .any e = true ∧ (e.on = j ∨ (acc.getD e.on 0).testBit j = true)
  | [], s, h => .inl h
  | e :: es, s, h => by
    simp only [List.foldl_cons] at h
    rcases edges_bits acc j es _ h with h1 | ⟨e', he', hb, hc⟩
    · split at h1
      · rename_i hb
        rw [Nat.testBit_or, Nat.testBit_or, Bool.or_eq_true, Bool.or_eq_true] at h1
        rcases h1 with (h1 | h1) | h1
        · exact .inl h1
        · rw [Nat.testBit_two_pow] at h1
          exact .inr ⟨e, by simp, hb, .inl (by simpa using h1)⟩
        · exact .inr ⟨e, by simp, hb, .inr h1⟩
      · exact .inl h1
    · exact .inr ⟨e', by simp [he'], hb, hc⟩

def befStep (acc : Array Nat) (o : Oper) : Array Nat := acc.push (o.after.foldl (fun s e => if Region.binds .any e then s ||| 2 ^ e.on ||| acc.getD e.on 0 else s) 0)

theorem befFold : ∀ (l : List Oper) (acc : Array Nat), (l.foldl befStep acc).size = acc.size + l.length ∧ (∀ i, i < acc.size → (l.foldl befStep acc)[i]? = acc[i]?) ∧
    ∀ k (o : Oper) j, l[k]? = some o → ((l.foldl befStep acc).getD (acc.size + k) 0).testBit j = true →
      ∃ e ∈ o.after.toList, Region.binds .any e = true ∧ (e.on = j ∨ (e.on < acc.size + k ∧ ((l.foldl befStep acc).getD e.on 0).testBit j = true))
  | [], acc => ⟨rfl, fun _ _ => rfl, fun k o j h => by simp at h⟩
  | x :: l, acc => by
    obtain ⟨h1, h2, h3⟩ := befFold l (befStep acc x)
    have hs : (befStep acc x).size = acc.size + 1 := by simp [befStep]
    have hold : ∀ i, i < acc.size → ((x :: l).foldl befStep acc)[i]? = acc[i]? := fun i hi => by
      show (l.foldl befStep (befStep acc x))[i]? = _
      rw [h2 i (by omega)]
      simp [befStep, Array.getElem?_push, Nat.ne_of_lt hi]
    refine ⟨by show (l.foldl befStep (befStep acc x)).size = _; rw [h1, hs]; simp; omega, hold, fun k o j hk hb => ?_⟩
    cases k with
    | zero =>
      simp at hk; subst hk
      have hb : ((l.foldl befStep (befStep acc x)).getD (acc.size + 0) 0).testBit j = true := hb
      have hv : (l.foldl befStep (befStep acc x))[acc.size]? = some (x.after.foldl (fun s e => if Region.binds .any e then s ||| 2 ^ e.on ||| acc.getD e.on 0 else s) 0) := by
        rw [h2 acc.size (by omega)]; simp [befStep]
      rw [Nat.add_zero, Array.getD_eq_getD_getElem?, hv, Option.getD_some, ← Array.foldl_toList] at hb
      rcases edges_bits acc j x.after.toList 0 hb with h | ⟨e, he, hbi, hc⟩
      · simp at h
      · refine ⟨e, he, hbi, ?_⟩
        rcases hc with hc | hc
        · exact .inl hc
        · have hlt : e.on < acc.size := by
            rcases Nat.lt_or_ge e.on acc.size with h | h
            · exact h
            · rw [Array.getD_eq_getD_getElem?, Array.getElem?_eq_none h] at hc; simp at hc
          refine .inr ⟨by omega, ?_⟩
          rw [Array.getD_eq_getD_getElem?, hold e.on hlt, ← Array.getD_eq_getD_getElem?]
          exact hc
    | succ k =>
      simp at hk
      have hb : ((l.foldl befStep (befStep acc x)).getD ((befStep acc x).size + k) 0).testBit j = true := by
        rw [hs]
        have : acc.size + 1 + k = acc.size + (k + 1) := by omega
        rw [this]; exact hb
      obtain ⟨e, he, hbi, hc⟩ := h3 k o j hk hb
      rw [hs] at hc
      exact ⟨e, he, hbi, hc.imp id (fun ⟨a, b⟩ => ⟨by omega, b⟩)⟩

theorem bef_spec {ops : Array Oper} {i j : Nat} (h : tb (befOf ops i) j = true) : ∃ o, ops[i]? = some o ∧ ∃ e ∈ o.after.toList, Region.binds .any e = true ∧ (e.on = j ∨ (e.on < i ∧ tb (befOf ops e.on) j = true)) := by
  have hb : Region.before ops = ops.toList.foldl befStep #[] := by
    unfold Region.before; rw [← Array.foldl_toList]; rfl
  have h : ((Region.before ops).getD i 0).testBit j = true := by rw [← tb_eq]; exact h
  obtain ⟨h1, _, h3⟩ := befFold ops.toList #[]
  rw [hb] at h
  have hlt : i < ops.toList.length := by
    rcases Nat.lt_or_ge i ops.toList.length with k | k
    · exact k
    · rw [Array.getD_eq_getD_getElem?, Array.getElem?_eq_none (by rw [h1]; simpa using k)] at h; simp at h
  obtain ⟨e, he, hbi, hc⟩ := h3 i (ops.toList[i]'hlt) j (List.getElem?_eq_getElem hlt) (by simpa using h)
  refine ⟨ops.toList[i]'hlt, by simp, e, he, hbi, hc.imp id (fun ⟨a, b⟩ => ⟨by simpa using a, ?_⟩)⟩
  rw [tb_eq]; unfold befOf; rw [hb]; exact b

/-- a set that is closed under the edges holds all that stands before its members -/
theorem bef_closed {ops : Array Oper} {L : Nat → Prop} (hL : ∀ i o e, L i → ops[i]? = some o → e ∈ o.after.toList → Region.binds .any e = true → L e.on) :
    ∀ i, (L i ∨ ∀ o e, ops[i]? = some o → e ∈ o.after.toList → Region.binds .any e = true → L e.on) → ∀ j, tb (befOf ops i) j = true → L j := by
  intro i
  induction i using Nat.strongRecOn with
  | _ i ih =>
    intro hi j hj
    obtain ⟨o, ho, e, he, hb, hc⟩ := bef_spec hj
    have hon : L e.on := by
      rcases hi with hi | hi
      · exact hL i o e hi ho he hb
      · exact hi o e ho he hb
    rcases hc with rfl | ⟨hlt, hc⟩
    · exact hon
    · exact ih e.on hlt (.inl hon) j hc

/-- temporaries that an operation looks at -/
def agree (ng : Nat) (T T' : Tr AVal) (xs : List Operand) : Prop := ∀ x ∈ xs, opd ng T x = opd ng T' x

theorem opds_congr {T T' : Tr AVal} : ∀ {xs : List Operand}, agree ng T T' xs → opds ng T xs = opds ng T' xs
  | [], _ => rfl
  | x :: xs, h => by
    rw [opds_cons, opds_cons, h x (by simp), opds_congr (fun y hy => h y (by simp [hy]))]
theorem partsOf_congr {T T' : Tr AVal} : ∀ {xs : List (Nat × Operand)}, agree ng T T' (xs.map (·.2)) → partsOf ng T xs = partsOf ng T' xs
  | [], _ => rfl
  | (i, x) :: xs, h => by
    simp only [partsOf]
    rw [h x (by simp), partsOf_congr (fun y hy => h y (by simp at hy ⊢; exact .inr hy))]

theorem pOp_congr {T T' : Tr AVal} {o : Op} (h : agree ng T T' o.operands.toList) : pOp P ng T o = pOp P ng T' o := by
  cases o with
  | move x => exact h x (by simp [Op.operands])
  | assign x => exact h x (by simp [Op.operands])
  | pick c a b => show pPick _ _ _ = pPick _ _ _; rw [h c (by simp [Op.operands]), h a (by simp [Op.operands]), h b (by simp [Op.operands])]
  | build t ps => show pBuild P t _ = pBuild P t _; rw [partsOf_congr (fun x hx => h x (by simpa [Op.operands] using hx))]
  | nilCheck x => show pNil _ = pNil _; rw [h x (by simp [Op.operands])]
  | binOp op t x y yt => show pBin P op t _ _ = pBin P op t _ _; rw [h x (by simp [Op.operands]), h y (by simp [Op.operands])]
  | unOp op t x => show pUn op _ = pUn op _; rw [h x (by simp [Op.operands])]
  | convert s d x => show pConv P s d _ = pConv P s d _; rw [h x (by simp [Op.operands])]
  | makeFunc fn first cap =>
    cases fn with
    | func f =>
      show pFunc f _ _ = pFunc f _ _
      rw [opds_congr (fun x hx => h x (by simp [Op.operands]; simp at hx; exact .inl hx)), opds_congr (fun x hx => h x (by simp [Op.operands]; simp at hx; exact .inr hx))]
    | _ => rfl
  | fieldAddr s x f => show pField P s f _ = pField P s f _; rw [h x (by simp [Op.operands])]
  | indexAddr t x ix => show pIndexAddr P t _ _ = pIndexAddr P t _ _; rw [h x (by simp [Op.operands]), h ix (by simp [Op.operands])]
  | index t x ix => show pIndex P t _ _ = pIndex P t _ _; rw [h x (by simp [Op.operands]), h ix (by simp [Op.operands])]
  | extract x i => show pExtract i _ = pExtract i _; rw [h x (by simp [Op.operands])]
  | call c =>
    obtain ⟨callee, args, ts⟩ := c
    show pCall P ng T _ = pCall P ng T' _
    unfold pCall
    dsimp only
    split
    · rename_i x _ h3
      rw [h x (by simp only [Op.operands, Call.operands, Array.toList_append, h3]; simp)]
    · rfl
  | _ => rfl

theorem optOpd_congr {T T' : Tr AVal} {x : Option Operand} (h : agree ng T T' x.toList) : optOpd ng T x = optOpd ng T' x := by
  cases x with
  | none => rfl
  | some x => simp only [optOpd]; rw [h x (by simp)]

theorem rOp_congr {T T' : Tr AVal} {g : Nat → Option Row} {o : Op} (h : agree ng T T' o.operands.toList) : rOp P ng T g o = rOp P ng T' g o := by
  cases o with
  | load t x => show rLoad P g t _ = rLoad P g t _; rw [h x (by simp [Op.operands])]
  | slice t x lo hi mx =>
    show rSlice P g t _ _ _ _ = rSlice P g t _ _ _ _
    rw [h x (by simp [Op.operands]), optOpd_congr (x := lo) (fun y hy => h y (by simp [Op.operands]; simp at hy; exact .inr (.inl hy))), optOpd_congr (x := hi) (fun y hy => h y (by simp [Op.operands]; simp at hy; exact .inr (.inr (.inl hy))))]
  | call c =>
    obtain ⟨callee, args, ts⟩ := c
    show rCall P ng T g _ = rCall P ng T' g _
    unfold rCall
    dsimp only
    split
    · rename_i x _ h3
      rw [h x (by simp only [Op.operands, Call.operands, Array.toList_append, h3]; simp)]
    · rfl
  | _ => rfl

theorem nOp_congr {T T' : Tr AVal} {o : Op} (h : agree ng T T' o.operands.toList) : nOp P ng T o = nOp P ng T' o := by
  cases o with
  | box t x => show nBox _ = nBox _; rw [h x (by simp [Op.operands])]
  | buildSlice t len ps => show nBuildSlice P t len _ = nBuildSlice P t len _; rw [partsOf_congr (fun x hx => h x (by simpa [Op.operands] using hx))]
  | makeSlice t l c => show nMakeSlice P t _ _ = nMakeSlice P t _ _; rw [h l (by simp [Op.operands]), h c (by simp [Op.operands])]
  | _ => rfl

theorem eOp_congr {call : ACall} {T T' : Tr AVal} {H : AHeap} {o : Op} (h : agree ng T T' o.operands.toList) : eOp P ng call T H o = eOp P ng call T' H o := by
  cases o with
  | store t x y => show eStore P H t _ _ = eStore P H t _ _; rw [h x (by simp [Op.operands]), h y (by simp [Op.operands])]
  | call c =>
    obtain ⟨callee, args, ts⟩ := c
    show eCallee P ng call T H _ = eCallee P ng call T' H _
    have ha : opds ng T args.toList = opds ng T' args.toList := opds_congr (fun x hx => h x (by simp only [Op.operands, Call.operands, Array.toList_append, List.mem_append]; exact .inr hx))
    unfold eCallee
    dsimp only
    rw [ha]
    cases callee with
    | value f => dsimp only; rw [h f (by simp [Op.operands, Call.operands])]
    | builtin b => cases b <;> rfl
    | invoke r m => rfl
  | _ => rfl

end Go.Abs

namespace Go.Abs
open Go
variable {P : Program} {ng n B : Nat} {ρ : Rho}

theorem aOps_append (call : ACall) (ops : List Oper) : ∀ (l₁ l₂ : List Oper) (T : Tr AVal) (H : AHeap),
    aOps P ng call n ops (l₁ ++ l₂) T H = (match aOps P ng call n ops l₁ T H with | some r => aOps P ng call n ops l₂ r.1 r.2 | none => none)
  | [], l₂, T, H => rfl
  | o :: l₁, l₂, T, H => by
    rw [List.cons_append, aOps_cons, aOps_cons]
    split
    · cases aOp P ng call T H o.op with
      | none => rfl
      | some r => exact aOps_append call ops l₁ l₂ _ _
    · exact aOps_append call ops l₁ l₂ _ _

/-- the states of a run in the order of the text -/
structure Txt (P : Program) (ng : Nat) (call : ACall) (n : Nat) (ops : Array Oper) (Tt : Nat → Tr AVal) (Ht : Nat → AHeap) (vt : Nat → AVal) (wt : Nat → Bool) : Prop where
  want : ∀ i o, ops[i]? = some o → wt i = wantedA ops.toList (Tt i) o
  yes : ∀ i o, ops[i]? = some o → wt i = true → aOp P ng call (Tt i) (Ht i) o.op = some (vt i, Ht (i + 1))
  no : ∀ i o, ops[i]? = some o → wt i = false → vt i = .tuple [] ∧ Ht (i + 1) = Ht i
  tmp : ∀ i o, ops[i]? = some o → Tt (i + 1) = setT n (Tt i) o.dst (vt i)

theorem txt_of {call : ACall} {ops : Array Oper} {T0 T' : Tr AVal} {H0 H' : AHeap} (h : aOps P ng call n ops.toList ops.toList T0 H0 = some (T', H')) :
    ∃ Tt Ht vt wt, Txt P ng call n ops Tt Ht vt wt ∧ Tt 0 = T0 ∧ Ht 0 = H0 ∧ Tt ops.size = T' ∧ Ht ops.size = H' := by
  -- prefixes run
  have hpre : ∀ k, ∃ r, aOps P ng call n ops.toList (ops.toList.take k) T0 H0 = some r := by
    intro k
    have := aOps_append (P := P) (ng := ng) (n := n) call ops.toList (ops.toList.take k) (ops.toList.drop k) T0 H0
    rw [List.take_append_drop, h] at this
    cases hk : aOps P ng call n ops.toList (ops.toList.take k) T0 H0 with
    | none => rw [hk] at this; cases this
    | some r => exact ⟨r, rfl⟩
  let st := fun k => Classical.choose (hpre k)
  have hst : ∀ k, aOps P ng call n ops.toList (ops.toList.take k) T0 H0 = some (st k) := fun k => Classical.choose_spec (hpre k)
  have h0 : st 0 = (T0, H0) := by have := hst 0; simp only [List.take_zero] at this; exact (Option.some.inj (this.symm.trans rfl))
  have hN : st ops.size = (T', H') := by
    have := hst ops.size
    rw [show ops.toList.take ops.size = ops.toList from List.take_of_length_le (by simp), h] at this
    exact (Option.some.inj this).symm
  have hstep : ∀ i o, ops[i]? = some o → aOps P ng call n ops.toList [o] (st i).1 (st i).2 = some (st (i + 1)) := by
    intro i o ho
    have e : ops.toList.take (i + 1) = ops.toList.take i ++ [o] := by
      rw [List.take_add_one]; simp [ho]
    have := hst (i + 1)
    rw [e, aOps_append, hst i] at this
    exact this
  refine ⟨fun k => (st k).1, fun k => (st k).2, fun i => match ops[i]? with | some o => (if wantedA ops.toList (st i).1 o then (match aOp P ng call (st i).1 (st i).2 o.op with | some r => r.1 | none => .tuple []) else .tuple []) | none => .tuple [],
    fun i => match ops[i]? with | some o => wantedA ops.toList (st i).1 o | none => false, ⟨?_, ?_, ?_, ?_⟩, by simp only [h0], by simp only [h0], by simp only [hN], by simp only [hN]⟩
  · intro i o ho; simp only [ho]
  · intro i o ho hw
    simp only [ho] at hw ⊢
    have := hstep i o ho
    rw [aOps_cons, if_pos hw] at this
    rw [if_pos hw]
    cases ha : aOp P ng call (st i).1 (st i).2 o.op with
    | none => rw [ha] at this; cases this
    | some r =>
      rw [ha] at this
      have this : some (setT n (st i).1 o.dst r.1, r.2) = some (st (i + 1)) := this
      have := Option.some.inj this
      simp only [← this]
  · intro i o ho hw
    simp only [ho] at hw ⊢
    have := hstep i o ho
    rw [aOps_cons, if_neg (by simp [hw])] at this
    have this : some (setT n (st i).1 o.dst (.tuple []), (st i).2) = some (st (i + 1)) := this
    have := Option.some.inj this
    simp [hw, ← this]
  · intro i o ho
    simp only [ho]
    have := hstep i o ho
    rw [aOps_cons] at this
    by_cases hw : wantedA ops.toList (st i).1 o = true
    · rw [if_pos hw] at this ⊢
      cases ha : aOp P ng call (st i).1 (st i).2 o.op with
      | none => rw [ha] at this; cases this
      | some r =>
        rw [ha] at this
        have this : some (setT n (st i).1 o.dst r.1, r.2) = some (st (i + 1)) := this
        have := Option.some.inj this
        simp only [← this]
    · rw [if_neg hw] at this ⊢
      have this : some (setT n (st i).1 o.dst (.tuple []), (st i).2) = some (st (i + 1)) := this
      have := Option.some.inj this
      simp only [← this]

/-- the kind of operation i, if it is wanted (4: it is not) -/
noncomputable def kind (ops : Array Oper) (wt : Nat → Bool) (i : Nat) : Nat := match ops[i]? with | some o => if wt i then min 3 (cls o.op) else 4 | none => 4

section
variable (ops : Array Oper) (Tt : Nat → Tr AVal) (Ht : Nat → AHeap) (vt : Nat → AVal) (wt : Nat → Bool)
noncomputable def pendUp : Nat → List Nat
  | 0 => []
  | k + 1 => if kind ops wt k = 2 ∨ kind ops wt k = 3 then k :: pendUp k else pendUp k
noncomputable def esUp : Nat → List (Nat × Tr Row)
  | 0 => []
  | k + 1 => if kind ops wt k = 3 then (k, (Ht (k + 1)).objs) :: esUp k else esUp k
noncomputable def rsUp : Nat → List (Nat × Tr AVal × Op × AVal)
  | 0 => []
  | k + 1 => if kind ops wt k = 1 then (k, Tt k, (ops.getD k default).op, vt k) :: rsUp k else rsUp k
end

theorem aOpsD_cons (call : ACall) (ops : List Oper) (bef : Nat → Nat) (o : Oper) (l : List Oper) (i : Nat) (S : Seen) (T : Tr AVal) (H : AHeap) :
    aOpsD P ng call n ops bef (o :: l) i S T H = if wantedA ops T o then (match aOp P ng call T H o.op with
      | some r => (match nextSeen (bef i) i T o.op S r with | some S' => aOpsD P ng call n ops bef l (i + 1) S' (setT n T o.dst r.1) r.2 | none => none)
      | none => none) else aOpsD P ng call n ops bef l (i + 1) S (setT n T o.dst (.tuple [])) H := by
  show Bool.rec (motive := fun _ => Option (Seen × Tr AVal × AHeap)) (aOpsD P ng call n ops bef l (i + 1) S (setT n T o.dst (.tuple [])) H)
      (Option.rec (motive := fun _ => Option (Seen × Tr AVal × AHeap)) none
        (fun r => Option.rec (motive := fun _ => Option (Seen × Tr AVal × AHeap)) none (fun S' => aOpsD P ng call n ops bef l (i + 1) S' (setT n T o.dst r.1) r.2) (nextSeen (bef i) i T o.op S r)) (aOp P ng call T H o.op)) (wantedA ops T o) = _
  cases wantedA ops T o with
  | false => rfl
  | true =>
    cases aOp P ng call T H o.op with
    | none => rfl
    | some r => simp only [if_true]; cases nextSeen (bef i) i T o.op S r <;> rfl

theorem aOpsD_aOps {call : ACall} {ops : List Oper} {bef : Nat → Nat} : ∀ {l : List Oper} {i : Nat} {S S' : Seen} {T T' : Tr AVal} {H H' : AHeap}, aOpsD P ng call n ops bef l i S T H = some (S', T', H') → aOps P ng call n ops l T H = some (T', H')
  | [], i, S, S', T, T', H, H', h => by cases h; rfl
  | o :: l, i, S, S', T, T', H, H', h => by
    rw [aOpsD_cons] at h
    rw [aOps_cons]
    split at h
    · rename_i hw
      rw [if_pos hw]
      cases hr : aOp P ng call T H o.op with
      | none => rw [hr] at h; cases h
      | some r =>
        rw [hr] at h
        simp only [] at h ⊢
        cases hS : nextSeen (bef i) i T o.op S r with
        | none => rw [hS] at h; cases h
        | some S1 => rw [hS] at h; exact aOpsD_aOps h
    · rename_i hw
      rw [if_neg hw]; exact aOpsD_aOps h

theorem pendOk_all {m : Nat} : ∀ {l : List Nat}, pendOk m l = true → ∀ a ∈ l, tb m a = true
  | [], _, a, ha => by cases ha
  | b :: l, h, a, ha => by
    have h : Bool.rec (motive := fun _ => Bool) false (pendOk m l) (tb m b) = true := h
    cases hb : tb m b with
    | false => rw [hb] at h; cases h
    | true =>
      rw [hb] at h
      rcases List.mem_cons.1 ha with rfl | ha
      · exact hb
      · exact pendOk_all h a ha

/-- what the run has seen -/
theorem aOpsD_seen {call : ACall} {ops : Array Oper} {bef : Nat → Nat} {Tt : Nat → Tr AVal} {Ht : Nat → AHeap} {vt : Nat → AVal} {wt : Nat → Bool} (tx : Txt P ng call n ops Tt Ht vt wt) :
    ∀ {l : List Oper} {i : Nat} {S' : Seen} {T' : Tr AVal} {H' : AHeap}, ops.toList.drop i = l → i ≤ ops.size →
      aOpsD P ng call n ops.toList bef l i ⟨pendUp ops wt i, esUp ops Ht wt i, rsUp ops Tt vt wt i⟩ (Tt i) (Ht i) = some (S', T', H') →
      S' = ⟨pendUp ops wt ops.size, esUp ops Ht wt ops.size, rsUp ops Tt vt wt ops.size⟩ ∧ ∀ k, i ≤ k → k < ops.size → kind ops wt k = 3 → ∀ a ∈ pendUp ops wt k, tb (bef k) a = true
  | [], i, S', T', H', hl, hi, h => by
    have hN : i = ops.size := by
      have : ops.toList.length ≤ i := List.drop_eq_nil_iff.1 hl
      simp at this; omega
    cases h
    subst hN
    exact ⟨rfl, fun k h1 h2 => by omega⟩
  | o :: l, i, S', T', H', hl, hi, h => by
    have ho : ops[i]? = some o := by
      have : (ops.toList.drop i)[0]? = some o := by rw [hl]; rfl
      rw [List.getElem?_drop] at this; simpa using this
    have hlt : i < ops.size := by
      rcases Nat.lt_or_ge i ops.size with k | k
      · exact k
      · rw [Array.getElem?_eq_none k] at ho; cases ho
    have hl' : ops.toList.drop (i + 1) = l := by rw [← List.drop_drop, hl]; rfl
    have hwt := tx.want i o ho
    have htmp := tx.tmp i o ho
    rw [aOpsD_cons, ← hwt] at h
    have hk : kind ops wt i = if wt i then min 3 (cls o.op) else 4 := by simp [kind, ho]
    have hget : (ops.getD i default).op = o.op := by simp [ho]
    cases hw : wt i with
    | false =>
      rw [hw] at h hk
      simp only [Bool.false_eq_true, if_false] at h hk
      obtain ⟨h1, h2⟩ := tx.no i o ho hw
      rw [← h1, ← htmp, ← h2] at h
      have e1 : pendUp ops wt (i + 1) = pendUp ops wt i := by simp [pendUp, hk]
      have e2 : esUp ops Ht wt (i + 1) = esUp ops Ht wt i := by simp [esUp, hk]
      have e3 : rsUp ops Tt vt wt (i + 1) = rsUp ops Tt vt wt i := by simp [rsUp, hk]
      rw [← e1, ← e2, ← e3] at h
      obtain ⟨g1, g2⟩ := aOpsD_seen tx hl' hlt h
      refine ⟨g1, fun k a b c => ?_⟩
      rcases Nat.eq_or_lt_of_le a with rfl | a
      · rw [hk] at c; cases c
      · exact g2 k a b c
    | true =>
      rw [hw] at h hk
      simp only [if_true] at h hk
      rw [tx.yes i o ho hw] at h
      simp only [] at h
      rw [← htmp] at h
      have key : ∀ S1, nextSeen (bef i) i (Tt i) o.op ⟨pendUp ops wt i, esUp ops Ht wt i, rsUp ops Tt vt wt i⟩ (vt i, Ht (i + 1)) = some S1 →
          S1 = ⟨pendUp ops wt (i + 1), esUp ops Ht wt (i + 1), rsUp ops Tt vt wt (i + 1)⟩ ∧ (kind ops wt i = 3 → ∀ a ∈ pendUp ops wt i, tb (bef i) a = true) := by
        intro S1 hS
        unfold nextSeen at hS
        split at hS
        · rename_i hc
          cases hS
          have hk0 : kind ops wt i = 0 := by rw [hk, hc]; rfl
          exact ⟨by simp [pendUp, esUp, rsUp, hk0], fun k => by rw [hk0] at k; cases k⟩
        · rename_i hc
          cases hS
          have hk0 : kind ops wt i = 1 := by rw [hk, hc]; rfl
          exact ⟨by simp [pendUp, esUp, rsUp, hk0, stepR, ho], fun k => by rw [hk0] at k; cases k⟩
        · rename_i hc
          cases hS
          have hk0 : kind ops wt i = 2 := by rw [hk, hc]; rfl
          exact ⟨by simp [pendUp, esUp, rsUp, hk0, stepA], fun k => by rw [hk0] at k; cases k⟩
        · rename_i x hc0 hc1 hc2
          have hge : 3 ≤ cls o.op := by
            rcases Nat.lt_or_ge (cls o.op) 3 with k | k
            · exfalso
              rcases hcc : cls o.op with _ | _ | _ | _
              · exact hc0 hcc
              · exact hc1 hcc
              · exact hc2 hcc
              · omega
            · exact k
          have hk0 : kind ops wt i = 3 := by rw [hk]; omega
          split at hS
          · rename_i hp
            cases hS
            exact ⟨by simp [pendUp, esUp, rsUp, hk0, stepE], fun _ => pendOk_all hp⟩
          · cases hS
      cases hS : nextSeen (bef i) i (Tt i) o.op ⟨pendUp ops wt i, esUp ops Ht wt i, rsUp ops Tt vt wt i⟩ (vt i, Ht (i + 1)) with
      | none => rw [hS] at h; cases h
      | some S1 =>
        rw [hS] at h
        obtain ⟨rfl, hp⟩ := key S1 hS
        obtain ⟨g1, g2⟩ := aOpsD_seen tx hl' hlt h
        refine ⟨g1, fun k a b c => ?_⟩
        rcases Nat.eq_or_lt_of_le a with rfl | a
        · exact hp c
        · exact g2 k a b c

end Go.Abs

namespace Go.Abs
open Go
variable {P : Program} {ng n B : Nat} {ρ : Rho}

mutual
theorem beqA_eq : ∀ (a b : AVal), beqA a b = true → a = b
  | .bool a, .bool b, h => by simp [beqA] at h; rw [h]
  | .int j a, .int k b, h => by simp [beqA] at h; rw [h.1, h.2]
  | .str a, .str b, h => by simp [beqA] at h; rw [h]
  | .nilPtr, .nilPtr, _ => rfl
  | .ptr v o, .ptr v' o', h => by
    simp only [beqA, Bool.and_eq_true] at h
    rw [beq_true h.1, beq_true h.2]
  | .nilSlice, .nilSlice, _ => rfl
  | .slice v o k l, .slice v' o' k' l', h => by
    simp only [beqA, Bool.and_eq_true, decide_eq_true_eq] at h
    rw [beq_true h.1.1.1, beq_true h.1.1.2, beq_true h.1.2, h.2]
  | .emptySl, .emptySl, _ => rfl
  | .nilFunc, .nilFunc, _ => rfl
  | .func f a b, .func f' a' b', h => by
    simp only [beqA, Bool.and_eq_true] at h
    rw [beq_true h.1.1, beqAs_eq a a' h.1.2, beqAs_eq b b' h.2]
  | .agg a, .agg b, h => by simp only [beqA] at h; rw [beqAs_eq a b h]
  | .tuple a, .tuple b, h => by simp only [beqA] at h; rw [beqAs_eq a b h]
  | .bool _, .int _ _, h | .bool _, .str _, h | .bool _, .nilPtr, h | .bool _, .ptr _ _, h | .bool _, .nilSlice, h | .bool _, .slice _ _ _ _, h | .bool _, .emptySl, h | .bool _, .nilFunc, h | .bool _, .func _ _ _, h | .bool _, .agg _, h | .bool _, .tuple _, h => by simp [beqA] at h
  | .int _ _, .bool _, h | .int _ _, .str _, h | .int _ _, .nilPtr, h | .int _ _, .ptr _ _, h | .int _ _, .nilSlice, h | .int _ _, .slice _ _ _ _, h | .int _ _, .emptySl, h | .int _ _, .nilFunc, h | .int _ _, .func _ _ _, h | .int _ _, .agg _, h | .int _ _, .tuple _, h => by simp [beqA] at h
  | .str _, .bool _, h | .str _, .int _ _, h | .str _, .nilPtr, h | .str _, .ptr _ _, h | .str _, .nilSlice, h | .str _, .slice _ _ _ _, h | .str _, .emptySl, h | .str _, .nilFunc, h | .str _, .func _ _ _, h | .str _, .agg _, h | .str _, .tuple _, h => by simp [beqA] at h
  | .nilPtr, .bool _, h | .nilPtr, .int _ _, h | .nilPtr, .str _, h | .nilPtr, .ptr _ _, h | .nilPtr, .nilSlice, h | .nilPtr, .slice _ _ _ _, h | .nilPtr, .emptySl, h | .nilPtr, .nilFunc, h | .nilPtr, .func _ _ _, h | .nilPtr, .agg _, h | .nilPtr, .tuple _, h => by simp [beqA] at h
  | .ptr _ _, .bool _, h | .ptr _ _, .int _ _, h | .ptr _ _, .str _, h | .ptr _ _, .nilPtr, h | .ptr _ _, .nilSlice, h | .ptr _ _, .slice _ _ _ _, h | .ptr _ _, .emptySl, h | .ptr _ _, .nilFunc, h | .ptr _ _, .func _ _ _, h | .ptr _ _, .agg _, h | .ptr _ _, .tuple _, h => by simp [beqA] at h
  | .nilSlice, .bool _, h | .nilSlice, .int _ _, h | .nilSlice, .str _, h | .nilSlice, .nilPtr, h | .nilSlice, .ptr _ _, h | .nilSlice, .slice _ _ _ _, h | .nilSlice, .emptySl, h | .nilSlice, .nilFunc, h | .nilSlice, .func _ _ _, h | .nilSlice, .agg _, h | .nilSlice, .tuple _, h => by simp [beqA] at h
  | .slice _ _ _ _, .bool _, h | .slice _ _ _ _, .int _ _, h | .slice _ _ _ _, .str _, h | .slice _ _ _ _, .nilPtr, h | .slice _ _ _ _, .ptr _ _, h | .slice _ _ _ _, .nilSlice, h | .slice _ _ _ _, .emptySl, h | .slice _ _ _ _, .nilFunc, h | .slice _ _ _ _, .func _ _ _, h | .slice _ _ _ _, .agg _, h | .slice _ _ _ _, .tuple _, h => by simp [beqA] at h
  | .emptySl, .bool _, h | .emptySl, .int _ _, h | .emptySl, .str _, h | .emptySl, .nilPtr, h | .emptySl, .ptr _ _, h | .emptySl, .nilSlice, h | .emptySl, .slice _ _ _ _, h | .emptySl, .nilFunc, h | .emptySl, .func _ _ _, h | .emptySl, .agg _, h | .emptySl, .tuple _, h => by simp [beqA] at h
  | .nilFunc, .bool _, h | .nilFunc, .int _ _, h | .nilFunc, .str _, h | .nilFunc, .nilPtr, h | .nilFunc, .ptr _ _, h | .nilFunc, .nilSlice, h | .nilFunc, .slice _ _ _ _, h | .nilFunc, .emptySl, h | .nilFunc, .func _ _ _, h | .nilFunc, .agg _, h | .nilFunc, .tuple _, h => by simp [beqA] at h
  | .func _ _ _, .bool _, h | .func _ _ _, .int _ _, h | .func _ _ _, .str _, h | .func _ _ _, .nilPtr, h | .func _ _ _, .ptr _ _, h | .func _ _ _, .nilSlice, h | .func _ _ _, .slice _ _ _ _, h | .func _ _ _, .emptySl, h | .func _ _ _, .nilFunc, h | .func _ _ _, .agg _, h | .func _ _ _, .tuple _, h => by simp [beqA] at h
  | .agg _, .bool _, h | .agg _, .int _ _, h | .agg _, .str _, h | .agg _, .nilPtr, h | .agg _, .ptr _ _, h | .agg _, .nilSlice, h | .agg _, .slice _ _ _ _, h | .agg _, .emptySl, h | .agg _, .nilFunc, h | .agg _, .func _ _ _, h | .agg _, .tuple _, h => by simp [beqA] at h
  | .tuple _, .bool _, h | .tuple _, .int _ _, h | .tuple _, .str _, h | .tuple _, .nilPtr, h | .tuple _, .ptr _ _, h | .tuple _, .nilSlice, h | .tuple _, .slice _ _ _ _, h | .tuple _, .emptySl, h | .tuple _, .nilFunc, h | .tuple _, .func _ _ _, h | .tuple _, .agg _, h => by simp [beqA] at h
theorem beqAs_eq : ∀ (a b : List AVal), beqAs a b = true → a = b
  | [], [], _ => rfl
  | x :: xs, y :: ys, h => by
    simp only [beqAs, Bool.and_eq_true] at h
    rw [beqA_eq x y h.1, beqAs_eq xs ys h.2]
  | [], _ :: _, h | _ :: _, [], h => by simp [beqAs] at h
end

theorem sameRead_eq {T : Tr AVal} {g : Nat → Option Row} {o : Op} {v : AVal} (h : sameRead P ng T g o v = true) : rOp P ng T g o = some v := by
  unfold sameRead at h
  split at h
  · rename_i x hx; rw [hx, beqA_eq x v h]
  · cases h

section reads
variable {ops : Array Oper} {Ht : Nat → AHeap} {wt : Nat → Bool} {bef : Nat → Nat} {j : Nat} {T : Tr AVal} {o : Op} {v : AVal}

def RCond (P : Program) (ng : Nat) (Ht : Nat → AHeap) (bef : Nat → Nat) (j : Nat) (T : Tr AVal) (o : Op) (v : AVal) (p : Nat) (up : Option Nat) : Prop :=
  (∃ e, up = some e ∧ tb (bef j) e = true) ∨ (∃ q, p = q + 1 ∧ tb (bef q) j = true) ∨ rOp P ng T (Ht p).objs.get o = some v

def NextE (ops : Array Oper) (wt : Nat → Bool) (p k : Nat) (up up' : Option Nat) : Prop :=
  ((∀ q, p ≤ q → q < k → kind ops wt q ≠ 3) ∧ up' = up) ∨ ∃ q, p ≤ q ∧ q < k ∧ kind ops wt q = 3 ∧ (∀ r, p ≤ r → r < q → kind ops wt r ≠ 3) ∧ up' = some q

theorem readOk_nil (objs0 : Tr Row) (up : Option Nat) : readOk P ng bef objs0 j T o v [] up = ((match up with | some e => tb (bef j) e | none => false) || sameRead P ng T objs0.get o v) := rfl
theorem readOk_cons (objs0 : Tr Row) (e : Nat × Tr Row) (es : List (Nat × Tr Row)) (up : Option Nat) :
    readOk P ng bef objs0 j T o v (e :: es) up = (((match up with | some e' => tb (bef j) e' | none => false) || tb (bef e.1) j || sameRead P ng T e.2.get o v) && readOk P ng bef objs0 j T o v es (some e.1)) := rfl

theorem up_or {up : Option Nat} (h : (match up with | some e => tb (bef j) e | none => false) = true) : ∃ e, up = some e ∧ tb (bef j) e = true := by
  cases up with
  | none => cases h
  | some e => exact ⟨e, rfl, h⟩

theorem readOk_at : ∀ (k : Nat) (up : Option Nat), readOk P ng bef (Ht 0).objs j T o v (esUp ops Ht wt k) up = true → ∀ p, p ≤ k → (p = 0 ∨ ∃ q, p = q + 1 ∧ kind ops wt q = 3) → ∀ up', NextE ops wt p k up up' → RCond P ng Ht bef j T o v p up'
  | 0, up, h, p, hp, _, up', hn => by
    obtain rfl : p = 0 := by omega
    have hup : up' = up := by
      rcases hn with ⟨_, h⟩ | ⟨q, _, hq, _⟩
      · exact h
      · omega
    subst hup
    rw [show esUp ops Ht wt 0 = [] from rfl, readOk_nil, Bool.or_eq_true] at h
    rcases h with h | h
    · exact .inl (up_or h)
    · exact .inr (.inr (sameRead_eq h))
  | k + 1, up, h, p, hp, hpe, up', hn => by
    by_cases hk : kind ops wt k = 3
    · have es : esUp ops Ht wt (k + 1) = (k, (Ht (k + 1)).objs) :: esUp ops Ht wt k := by simp [esUp, hk]
      rw [es, readOk_cons, Bool.and_eq_true, Bool.or_eq_true, Bool.or_eq_true] at h
      rcases Nat.eq_or_lt_of_le hp with rfl | hlt
      · have hup : up' = up := by
          rcases hn with ⟨_, h⟩ | ⟨q, h1, h2, _⟩
          · exact h
          · omega
        subst hup
        rcases h.1 with (h | h) | h
        · exact .inl (up_or h)
        · exact .inr (.inl ⟨k, rfl, h⟩)
        · exact .inr (.inr (sameRead_eq h))
      · refine readOk_at k (some k) h.2 p (by omega) hpe up' ?_
        rcases hn with ⟨h1, _⟩ | ⟨q, h1, h2, h3, h4, h5⟩
        · exact absurd hk (h1 k (by omega) (by omega))
        · rcases Nat.eq_or_lt_of_le (Nat.le_of_lt_succ h2) with rfl | hq
          · exact .inl ⟨h4, h5⟩
          · exact .inr ⟨q, h1, hq, h3, h4, h5⟩
    · have es : esUp ops Ht wt (k + 1) = esUp ops Ht wt k := by simp [esUp, hk]
      rw [es] at h
      rcases Nat.eq_or_lt_of_le hp with rfl | hlt
      · rcases hpe with h0 | ⟨q, hq, hq3⟩
        · omega
        · obtain rfl : q = k := by omega
          exact absurd hq3 hk
      · refine readOk_at k up h p (by omega) hpe up' ?_
        rcases hn with ⟨h1, h2⟩ | ⟨q, h1, h2, h3, h4, h5⟩
        · exact .inl ⟨fun q a b => h1 q a (by omega), h2⟩
        · rcases Nat.eq_or_lt_of_le (Nat.le_of_lt_succ h2) with rfl | hq
          · exact absurd h3 hk
          · exact .inr ⟨q, h1, hq, h3, h4, h5⟩

theorem readsOk_mem {objs0 : Tr Row} {es : List (Nat × Tr Row)} : ∀ {rs : List (Nat × Tr AVal × Op × AVal)}, readsOk P ng bef objs0 es rs = true → ∀ r ∈ rs, readOk P ng bef objs0 r.1 r.2.1 r.2.2.1 r.2.2.2 es none = true
  | [], _, r, hr => by cases hr
  | x :: rs, h, r, hr => by
    have h : (readOk P ng bef objs0 x.1 x.2.1 x.2.2.1 x.2.2.2 es none && readsOk P ng bef objs0 es rs) = true := h
    rw [Bool.and_eq_true] at h
    rcases List.mem_cons.1 hr with rfl | hr
    · exact h.1
    · exact readsOk_mem h.2 r hr
end reads

/-- rows beside: each has its own family and a number from m on -/
structure Beside (m : Nat) (G : Nat → Option Row) : Prop where
  lo : ∀ v r, G v = some r → m ≤ v ∧ r.fam = v ∧ r.ro = false

def over {β : Type} (G b : Nat → Option β) : Nat → Option β := fun v => match G v with | some x => some x | none => b v
theorem over_some {β : Type} {G b : Nat → Option β} {v : Nat} {x : β} (h : over G b v = some x) : G v = some x ∨ (G v = none ∧ b v = some x) := by
  unfold over at h
  cases hg : G v with
  | some y => rw [hg] at h; cases h; exact .inl rfl
  | none => rw [hg] at h; exact .inr ⟨rfl, h⟩
theorem over_left {β : Type} {G b : Nat → Option β} {v : Nat} {x : β} (h : G v = some x) : over G b v = some x := by simp [over, h]
theorem over_right {β : Type} {G b : Nat → Option β} {v : Nat} (h : G v = none) : over G b v = b v := by simp [over, h]

/-- a step on some rows, the others beside it -/
theorem Chg.frame {b b' G : Nat → Option Row} {bf bf' GF : Nat → Option (List Nat)} {m m' : Nat} {ρ' : Rho} {w w' : World}
    (s : SimF B ng ρ (over G b) (over GF bf) w.heap) (hb : ∀ v r, b v = some r → v < m ∧ r.fam < m) (hb' : ∀ v r, b' v = some r → v < m' ∧ r.fam < m') (hG : Beside m' G) (hm : m ≤ m')
    (hGF : ∀ v, GF v = (G v).map fun _ => [v]) (hfree : Free ρ m m') (c : Chg B ng b m m' ρ w b' bf' ρ' w') : Chg B ng (over G b) m m' ρ w (over G b') (over GF bf') ρ' w' := by
  have hext := c.exts hfree
  have Gnone : ∀ v, v < m' → G v = none := fun v hv => by
    cases h : G v with
    | none => rfl
    | some r => have := (hG.lo v r h).1; omega
  have bin : ∀ v r, b v = some r → over G b v = some r := fun v r h => by rw [over_right (Gnone v (by have := (hb v r h).1; omega))]; exact h
  -- blocks beside are apart from those of the rows of b that may be written
  have far : ∀ u ru lu v r l, G u = some ru → ρ u = some lu → b v = some r → ρ v = some l → lu.blk ≠ l.blk := by
    intro u ru lu v r l hu hlu hv hl e
    have ne : u ≠ v := by have := (hG.lo u ru hu).1; have := (hb v r hv).1; omega
    rcases s.sep u v ru r lu l ne (over_left hu) (bin v r hv) hlu hl e with ⟨h1, _⟩ | ⟨_, _, h3, _⟩
    · rw [(hG.lo u ru hu).2.2] at h1; cases h1
    · have := (hG.lo u ru hu); have := (hb v r hv).2; omega
  have ρG : ∀ u ru, G u = some ru → ρ' u = ρ u := fun u ru hu => c.ext u (fun k => by have := (hG.lo u ru hu).1; omega)
  have stay : ∀ u ru, G u = some ru → ∃ l C e fz, ρ u = some l ∧ w.heap[l.blk]? = some (.cells C e fz) ∧ w'.heap[l.blk]? = some (.cells C e fz) ∧ RowOk B ρ ru l C fz := by
    intro u ru hu
    obtain ⟨l, C, e, fz, hl, hbk, ok⟩ := s.row u ru (over_left hu)
    refine ⟨l, C, e, fz, hl, hbk, ?_, ok⟩
    rw [c.unch l.blk (lt_of_get hbk) (fun v r lv hv hro hlv e => far u ru l v r lv hu hl hv hlv e.symm)]
    exact hbk
  have farNew : ∀ u ru lu v r l, G u = some ru → ρ u = some lu → b' v = some r → ρ' v = some l → lu.blk ≠ l.blk := by
    intro u ru lu v r l hu hlu hv hl e
    obtain ⟨l1, C, e1, fz, hl1, hbk, _⟩ := s.row u ru (over_left hu)
    rw [hlu] at hl1; cases hl1
    have hlt := lt_of_get hbk
    cases hro : r.ro with
    | true =>
      have hvb := c.rok v r hv hro
      have := (hb v r hvb).1
      rw [c.ext v (fun k => by omega)] at hl
      exact far u ru lu v r l hu hlu hvb hl e
    | false =>
      rcases c.frsh v r l hv hro hl with h | ⟨x, rx, lx, hx, _, hlx, hbe⟩
      · omega
      · exact far u ru lu x rx lx hu hlu hx hlx (e.trans hbe.symm)
  refine ⟨⟨by have := s.base; have := c.size; omega, c.sim.glob, fun v r hv => ?_, fun u v ru rv lu lv ne hu hv hlu hlv => ?_, fun v r mem hv hro hm' => ?_⟩, c.ext, c.os, c.tape, c.output, c.size, fun k hk hn => ?_, fun v r l hv hro hl => ?_, fun v r hv hro => ?_⟩
  · rcases over_some hv with hv | ⟨_, hv⟩
    · obtain ⟨l, C, e, fz, hl, _, hb2, ok⟩ := stay v r hv
      exact ⟨l, C, e, fz, by rw [ρG v r hv]; exact hl, hb2, ok.mono hext⟩
    · exact c.sim.row v r hv
  · rcases over_some hu with hu | ⟨_, hu⟩
    · rcases over_some hv with hv | ⟨_, hv⟩
      · rw [ρG u ru hu] at hlu; rw [ρG v rv hv] at hlv
        exact s.sep u v ru rv lu lv ne (over_left hu) (over_left hv) hlu hlv
      · rw [ρG u ru hu] at hlu
        exact fun e => absurd e (farNew u ru lu v rv lv hu hlu hv hlv)
    · rcases over_some hv with hv | ⟨_, hv⟩
      · rw [ρG v rv hv] at hlv
        exact fun e => absurd e.symm (farNew v rv lv u ru lu hv hlv hu hlu)
      · exact c.sim.sep u v ru rv lu lv ne hu hv hlu hlv
  · rcases over_some hv with hv | ⟨_, hv⟩
    · have hf := (hG.lo v r hv).2.1
      rw [hf, over_left (by rw [hGF, hv]; rfl)] at hm'
      cases hm'; simp
    · have := (hb' v r hv).2
      rw [over_right (by rw [hGF, Gnone _ this]; rfl)] at hm'
      exact c.sim.fam v r mem hv hro hm'
  · exact c.unch k hk (fun v r l hv hro hl => hn v r l (bin v r hv) hro hl)
  · rcases over_some hv with hv | ⟨_, hv⟩
    · rw [ρG v r hv] at hl
      exact .inr ⟨v, r, l, over_left hv, hro, hl, rfl⟩
    · rcases c.frsh v r l hv hro hl with h | ⟨x, rx, lx, hx, hxo, hlx, hbe⟩
      · exact .inl h
      · exact .inr ⟨x, rx, lx, bin x rx hx, hxo, hlx, hbe⟩
  · rcases over_some hv with hv | ⟨_, hv⟩
    · exact over_left hv
    · exact bin v r (c.rok v r hv hro)

end Go.Abs

namespace Go.Abs
open Go

/-- operations that no edge holds apart do not look at each other's temporaries -/
noncomputable def apartAll (ops : Array Oper) : Bool :=
  (List.range ops.size).all fun j => (List.range j).all fun i => tb (befOf ops j) i || (ops.getD i default).apart ops (ops.getD j default)

noncomputable def ordOk (md : Region.Mode) (ops : Array Oper) : List Nat → List Nat → Bool
  | [], seen => (List.range ops.size).all fun i => seen.contains i
  | i :: rest, seen => (match ops[i]? with | some o => o.after.toList.all (fun e => !Region.binds md e || seen.contains e.on) | none => false) && ordOk md ops rest (i :: seen)

noncomputable def drawStatic (ops : Array Oper) : Bool :=
  ordOk .any ops (Region.linearise .any ops 0) [] && ordOk .text ops (Region.linearise .text ops 0) [] && ordOk .gc ops (Region.linearise .gc ops 0) [] && apartAll ops

theorem ordOk_all {md : Region.Mode} {ops : Array Oper} {L : Nat → Bool} (hL : ∀ i, i < ops.size → L i = false → ∃ o e, ops[i]? = some o ∧ e ∈ o.after.toList ∧ Region.binds md e = true ∧ L e.on = false) :
    ∀ (l seen : List Nat), ordOk md ops l seen = true → (∀ i ∈ seen, L i = true) → ∀ i, i < ops.size → L i = true
  | [], seen, h, hs, i, hi => by
    simp only [ordOk, List.all_eq_true, List.mem_range] at h
    exact hs i (by simpa using h i hi)
  | k :: rest, seen, h, hs, i, hi => by
    simp only [ordOk, Bool.and_eq_true] at h
    refine ordOk_all hL rest (k :: seen) h.2 (fun x hx => ?_) i hi
    rcases List.mem_cons.1 hx with rfl | hx
    · cases hk : L x with
      | true => rfl
      | false =>
        exfalso
        have h1 := h.1
        cases ho : ops[x]? with
        | none => rw [ho] at h1; cases h1
        | some o =>
          rw [ho] at h1
          have hlt : x < ops.size := by
            rcases Nat.lt_or_ge x ops.size with k | k
            · exact k
            · rw [Array.getElem?_eq_none k] at ho; cases ho
          obtain ⟨o', e, ho', he, hb, hl⟩ := hL x hlt hk
          rw [ho] at ho'; cases ho'
          simp only [List.all_eq_true] at h1
          have := h1 e he
          simp only [hb, Bool.not_true, Bool.false_or] at this
          have := hs e.on (by simpa using this)
          rw [hl] at this; cases this
    · exact hs x hx

theorem apart_all {ops : Array Oper} (h : apartAll ops = true) {i j : Nat} {oi oj : Oper} (hij : i < j) (hi : ops[i]? = some oi) (hj : ops[j]? = some oj) : tb (befOf ops j) i = true ∨ oi.apart ops oj = true := by
  have hjl : j < ops.size := by
    rcases Nat.lt_or_ge j ops.size with k | k
    · exact k
    · rw [Array.getElem?_eq_none k] at hj; cases hj
  simp only [apartAll, List.all_eq_true, List.mem_range] at h
  have := h j hjl i hij
  rw [Bool.or_eq_true] at this
  rcases this with h | h
  · exact .inl h
  · right
    rw [Array.getD_eq_getD_getElem?, Array.getD_eq_getD_getElem?, hi, hj] at h
    exact h

section
variable (P : Program) (ng : Nat) (call : ACall) (n : Nat) (ops : Array Oper) (Tt : Nat → Tr AVal) (Ht : Nat → AHeap) (vt : Nat → AVal) (wt : Nat → Bool)

def dstOf (k : Nat) : Option Tmp := (ops[k]?).bind (·.dst)
/-- the temporaries when the operations of L have run -/
noncomputable def TL (L : Nat → Bool) : Nat → Tr AVal
  | 0 => Tt 0
  | k + 1 => if L k = true then setT n (TL L k) (dstOf ops k) (vt k) else TL L k
/-- the rows made by operations of L from s on -/
noncomputable def gUp (s : Nat) (L : Nat → Bool) : Nat → Nat → Option Row
  | 0 => fun _ => none
  | k + 1 => if s ≤ k ∧ L k = true ∧ kind ops wt k = 2 then upd (gUp s L k) (Ht k).next ((Ht (k + 1)).objs.get (Ht k).next) else gUp s L k
noncomputable def gfUp (s : Nat) (L : Nat → Bool) : Nat → Nat → Option (List Nat)
  | 0 => fun _ => none
  | k + 1 => if s ≤ k ∧ L k = true ∧ kind ops wt k = 2 then upd (gfUp s L k) (Ht k).next (some [(Ht k).next]) else gfUp s L k
end

theorem getT_setT (n : Nat) (T : Tr AVal) (d : Option Tmp) (v : AVal) (t : Nat) : getT (setT n T d v) t = if d = some t ∧ t < n then v else getT T t := by
  cases d with
  | none => simp [setT_none]
  | some d =>
    rw [setT_some]
    by_cases h1 : d < n
    · rw [if_pos h1, getT_eq, Tr.get_set]
      by_cases h2 : d = t
      · subst h2; simp [h1]
      · rw [if_neg h2, if_neg (by simp [h2]), ← getT_eq]
    · rw [if_neg h1]
      by_cases h2 : d = t
      · subst h2; rw [if_neg (by simp [h1])]
      · rw [if_neg (by simp [h2])]

theorem TRel.congr {ρ : Rho} {n : Nat} {T T' : Tr AVal} {tmps : Array Value} (h : TRel ρ n T tmps) (e : ∀ t, getT T' t = getT T t) : TRel ρ n T' tmps :=
  ⟨h.size, fun i => by rw [e]; exact h.get i⟩

section
variable {P : Program} {ng n B : Nat} {call : ACall} {ops : Array Oper} {Tt : Nat → Tr AVal} {Ht : Nat → AHeap} {vt : Nat → AVal} {wt : Nat → Bool}

/-- what each kind of operation did in the order of the text -/
theorem kind_step (tx : Txt P ng call n ops Tt Ht vt wt) {i : Nat} {o : Oper} (ho : ops[i]? = some o) :
    (kind ops wt i = 0 ∧ wt i = true ∧ pOp P ng (Tt i) o.op = some (vt i) ∧ Ht (i + 1) = Ht i) ∨
    (kind ops wt i = 1 ∧ wt i = true ∧ rOp P ng (Tt i) (Ht i).objs.get o.op = some (vt i) ∧ Ht (i + 1) = Ht i) ∨
    (kind ops wt i = 2 ∧ wt i = true ∧ ∃ cs sz m, nOp P ng (Tt i) o.op = some (cs, sz, m) ∧ vt i = newVal (Ht i).next m ∧ Ht (i + 1) = Abs.alloc (Ht i) cs true sz) ∨
    (kind ops wt i = 3 ∧ wt i = true ∧ eOp P ng call (Tt i) (Ht i) o.op = some (vt i, Ht (i + 1))) ∨
    (kind ops wt i = 4 ∧ wt i = false ∧ vt i = .tuple [] ∧ Ht (i + 1) = Ht i) := by
  cases hw : wt i with
  | false =>
    obtain ⟨h1, h2⟩ := tx.no i o ho hw
    exact .inr (.inr (.inr (.inr ⟨by simp [kind, ho, hw], rfl, h1, h2⟩)))
  | true =>
    have hy := tx.yes i o ho hw
    have hk : kind ops wt i = min 3 (cls o.op) := by simp [kind, ho, hw]
    unfold aOp at hy
    split at hy
    · rename_i hc
      unfold withH at hy
      split at hy
      · rename_i v hv
        injection hy with hy
        injection hy with h1 h2
        subst h1
        exact .inl ⟨by rw [hk, hc]; rfl, rfl, hv, h2.symm⟩
      · cases hy
    · rename_i hc
      unfold withH at hy
      split at hy
      · rename_i v hv
        injection hy with hy
        injection hy with h1 h2
        subst h1
        exact .inr (.inl ⟨by rw [hk, hc]; rfl, rfl, hv, h2.symm⟩)
      · cases hy
    · rename_i hc
      unfold nDone at hy
      split at hy
      · rename_i cs sz m hv
        injection hy with hy
        injection hy with h1 h2
        exact .inr (.inr (.inl ⟨by rw [hk, hc]; rfl, rfl, cs, sz, m, hv, h1.symm, h2.symm⟩))
      · cases hy
    · rename_i hc0 hc1 hc2
      have hge : 3 ≤ cls o.op := by
        rcases Nat.lt_or_ge (cls o.op) 3 with k | k
        · exfalso
          rcases hcc : cls o.op with _ | _ | _ | _
          · exact hc0 hcc
          · exact hc1 hcc
          · exact hc2 hcc
          · omega
        · exact k
      exact .inr (.inr (.inr (.inl ⟨by rw [hk]; omega, rfl, hy⟩)))

end

end Go.Abs

namespace Go.Abs
open Go
variable {P : Program} {ng n B : Nat} {call : ACall} {ops : Array Oper} {Tt : Nat → Tr AVal} {Ht : Nat → AHeap} {vt : Nat → AVal} {wt : Nat → Bool}

theorem next_mono (hcg : CallGrow call) (tx : Txt P ng call n ops Tt Ht vt wt) : ∀ i, i < ops.size → Grow (Ht i) (Ht (i + 1)) := by
  intro i hi
  have ho : ops[i]? = some ops[i] := Array.getElem?_eq_getElem hi
  cases hw : wt i with
  | false => rw [(tx.no i _ ho hw).2]; exact Grow.refl _
  | true => exact aOp_grow hcg (tx.yes i _ ho hw)
theorem next_le (hcg : CallGrow call) (tx : Txt P ng call n ops Tt Ht vt wt) : ∀ (j i : Nat), i ≤ j → j ≤ ops.size → Grow (Ht i) (Ht j) := by
  intro j
  induction j with
  | zero =>
    intro i h _
    obtain rfl : i = 0 := (by omega)
    exact Grow.refl _
  | succ j ih =>
    intro i h hj
    rcases Nat.eq_or_lt_of_le h with rfl | h
    · exact Grow.refl _
    · exact (ih i (by omega) (by omega)).trans (next_mono hcg tx j (by omega))

theorem kind_lt {i : Nat} (h : kind ops wt i ≠ 4) : i < ops.size := by
  rcases Nat.lt_or_ge i ops.size with k | k
  · exact k
  · exfalso; apply h; unfold kind; rw [Array.getElem?_eq_none k]

/-- an operation that made a row -/
theorem made (tx : Txt P ng call n ops Tt Ht vt wt) {i : Nat} (hk : kind ops wt i = 2) :
    ∃ cs sz, Ht (i + 1) = Abs.alloc (Ht i) cs true sz ∧ (Ht (i + 1)).objs.get (Ht i).next = some ⟨cs, (Ht i).next, 0, true, false, sz⟩ ∧ (Ht (i + 1)).next = (Ht i).next + 1 := by
  have hlt := kind_lt (i := i) (ops := ops) (wt := wt) (by rw [hk]; decide)
  have ho : ops[i]? = some ops[i] := Array.getElem?_eq_getElem hlt
  rcases kind_step tx ho with h | h | h | h | h
  · rw [h.1] at hk; cases hk
  · rw [h.1] at hk; cases hk
  · obtain ⟨_, _, cs, sz, m, _, _, he⟩ := h
    refine ⟨cs, sz, he, ?_, ?_⟩
    · rw [he]; exact Tr.get_set_same _ _ _
    · rw [he]; rfl
  · rw [h.1] at hk; cases hk
  · rw [h.1] at hk; cases hk

theorem still (tx : Txt P ng call n ops Tt Ht vt wt) {i : Nat} (hi : i < ops.size) (h2 : kind ops wt i ≠ 2) (h3 : kind ops wt i ≠ 3) : Ht (i + 1) = Ht i := by
  have ho : ops[i]? = some ops[i] := Array.getElem?_eq_getElem hi
  rcases kind_step tx ho with h | h | h | h | h
  · exact h.2.2.2
  · exact h.2.2.2
  · exact absurd h.1 h2
  · exact absurd h.1 h3
  · exact h.2.2.2

/-- rows beside: which they are -/
theorem gUp_some (tx : Txt P ng call n ops Tt Ht vt wt) {s : Nat} {L : Nat → Bool} : ∀ (k v : Nat) (r : Row), gUp ops Ht wt s L k v = some r → ∃ i, s ≤ i ∧ i < k ∧ L i = true ∧ kind ops wt i = 2 ∧ v = (Ht i).next ∧ r.fam = v ∧ r.ro = false
  | 0, v, r, h => by cases h
  | k + 1, v, r, h => by
    simp only [gUp] at h
    split at h
    · rename_i hc
      by_cases e : (Ht k).next = v
      · subst e
        rw [upd_same] at h
        obtain ⟨cs, sz, _, hr, _⟩ := made tx hc.2.2
        rw [hr] at h; cases h
        exact ⟨k, hc.1, by omega, hc.2.1, hc.2.2, rfl, rfl, rfl⟩
      · rw [upd_other _ e] at h
        obtain ⟨i, a, b, c⟩ := gUp_some tx k v r h
        exact ⟨i, a, by omega, c⟩
    · obtain ⟨i, a, b, c⟩ := gUp_some tx k v r h
      exact ⟨i, a, by omega, c⟩

theorem gfUp_eq (tx : Txt P ng call n ops Tt Ht vt wt) {s : Nat} {L : Nat → Bool} : ∀ (k v : Nat), gfUp ops Ht wt s L k v = (gUp ops Ht wt s L k v).map fun _ => [v]
  | 0, v => rfl
  | k + 1, v => by
    simp only [gUp, gfUp]
    split
    · rename_i hc
      by_cases e : (Ht k).next = v
      · subst e
        obtain ⟨cs, sz, _, hr, _⟩ := made tx hc.2.2
        rw [upd_same, upd_same, hr]; rfl
      · rw [upd_other _ e, upd_other _ e]; exact gfUp_eq tx k v
    · exact gfUp_eq tx k v

/-- the operation i joins -/
def join (L : Nat → Bool) (i : Nat) : Nat → Bool := fun k => if k = i then true else L k

theorem gUp_join (hcg : CallGrow call) (tx : Txt P ng call n ops Tt Ht vt wt) {s i : Nat} {L : Nat → Bool} (hsi : s ≤ i) (hki : kind ops wt i = 2) (hLi : L i = false) : ∀ k, k ≤ ops.size →
    gUp ops Ht wt s (join L i) k = (if i < k then upd (gUp ops Ht wt s L k) (Ht i).next ((Ht (i + 1)).objs.get (Ht i).next) else gUp ops Ht wt s L k)
  | 0, _ => by simp [gUp]
  | k + 1, hk => by
    have ih := gUp_join hcg tx hsi hki hLi k (by omega)
    simp only [gUp]
    rcases Nat.lt_trichotomy k i with hlt | rfl | hgt
    · have e : join L i k = L k := by simp [join, Nat.ne_of_lt hlt]
      rw [e, ih, if_neg (show ¬ i < k by omega), if_neg (show ¬ i < k + 1 by omega)]
    · have e : join L k k = true := by simp [join]
      rw [e, ih, if_neg (show ¬ k < k by omega), if_pos ⟨hsi, rfl, hki⟩, if_pos (show k < k + 1 by omega), if_neg (by rw [hLi]; simp)]
    · have e : join L i k = L k := by simp [join, Nat.ne_of_gt hgt]
      rw [e, ih, if_pos hgt, if_pos (show i < k + 1 by omega)]
      split
      · rename_i hc
        have hne : (Ht i).next ≠ (Ht k).next := by
          obtain ⟨_, _, _, _, h1⟩ := made tx hki
          have := (next_le hcg tx k (i + 1) (by omega) (by omega)).1
          omega
        funext v
        by_cases e1 : (Ht k).next = v
        · subst e1; rw [upd_same, upd_other _ hne, upd_same]
        · by_cases e2 : (Ht i).next = v
          · subst e2; rw [upd_other _ e1, upd_same, upd_same]
          · rw [upd_other _ e1, upd_other _ e2, upd_other _ e2, upd_other _ e1]
      · rfl

/-- rows beside from p on, up to q, are those of the text, if all that made one ran and nothing else came between -/
theorem over_text (tx : Txt P ng call n ops Tt Ht vt wt) {L : Nat → Bool} {p q : Nat} (hpq : p ≤ q) (hq : q ≤ ops.size) (hA : ∀ i, p ≤ i → i < q → kind ops wt i = 2 → L i = true) (hE : ∀ i, p ≤ i → i < q → kind ops wt i ≠ 3) :
    ∀ k, p ≤ k → k ≤ q → over (gUp ops Ht wt p L k) (Ht p).objs.get = (Ht k).objs.get ∧ over (gfUp ops Ht wt p L k) (Ht p).fams.get = (Ht k).fams.get := by
  intro k hpk
  induction k with
  | zero =>
    intro _
    obtain rfl : p = 0 := by omega
    exact ⟨rfl, rfl⟩
  | succ k ih =>
    intro hk
    rcases Nat.eq_or_lt_of_le hpk with rfl | hlt
    · -- nothing from p on below p
      have e : ∀ m, m ≤ k + 1 → gUp ops Ht wt (k + 1) L m = (fun _ => none) ∧ gfUp ops Ht wt (k + 1) L m = (fun _ => none) := by
        intro m
        induction m with
        | zero => intro _; exact ⟨rfl, rfl⟩
        | succ m ihm => intro hm; simp only [gUp, gfUp]; rw [if_neg (by omega), if_neg (by omega)]; exact ihm (by omega)
      rw [(e (k + 1) (Nat.le_refl _)).1, (e (k + 1) (Nat.le_refl _)).2]
      exact ⟨rfl, rfl⟩
    · obtain ⟨h1, h2⟩ := ih (by omega) (by omega)
      simp only [gUp, gfUp]
      by_cases hk2 : kind ops wt k = 2
      · rw [if_pos ⟨by omega, hA k (by omega) (by omega) hk2, hk2⟩, if_pos ⟨by omega, hA k (by omega) (by omega) hk2, hk2⟩]
        obtain ⟨cs, sz, he, hr, _⟩ := made tx hk2
        have g : (Ht (k + 1)).objs.get = upd (Ht k).objs.get (Ht k).next ((Ht (k + 1)).objs.get (Ht k).next) := by
          rw [hr, he]; exact get_set_upd _ _ _
        have gf : (Ht (k + 1)).fams.get = upd (Ht k).fams.get (Ht k).next (some [(Ht k).next]) := by rw [he]; exact get_set_upd _ _ _
        rw [g, gf, ← h1, ← h2]
        constructor
        · funext v
          unfold over
          by_cases e : (Ht k).next = v
          · subst e; rw [upd_same, upd_same, hr]
          · rw [upd_other _ e, upd_other _ e]
        · funext v
          unfold over
          by_cases e : (Ht k).next = v
          · subst e; rw [upd_same, upd_same]
          · rw [upd_other _ e, upd_other _ e]
      · rw [if_neg (fun h => hk2 h.2.2), if_neg (fun h => hk2 h.2.2), still tx (by omega) hk2 (hE k (by omega) (by omega))]
        exact ⟨h1, h2⟩

/-- the rows beside, parted at q -/
theorem gUp_split (tx : Txt P ng call n ops Tt Ht vt wt) {L : Nat → Bool} {p q : Nat} (hpq : p ≤ q) : ∀ k, q ≤ k → k ≤ ops.size →
    gUp ops Ht wt p L k = over (gUp ops Ht wt q L k) (gUp ops Ht wt p L q) ∧ gfUp ops Ht wt p L k = over (gfUp ops Ht wt q L k) (gfUp ops Ht wt p L q) := by
  intro k hqk
  induction k with
  | zero =>
    intro _
    obtain rfl : q = 0 := (by omega)
    obtain rfl : p = 0 := (by omega)
    exact ⟨rfl, rfl⟩
  | succ k ih =>
    intro hk
    rcases Nat.eq_or_lt_of_le hqk with rfl | hlt
    · have e : ∀ m, m ≤ k + 1 → gUp ops Ht wt (k + 1) L m = (fun _ => none) ∧ gfUp ops Ht wt (k + 1) L m = (fun _ => none) := by
        intro m
        induction m with
        | zero => intro _; exact ⟨rfl, rfl⟩
        | succ m ihm => intro hm; simp only [gUp, gfUp]; rw [if_neg (by omega), if_neg (by omega)]; exact ihm (by omega)
      rw [(e (k + 1) (Nat.le_refl _)).1, (e (k + 1) (Nat.le_refl _)).2]
      exact ⟨rfl, rfl⟩
    · obtain ⟨h1, h2⟩ := ih (by omega) (by omega)
      simp only [gUp, gfUp]
      by_cases hc : L k = true ∧ kind ops wt k = 2
      · rw [if_pos ⟨by omega, hc⟩, if_pos ⟨by omega, hc⟩, if_pos ⟨by omega, hc⟩, if_pos ⟨by omega, hc⟩, h1, h2]
        obtain ⟨cs, sz, he, hr, _⟩ := made tx hc.2
        constructor
        · funext v
          unfold over
          by_cases e : (Ht k).next = v
          · subst e; simp only [upd_same, hr]
          · simp only [upd_other _ e]
        · funext v
          unfold over
          by_cases e : (Ht k).next = v
          · subst e; simp only [upd_same]
          · simp only [upd_other _ e]
      · rw [if_neg (fun h => hc h.2), if_neg (fun h => hc h.2), if_neg (fun h => hc h.2), if_neg (fun h => hc h.2)]
        exact ⟨h1, h2⟩

theorem over_assoc {β : Type} (a b c : Nat → Option β) : over (over a b) c = over a (over b c) := by
  funext v; unfold over; cases a v <;> rfl

end Go.Abs

namespace Go.Abs
open Go

/-- what is known of a region whose order is open -/
structure Draw (P : Program) (ng : Nat) (call : ACall) (n : Nat) (ops : Array Oper) (Tt : Nat → Tr AVal) (Ht : Nat → AHeap) (vt : Nat → AVal) (wt : Nat → Bool) : Prop where
  tx : Txt P ng call n ops Tt Ht vt wt
  ok : CallOk P ng call
  grow : CallGrow call
  wf : WF (Ht 0)
  apart : apartAll ops = true
  chain : ∀ k, kind ops wt k = 3 → ∀ i, i < k → (kind ops wt i = 2 ∨ kind ops wt i = 3) → tb (befOf ops k) i = true
  reads : ∀ j o, ops[j]? = some o → kind ops wt j = 1 → ∀ p, p ≤ ops.size → (p = 0 ∨ ∃ q, p = q + 1 ∧ kind ops wt q = 3) → ∀ up, NextE ops wt p ops.size none up → RCond P ng Ht (befOf ops) j (Tt j) o.op (vt j) p up

/-- the state after the operations of L, in whatever order -/
def DInv (ng n B : Nat) (ops : Array Oper) (Tt : Nat → Tr AVal) (Ht : Nat → AHeap) (vt : Nat → AVal) (wt : Nat → Bool) (ρ0 : Rho) (w0 : World) (L : Nat → Bool) (a : Act) (w : World) : Prop :=
  ∃ ρ p, a.defers = [] ∧ TRel ρ n (TL n ops Tt vt L ops.size) a.tmps ∧ p ≤ ops.size ∧ (p = 0 ∨ ∃ q, p = q + 1 ∧ kind ops wt q = 3) ∧ (∀ q, kind ops wt q = 3 → (L q = true ↔ q < p)) ∧
    (∀ i, i < ops.size → L i = false → Free ρ (Ht i).next (Ht (i + 1)).next) ∧
    Chg B ng (Ht 0).objs.get (Ht 0).next (Ht ops.size).next ρ0 w0 (over (gUp ops Ht wt p L ops.size) (Ht p).objs.get) (over (gfUp ops Ht wt p L ops.size) (Ht p).fams.get) ρ w

section
variable {P : Program} {ng n B : Nat} {call : ACall} {ops : Array Oper} {Tt : Nat → Tr AVal} {Ht : Nat → AHeap} {vt : Nat → AVal} {wt : Nat → Bool}

/-- temporaries that operation i looks at are as in the order of the text -/
theorem TL_looks (d : Draw P ng call n ops Tt Ht vt wt) {L : Nat → Bool} (hcl : ∀ i j, (L i = true) → tb (befOf ops i) j = true → L j = true) {i : Nat} {o : Oper} (ho : ops[i]? = some o) (hLi : L i = false)
    (hbef : ∀ j, tb (befOf ops i) j = true → L j = true) {t : Nat} (ht : t ∈ o.looksAt ops) : getT (TL n ops Tt vt L ops.size) t = getT (Tt i) t := by
  have hi : i < ops.size := by
    rcases Nat.lt_or_ge i ops.size with k | k
    · exact k
    · rw [Array.getElem?_eq_none k] at ho; cases ho
  -- up to i
  have h1 : ∀ k, k ≤ i → getT (TL n ops Tt vt L k) t = getT (Tt k) t := by
    intro k
    induction k with
    | zero => intro _; rfl
    | succ k ih =>
      intro hk
      have hok : ops[k]? = some (ops[k]'(by omega)) := Array.getElem?_eq_getElem (by omega)
      rw [d.tx.tmp k _ hok, getT_setT]
      simp only [TL, dstOf, hok, Option.bind_some]
      by_cases hd : (ops[k]'(by omega)).dst = some t
      · have hL : L k = true := by
          rcases apart_all d.apart (show k < i by omega) hok ho with h | h
          · exact hbef k h
          · exact absurd ht ((Oper.apart_spec h).1 t hd)
        rw [if_pos hL, getT_setT]
        simp only [hd, true_and]
        split
        · rfl
        · exact ih (by omega)
      · have e : (if (ops[k]'(by omega)).dst = some t ∧ t < n then vt k else getT (Tt k) t) = getT (Tt k) t := if_neg (fun h => hd h.1)
        rw [e]
        by_cases hL : L k = true
        · rw [if_pos hL, getT_setT, if_neg (fun h => hd h.1)]; exact ih (by omega)
        · rw [if_neg hL]; exact ih (by omega)
  -- from i on
  have h2 : ∀ k, i ≤ k → k ≤ ops.size → getT (TL n ops Tt vt L k) t = getT (Tt i) t := by
    intro k hik
    induction k with
    | zero => intro _; obtain rfl : i = 0 := (by omega); exact h1 0 (Nat.le_refl _)
    | succ k ih =>
      intro hk
      rcases Nat.eq_or_lt_of_le hik with rfl | hlt
      · exact h1 (k + 1) (Nat.le_refl _)
      · have hok : ops[k]? = some (ops[k]'(by omega)) := Array.getElem?_eq_getElem (by omega)
        simp only [TL, dstOf, hok, Option.bind_some]
        split
        · rename_i hL
          rw [getT_setT]
          rw [if_neg]
          · exact ih (by omega) (by omega)
          · rintro ⟨hd, _⟩
            rcases Nat.eq_or_lt_of_le (Nat.le_of_lt_succ hlt) with rfl | hlt'
            · rw [hLi] at hL; cases hL
            · rcases apart_all d.apart hlt' ho hok with h | h
              · have := hcl k i hL h; rw [hLi] at this; cases this
              · exact absurd ht ((Oper.apart_spec h).2.2 t hd)
        · exact ih (by omega) (by omega)
  exact h2 ops.size (by omega) (Nat.le_refl _)

/-- after operation i -/
theorem TL_join (d : Draw P ng call n ops Tt Ht vt wt) {L : Nat → Bool} (hcl : ∀ i j, (L i = true) → tb (befOf ops i) j = true → L j = true) {i : Nat} {o : Oper} (ho : ops[i]? = some o) (hLi : L i = false) :
    ∀ t, getT (TL n ops Tt vt (join L i) ops.size) t = getT (setT n (TL n ops Tt vt L ops.size) o.dst (vt i)) t := by
  intro t
  have hi : i < ops.size := by
    rcases Nat.lt_or_ge i ops.size with k | k
    · exact k
    · rw [Array.getElem?_eq_none k] at ho; cases ho
  have h1 : ∀ k, k ≤ i → TL n ops Tt vt (join L i) k = TL n ops Tt vt L k := by
    intro k
    induction k with
    | zero => intro _; rfl
    | succ k ih =>
      intro hk
      have e : join L i k = L k := by simp [join]; omega
      simp only [TL, e, ih (by omega)]
  have h2 : ∀ k, i < k → k ≤ ops.size → getT (TL n ops Tt vt (join L i) k) t = getT (setT n (TL n ops Tt vt L k) o.dst (vt i)) t := by
    intro k hik
    induction k with
    | zero => omega
    | succ k ih =>
      intro hk
      rcases Nat.eq_or_lt_of_le (Nat.le_of_lt_succ hik) with rfl | hlt
      · have e : join L i i = true := by simp [join]
        simp only [TL, e, if_true, hLi, Bool.false_eq_true, if_false, h1 i (Nat.le_refl _), dstOf, ho, Option.bind_some]
      · have e : join L i k = L k := by simp [join]; omega
        have hok : ops[k]? = some (ops[k]'(by omega)) := Array.getElem?_eq_getElem (by omega)
        simp only [TL, e, dstOf, hok, Option.bind_some]
        split
        · rename_i hL
          rw [getT_setT, getT_setT, getT_setT, ih hlt (by omega), getT_setT]
          by_cases c1 : (ops[k]'(by omega)).dst = some t ∧ t < n
          · rw [if_pos c1, if_pos c1]
            rw [if_neg]
            rintro ⟨c2, _⟩
            rcases apart_all d.apart hlt ho hok with h | h
            · have := hcl k i hL h; rw [hLi] at this; cases this
            · exact (Oper.apart_spec h).2.1 t c2 c1.1
          · rw [if_neg c1, if_neg c1]
        · exact ih hlt (by omega)
  exact h2 ops.size hi (Nat.le_refl _)

theorem agree_of_looks {T T' : Tr AVal} {o : Oper} (h : ∀ t, t ∈ o.looksAt ops → getT T t = getT T' t) : agree ng T T' o.op.operands.toList := by
  intro x hx
  cases x with
  | tmp t =>
    show some (getT T t) = some (getT T' t)
    rw [h t (List.mem_append_left _ (List.mem_filterMap.2 ⟨.tmp t, hx, rfl⟩))]
  | _ => rfl

theorem wanted_of_looks {T T' : Tr AVal} {o : Oper} (h : ∀ t, t ∈ o.looksAt ops → getT T t = getT T' t) : wantedA ops.toList T o = wantedA ops.toList T' o := by
  unfold wantedA
  cases hg : o.guard with
  | none => rfl
  | some gw =>
    obtain ⟨j, want⟩ := gw
    simp only []
    cases hj : ops.toList[j]? with
    | none => rfl
    | some oj =>
      simp only []
      cases hd : oj.dst with
      | none => rfl
      | some d =>
        simp only []
        rw [h d]
        unfold Oper.looksAt
        rw [hg]
        have hj' : ops[j]? = some oj := by simpa using hj
        simp [hj', hd]

end

end Go.Abs
