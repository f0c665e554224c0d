/- Calls that are known beforehand: a closed call that was run; library calls in place. -/
import Derived.Test.YtanllkglpjjfbaaGreatDoorRules
import Derived.Shelf.Sort.Plain
import Derived.Test.YtanllkglpjjfbaaGreatDoorMach4
set_option linter.unusedVariables false
set_option linter.unusedSimpArgs false
namespace Go.Abs
open Go
variable {P : Program} {ng B : Nat} {ρ : Rho}

def intsA (zs : List Int) : List AVal := zs.map (AVal.int .i64)
def intsV (zs : List Int) : List Value := zs.map (Value.int .i64)

theorem vrels_intsA : ∀ (zs : List Int), vrels ρ (intsA zs) (intsV zs)
  | [] => rfl
  | z :: zs => vrels_cons.2 ⟨_, _, rfl, rfl, vrels_intsA zs⟩
theorem vrels_intsA_eq : ∀ {zs : List Int} {xs : List Value}, vrels ρ (intsA zs) xs → xs = intsV zs
  | [], _, h => vrels_nil.1 h
  | z :: zs, _, h => by
    obtain ⟨y, ys, rfl, hy, hys⟩ := vrels_cons.1 h
    rw [vrels_intsA_eq hys]
    have hy : y = .int .i64 z := hy
    rw [hy]; rfl

theorem Chg.more {obj : Nat → Option Row} {lo hi : Nat} {w : World} {obj' : Nat → Option Row} {fam' : Nat → Option (List Nat)} {ρ' : Rho} {w1 w2 : World} (c : Chg B ng obj lo hi ρ w obj' fam' ρ' w1) {os : Array Obj}
    (hh : w2.heap = w1.heap ++ os) (hos : w2.os = w1.os) (ht : w2.tape = w1.tape) (ho : w2.output = w1.output) : Chg B ng obj lo hi ρ w obj' fam' ρ' w2 where
  sim := c.sim.kept (by rw [hh]; simp) (fun b hb => by rw [hh, Array.getElem?_append_left hb])
  ext := c.ext
  os := hos.trans c.os
  tape := ht.trans c.tape
  output := ho.trans c.output
  size := by have := c.size; rw [hh]; simp; omega
  unch := fun b hb hn => by
    rw [hh, Array.getElem?_append_left (by have := c.size; omega)]
    exact c.unch b hb hn
  frsh := c.frsh
  rok := c.rok

theorem putRow_heap {w : World} {blk off k : Nat} {C : Array Value} {e : TypeId} {fz : Nat × Nat} (hb : w.heap[blk]? = some (.cells C e fz)) (zs : List Int) (hfit : off + zs.length ≤ C.size) :
    (Sort.putRow (Value.int .i64) (Sort.ahead w k) blk off zs.toArray).heap = (putRow w blk off C (intsV zs)).heap := by
  have hl : (intsV zs).length = zs.length := by simp [intsV]
  apply Array.ext_getElem?
  intro j
  by_cases hj : j = blk
  · subst hj
    have h2 : (putRow w j off C (intsV zs)).heap[j]? = some (.cells (C.toList.take off ++ intsV zs ++ C.toList.drop (off + (intsV zs).length)).toArray e fz) := get_setRow_same w j C _ e fz hb
    rw [h2]
    have h1 : (Sort.putRow (Value.int .i64) (Sort.ahead w k) j off zs.toArray).heap[j]? = some (.cells (Sort.putCells (Value.int .i64) off zs.toArray C) e fz) := by
      simp only [Sort.putRow, Sort.mapBlock, Sort.ahead, Array.getElem?_modify, if_true, hb, Option.map_some, Sort.onCells]
    rw [h1]
    congr 2
    apply Array.ext_getElem?
    intro i
    rw [putRow_get (by rw [hl]; exact hfit)]
    simp only [Sort.putCells, Array.getElem?_mapIdx, List.size_toArray, hl]
    by_cases hi : off ≤ i ∧ i < off + zs.length
    · rw [if_pos hi]
      have hlt : i < C.size := by omega
      have hlt2 : i - off < zs.length := by omega
      rw [Array.getElem?_eq_getElem hlt, Option.map_some, if_pos hi]
      rw [getElem!_pos zs.toArray (i - off) (by simpa using hlt2)]
      simp [intsV, hlt2]
    · rw [if_neg hi]
      cases hc : C[i]? with
      | none => rfl
      | some x => simp [hi]
  · have h2 : (putRow w blk off C (intsV zs)).heap[j]? = w.heap[j]? := get_setRow_other w blk j _ hj
    rw [h2]
    simp only [Sort.putRow, Sort.mapBlock, Sort.ahead, Array.getElem?_modify, if_neg (Ne.symm hj)]

/-- what a call in place leaves -/
def InPlace (w : World) (blk off : Nat) (zs : List Int) (w' : World) : Prop := ∃ n os, w' = Sort.grow (Sort.putRow (Value.int .i64) (Sort.ahead w n) blk off zs.toArray) os

/-- a call that turns the n numbers of a slice of one's own to others, in place -/
theorem inPlace_ok {H H' : AHeap} {w : World} {v n : Nat} {zs new : List Int} {f : FuncId} {res : Loc → Value} (s : Sim B ng ρ H w) (hr : readCells H.objs.get v 0 n = some (intsA zs)) (hw : write H v 0 (intsA new) = some H') (hsz : ∃ r, H.objs.get v = some r ∧ r.sz = 1)
    (hcon : ∀ blk off cap, Sort.Holds (Value.int .i64) w blk off zs.toArray → blk < w.heap.size → zs.length ≤ cap → Calls P f #[.slice (some ⟨blk, off, none⟩) zs.length cap] w (fun e w' => e = .returned (res ⟨blk, off, cap, 1⟩) ∧ InPlace w blk off new w'))
    {xs : List Value} (hx : vrels ρ [.slice v 0 n none] xs) :
    Calls P f ⟨xs⟩ w (fun e w' => ∃ l, ρ v = some l ∧ l.sz = 1 ∧ e = .returned (res l) ∧ Chg B ng H.objs.get H.next H'.next ρ w H'.objs.get H'.fams.get ρ w') := by
  obtain ⟨y, ys, rfl, hy, hys⟩ := vrels_cons.1 hx
  obtain rfl := vrels_nil.1 hys
  obtain ⟨l, hl, rfl⟩ := hy
  obtain ⟨l1, C, e, fz, ys, hl1, hb, hn, hv, hyl, hC⟩ := readCells_sim s hr
  rw [hl] at hl1; cases hl1
  have hys := vrels_intsA_eq hv
  have hzl : zs.length = n := by simpa [intsA] using hn
  obtain ⟨l2, C2, e2, hl2, hb2, hfit, _, hnx, chg⟩ := chg_write s hw (vrels_intsA new)
  rw [hl] at hl2; cases hl2
  rw [hb] at hb2; cases hb2
  obtain ⟨r, hrow, hr1⟩ := hsz
  obtain ⟨l3, C3, e3, fz3, hl3, hb3, ok⟩ := s.row v r hrow
  rw [hl] at hl3; cases hl3
  rw [hb] at hb3; cases hb3
  have hsz1 : l.sz = 1 := by rw [ok.sz, hr1]
  have hcap : n ≤ l.cap := by
    have hlen := ok.len
    unfold readCells at hr
    rw [hrow] at hr
    simp only at hr
    split at hr
    · rename_i h1; have := ble_true h1; omega
    · cases hr
  have holds : Sort.Holds (Value.int .i64) w l.blk l.off zs.toArray := by
    intro j hj
    have hj' : j < zs.length := by simpa using hj
    refine ⟨?_, ?_⟩
    · have hy : ys[j]? = some (.int .i64 zs[j]) := by rw [hys]; simp [intsV, hj']
      have := hC j _ hy
      rw [cell_of_row w l.blk (l.off + j) C _ _ hb, getElem!_pos zs.toArray j hj]
      simpa using this
    · simp [World.frozen?, hb]
  have hc := hcon l.blk l.off l.cap holds (lt_of_get hb) (by omega)
  have harg : (⟨[Value.slice (some ⟨l.blk, l.off + 0, none⟩) n ((l.cap - 0) / l.sz)]⟩ : Array Value) = #[.slice (some ⟨l.blk, l.off, none⟩) zs.length l.cap] := by
    rw [hzl, hsz1]; simp
  rw [harg]
  refine hc.mono fun en w' ⟨he, k, os, hw'⟩ => ⟨l, hl, hsz1, ?_, ?_⟩
  · have : (⟨l.blk, l.off, l.cap, 1⟩ : Loc) = l := by cases l; simp at hsz1; simp [hsz1]
    rw [this] at he
    exact he
  · subst hw'
    refine Chg.more (os := os) chg ?_ rfl rfl rfl
    show (Sort.putRow (Value.int .i64) (Sort.ahead w k) l.blk l.off new.toArray).heap ++ os = _
    rw [putRow_heap hb new (by simpa [intsV] using hfit)]
    rfl
end Go.Abs

namespace Go.Abs
open Go

/-- a closed call, from a heap that holds the rows of the globals -/
theorem closed_ok {P : Program} {ng : Nat} {call : ACall} (hc : CallOk P ng call) {f : FuncId} {h0 H1 : AHeap} {v : AVal} (hrun : call f [] h0 = some (v, H1)) (hplain : v.plainT = true)
    (h0g : ∀ c r, h0.objs.get c = some r → c < ng ∧ r.ro = true ∧ r.fam < h0.next ∧ r.cells.all AVal.plain = true) (hngn : ng ≤ h0.next)
    {H : AHeap} (hH : ∀ c r, h0.objs.get c = some r → H.objs.get c = some r) : ∀ B ρ w xs, Sim B ng ρ H w → vrels ρ [] xs →
      Calls P f ⟨xs⟩ w (fun e w' => ∃ x, e = .returned x ∧ vrel ρ v x ∧ Chg B ng H.objs.get H.next H.next ρ w H.objs.get H.fams.get ρ w') := by
  intro B ρ w xs s hargs
  have ssim : Sim w.heap.size ng (fun c => if c < ng then ρ c else none) h0 w := {
    base := Nat.le_refl _
    glob := fun g hg => by
      obtain ⟨c, z, e⟩ := s.glob g hg
      exact ⟨c, z, by simp only [if_pos hg]; exact e⟩
    row := fun c r hr => by
      obtain ⟨hcn, hro, _, hpl⟩ := h0g c r hr
      obtain ⟨l, C, t, fz, hl, hb, ok⟩ := s.row c r (hH c r hr)
      refine ⟨l, C, t, fz, by simp only [if_pos hcn]; exact hl, hb, ⟨ok.len, ok.cap, ok.ex, ok.sz, fun h => (by rw [hro] at h; cases h), fun h => (by rw [hro] at h; cases h), fun i a ha => ?_⟩⟩
      obtain ⟨x, hx, hv⟩ := ok.cells i a ha
      exact ⟨x, hx, plain_vrel (List.all_eq_true.1 hpl a (List.mem_of_getElem? ha)) hv⟩
    sep := fun u v ru rv lu lv _ hu hv _ _ _ => .inl ⟨(h0g u ru hu).2.1, (h0g v rv hv).2.1⟩
    fam := fun v r mem hv hro _ => by
      have := (h0g v r hv).2.1
      rw [this] at hro; cases hro }
  have wf : WF h0 := fun c r hr => by
    obtain ⟨h1, _, h3, _⟩ := h0g c r hr
    exact ⟨by omega, h3⟩
  have hfree : Free (fun c => if c < ng then ρ c else none) h0.next H1.next := fun c h1 _ => by
    simp only
    rw [if_neg (by omega)]
  have hxs : xs = [] := vrels_nil.1 hargs
  subst hxs
  refine (hc _ _ _ _ _ hrun _ _ _ _ ssim wf hfree rfl).mono fun e w' ⟨x, ρ', he, hx, hchg⟩ => ?_
  have hbelow := Chg.below ssim hchg
  refine ⟨x, he, plainT_vrel hplain hx, ?_⟩
  exact {
    sim := s.kept hchg.size hbelow
    ext := fun _ _ => rfl
    os := hchg.os
    tape := hchg.tape
    output := hchg.output
    size := hchg.size
    unch := fun b hb _ => hbelow b hb
    frsh := fun v r l a b c => .inr ⟨v, r, l, a, b, c, rfl⟩
    rok := fun _ _ h _ => h }

open Classical in
/-- calls by a relation -/
noncomputable def baseOf (R : FuncId → List AVal → AHeap → AVal × AHeap → Prop) : ACall := fun f args H => if h : ∃ r, R f args H r then some (Classical.choose h) else none
theorem baseOf_some {R : FuncId → List AVal → AHeap → AVal × AHeap → Prop} {f : FuncId} {args : List AVal} {H : AHeap} {r : AVal × AHeap} (h : baseOf R f args H = some r) : R f args H r := by
  unfold baseOf at h
  split at h
  · rename_i hex; cases h; exact Classical.choose_spec hex
  · cases h
theorem baseOf_get {R : FuncId → List AVal → AHeap → AVal × AHeap → Prop} {f : FuncId} {args : List AVal} {H : AHeap} {r : AVal × AHeap} (h : R f args H r) : ∃ r', baseOf R f args H = some r' ∧ R f args H r' := by
  have hex : ∃ r, R f args H r := ⟨r, h⟩
  refine ⟨Classical.choose hex, ?_, Classical.choose_spec hex⟩
  unfold baseOf
  rw [dif_pos hex]
theorem baseOf_none {R : FuncId → List AVal → AHeap → AVal × AHeap → Prop} {f : FuncId} {args : List AVal} {H : AHeap} (h : ∀ r, ¬ R f args H r) : baseOf R f args H = none := by
  unfold baseOf
  rw [dif_neg (fun ⟨r, hr⟩ => h r hr)]

end Go.Abs
