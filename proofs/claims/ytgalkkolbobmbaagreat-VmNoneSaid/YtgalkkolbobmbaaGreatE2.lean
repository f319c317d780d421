/- The evaluator's soundness, 2: loads, stores, new blocks; the operations. -/
import Derived.Test.YtgalkkolbobmbaaGreatE1
namespace Go.Proofs.YtgalkkolbobmbaaGreat.Abs
set_option linter.unusedVariables false
set_option linter.unusedSimpArgs false
open Go Go.RowKit
section
variable {P : Program} {base : Nat} {s s' : St} {M : Mem} {σ : Nm} {w : World}
theorem run_sizeIn {t n : Nat} (h : sizeIn P t = some n) (w : World) : (sizeOf t).run P w = .ok n w := by
  unfold sizeIn at h
  obtain ⟨i, hi, rfl⟩ := Option.map_eq_some_iff.1 h
  simp [sizeOf, typeInfo, hi]
theorem run_isAggIn {t : Nat} {b : Bool} (h : isAggIn P t = some b) (w : World) : (isAgg t).run P w = .ok b w := by
  unfold isAggIn at h
  split at h
  · rename_i d hd; cases h; simp [isAgg, run_underlying hd]
  · rename_i d e hd; cases h; simp [isAgg, run_underlying hd]
  · rename_i d h1 h2 hd
    cases h
    simp only [isAgg, Sem.run_bind, run_underlying hd, Result.andThen_ok]
    cases d <;> first | rfl | exact absurd rfl (h1 _) | exact absurd rfl (h2 _ _)
  · cases h
theorem cut_some {l c : List AC} {o n : Nat} (h : cut l o n = some c) : c = (l.drop o).take n ∧ c.length = n := by
  unfold cut at h
  dsimp only at h
  rw [Bool.cond_eq_ite] at h
  split at h
  · rename_i e
    cases h
    exact ⟨rfl, by simpa [Nat.beq_eq] using e⟩
  · cases h
theorem add_at (n o j : Nat) : (⟨n, o, none⟩ : Addr).add j = ⟨n, o + j, none⟩ := by unfold Addr.add; split <;> simp_all
/-- A load of what lies in a named block. -/
theorem run_evLoad {t b o : Nat} {v : AV} (h : evLoad P t b o s = some v) (hM : M b = s.mem.get b) (hm : MemR base σ M w) : ∃ n S, σ b = some (n, S) ∧ ∃ u, (loadVar t ⟨n, o, none⟩).run P w = .ok u w ∧ valR σ v u := by
  unfold evLoad at h
  split at h
  · rename_i blk n hb ha hn
    obtain ⟨c, hc, rfl⟩ := Option.map_eq_some_iff.1 h
    obtain ⟨rfl, hcl⟩ := cut_some hc
    obtain ⟨m, cur, g1, g2, g3, g4⟩ := hm.blk b blk (by rw [hM, hb])
    have hr : cellsR σ ((blk.cells.drop o).take n) (((cur.toList.take blk.cells.length).drop o).take n) := cellsR_take n (cellsR_drop o g4)
    have hl := cellsR_length hr
    rw [hcl] at hl
    refine ⟨m, cur.size, g1, .agg (((cur.toList.take blk.cells.length).drop o).take n).toArray, ?_, valR_agg hr⟩
    have hld := run_loadCells_list (P := P) w ⟨m, o, none⟩ (((cur.toList.take blk.cells.length).drop o).take n) (fun j u hj => by
      rw [add_at, cell_of_row w m (o + j) cur _ _ g2]
      rw [List.getElem?_take] at hj
      split at hj
      · rw [List.getElem?_drop, List.getElem?_take] at hj
        split at hj
        · simpa using hj
        · cases hj
      · cases hj)
    rw [← hl] at hld
    simp only [loadVar, Sem.run_bind, run_isAggIn ha, Result.andThen_ok, if_true, run_sizeIn hn, hld, Sem.run_pure]
  · rename_i blk n hb ha hn
    obtain ⟨c, hc, rfl⟩ := Option.map_eq_some_iff.1 h
    obtain ⟨m, cur, g1, g2, g3, g4⟩ := hm.blk b blk (by rw [hM, hb])
    obtain ⟨u, hu, hcu⟩ := cellsR_get g4 hc
    refine ⟨m, cur.size, g1, u, ?_, valR_one hcu⟩
    have hcell : w.cell? ⟨m, o, none⟩ = some u := by
      rw [cell_of_row w m o cur _ _ g2]
      rw [List.getElem?_take] at hu
      split at hu
      · simpa using hu
      · cases hu
    simp only [loadVar, Sem.run_bind, run_isAggIn ha, Result.andThen_ok, Bool.false_eq_true, if_false, run_load, hcell]
  · cases h

/-- What an operation looks at. -/
def FrO (σ : Nm) (fr : Fr) (o : Oper) (a : Act) : Prop := ∀ x, x ∈ o.op.operands → ∀ r, fr.eval x = some r → resR σ r (a.eval x)
theorem FrR.op {fr : Fr} {a : Act} (h : FrR σ fr a) (o : Oper) : FrO σ fr o a := fun x _ r hx => h.eval hx
theorem FrO.eval {fr : Fr} {o : Oper} {a : Act} (h : FrO σ fr o a) {x : Operand} {r : AR} (hm : x ∈ o.op.operands) (hx : fr.eval x = some r) : resR σ r (a.eval x) := h x hm r hx
theorem FrO.closed {fr : Fr} {o : Oper} {a : Act} (h : FrO σ fr o a) {x : Operand} {v : Value} (hm : x ∈ o.op.operands) (hx : fr.closed x = some v) : a.eval x = v := by
  unfold Fr.closed at hx
  cases hr : fr.eval x with
  | none => rw [hr] at hx; cases hx
  | some r => rw [hr] at hx; exact val_inv hx (h.eval hm hr)
theorem FrO.int {fr : Fr} {o : Oper} {a : Act} (h : FrO σ fr o a) {x : Operand} {n : Int} (hm : x ∈ o.op.operands) (hx : fr.int x = some n) : ∃ k, a.eval x = .int k n := by
  unfold Fr.int at hx
  split at hx
  · rename_i k m hc
    cases hx
    exact ⟨k, h.closed hm hc⟩
  · cases hx
theorem FrO.bool {fr : Fr} {o : Oper} {a : Act} (h : FrO σ fr o a) {x : Operand} {b : Bool} (hm : x ∈ o.op.operands) (hx : fr.bool x = some b) : a.eval x = .bool b := by
  unfold Fr.bool at hx
  split at hx
  · rename_i m hc
    cases hx
    exact h.closed hm hc
  · cases hx
/-- What an operation leaves, whatever stands behind it. -/
def OpOK (P : Program) (base : Nat) (o : Oper) (fr : Fr) (s : St) (r : AR) (s' : St) : Prop :=
  Mono s s' ∧ ∀ (M : Mem) (σ : Nm) (w : World) (a : Act), Pre s s' M σ → MemR base σ M w → FrO σ fr o a → ∀ (K : Act → World → Prop) (Q : Exit → Act → World → Prop), (∀ v σ' w', Post base s s' M σ w σ' w' → resR σ' r v → K (a.put o.dst v) w') → o.wp P a w K Q
theorem OpOK.of {o : Oper} {fr : Fr} {r : AR} (hm : Mono s s') (h : ∀ (M : Mem) (σ : Nm) (w : World) (a : Act), Pre s s' M σ → MemR base σ M w → FrO σ fr o a → ∃ v σ' w', (execOp a.eval o).run P w = .ok (.value v) w' ∧ Post base s s' M σ w σ' w' ∧ resR σ' r v) : OpOK P base o fr s r s' :=
  ⟨hm, fun M σ w a hp hM hf K Q hk => by
    obtain ⟨v, σ', w', e, h1, h2⟩ := h M σ w a hp hM hf
    unfold Oper.wp
    rw [e]
    exact hk v σ' w' h1 h2⟩
theorem OpOK.ofSkip {o : Oper} {fr : Fr} (hm : Mono s s') (h : ∀ (M : Mem) (σ : Nm) (w : World) (a : Act), Pre s s' M σ → MemR base σ M w → FrO σ fr o a → ∃ σ' w', (execOp a.eval o).run P w = .ok .skip w' ∧ Post base s s' M σ w σ' w') : OpOK P base o fr s .undef s' :=
  ⟨hm, fun M σ w a hp hM hf K Q hk => by
    obtain ⟨σ', w', e, h1⟩ := h M σ w a hp hM hf
    unfold Oper.wp
    rw [e]
    exact hk _ σ' w' h1 (undefR _)⟩
/-- An operation that leaves the world as it is, and looks at nothing. -/
theorem OpOK.pure {o : Oper} {fr : Fr} {r : AR} (hw : WF s) (h : ∀ (σ : Nm) (w : World) (a : Act), (∃ M, MemR base σ M w) → FrO σ fr o a → ∃ v, (execOp a.eval o).run P w = .ok (.value v) w ∧ resR σ r v) : OpOK P base o fr s r s :=
  .of (Mono.refl hw) fun M σ w a hp hM hf => by
    obtain ⟨v, e, hr⟩ := h σ w a ⟨M, hM⟩ hf
    exact ⟨v, σ, w, e, Post.quiet hp hw rfl rfl (fun _ h => h) hM, hr⟩
theorem peek_run {α : Type} : ∀ {c : Sem α} {v : α} {w : World}, peek P c = some v → c.run P w = .ok v w
  | .pure a, v, w, h => by simp [peek] at h; subst h; rfl
  | .program k, v, w, h => by
    have h' : peek P (k P) = some v := h
    exact peek_run (c := k P) h'
theorem closed_all {fr : Fr} : ∀ {l : List Operand}, allClosed fr l = true → ∀ x ∈ l, ∃ v, fr.closed x = some v
  | [], _, x, h => by cases h
  | y :: ys, h, x, hx => by
    simp only [allClosed, Bool.and_eq_true] at h
    rcases List.mem_cons.1 hx with e | e
    · rw [e]; exact Option.isSome_iff_exists.1 h.1
    · exact closed_all h.2 x e
theorem evClosed_ok {o : Oper} {fr : Fr} {r : AR} (hw : WF s) (h : evClosed P o fr = some r) : OpOK P base o fr s r s := by
  refine .pure hw fun σ w a _ hf => ?_
  unfold evClosed at h
  rw [Bool.cond_eq_ite] at h
  split at h
  · rename_i hc
    rw [Bool.and_eq_true] at hc
    split at h
    · rename_i v hv
      refine ⟨v, ?_, res_of h⟩
      rw [execOp_congr (ρ := a.eval) (ρ' := fun x => (fr.closed x).getD Go.undef) o (fun cs b e => by rw [e] at hc; simp [plainOp] at hc) (fun x hx => by
        obtain ⟨u, hu⟩ := closed_all hc.2 x (by simpa using hx)
        rw [hu]
        exact hf.closed hx hu)]
      exact peek_run hv
    · cases h
  · cases h
theorem withS_some {r : Option AR} {v : AR} (h : withS r s = some (v, s')) : r = some v ∧ s' = s := by
  unfold withS at h
  split at h
  · simp only [Option.some.injEq, Prod.mk.injEq] at h
    exact ⟨by rw [h.1], h.2.symm⟩
  · cases h
theorem oneOf_some {r : Option AR} {c : AC} (h : oneOf r = some c) : r = some (.val (.one c)) := by
  unfold oneOf at h
  split at h
  · cases h; rfl
  · cases h
/-- A block under a new name. -/
theorem name_ok {x : AB} {g : Nat} {cur : Array Value} {w1 : World} {X : Nat → Prop} (hw : WF s) (hp : Pre s (s.new x) M σ) (hM : MemR base σ M w) (hg : base ≤ g) (hf : ∀ j y S, M j = some y → σ j ≠ some (g, S)) (hh : w1.heap[g]? = some (.cells cur x.elem (0, 0))) (hy : x.cells.length ≤ cur.size) (hr : cellsR σ x.cells (cur.toList.take x.cells.length))
    (ho : ∀ j y k S, M j = some y → σ j = some (k, S) → w1.heap[k]? = w.heap[k]?) (hb : Below base w w1) (hk : ∀ k, k < w.heap.size → ¬ X k → w1.heap[k]? = w.heap[k]?) (hgX : g < w.heap.size → X g) : PostX base s (s.new x) M σ w (upS σ s.next (g, cur.size)) w1 X := by
  have hn := hp.2 s.next (Nat.le_refl _) (Nat.lt_succ_self _)
  obtain ⟨h1, h2⟩ := hM.name (c := s.next) (n := g) (cur := cur) (cs := x.cells) (e := x.elem) (w1 := w1) hn.2 hn.1 hg hf hh hy hr hb.size ho
  refine ⟨⟨h1, fun b hb => ?_⟩, by rw [after_new hp hw]; exact h2, hb, fun k hkw _ hX => hk k hkw hX, fun n hn' hnm => ?_⟩
  · unfold upS
    rw [if_neg]
    have : (s.new x).next = s.next + 1 := rfl
    omega
  · rw [after_new hp hw] at hnm
    obtain ⟨b, S, q1, q2⟩ := hnm
    unfold upM at q1
    unfold upS at q2
    by_cases e : b = s.next
    · rw [if_pos e] at q2
      obtain ⟨rfl, _⟩ := Prod.mk.inj (Option.some.inj q2)
      exact .inr (hgX hn')
    · rw [if_neg e] at q1 q2
      exact .inl ⟨b, S, q1, q2⟩
theorem MemR.live (hM : MemR base σ M w) {j k S : Nat} {y : AB} (hj : M j = some y) (e : σ j = some (k, S)) : k < w.heap.size := by
  obtain ⟨m, cu, g1, g2, _⟩ := hM.blk j y hj
  rw [e] at g1
  obtain ⟨rfl, _⟩ := Prod.mk.inj (Option.some.inj g1)
  exact (Array.getElem?_eq_some_iff.1 g2).1
/-- A new block of a call's own. -/
theorem new_ok {x : AB} {cur : Array Value} {w1 : World} (hw : WF s) (hp : Pre s (s.new x) M σ) (hM : MemR base σ M w) (hh : w1.heap[w.heap.size]? = some (.cells cur x.elem (0, 0))) (hy : x.cells.length ≤ cur.size) (hr : cellsR σ x.cells (cur.toList.take x.cells.length))
    (hb : Below w.heap.size w w1) : Post base s (s.new x) M σ w (upS σ s.next (w.heap.size, cur.size)) w1 :=
  name_ok hw hp hM hM.bs (fun j y S hj e => by have := hM.live hj e; omega) hh hy hr (fun j y k S hj e => hb.block k (hM.live hj e)) (hb.mono hM.bs) (fun k hk _ => hb.block k hk) (fun e => by omega)
theorem drop_ok {b : Nat} (hw : WF s) (hp : Pre s (s.write b none) M σ) (hM : MemR base σ M w) : Post base s (s.write b none) M σ w σ w := by
  have hs : ∀ j y, after (s.write b none) M j = some y → M j = some y := fun j y hj => by
    rw [after_write hp hw] at hj
    unfold upM at hj
    split at hj
    · cases hj
    · exact hj
  refine ⟨Ext.refl _ _ _, hM.sub hs, Below.refl _ _, fun _ _ _ _ => rfl, fun n _ ⟨j, S, q1, q2⟩ => .inl ⟨j, S, ?_, q2⟩⟩
  cases hj : after (s.write b none) M j with
  | none => exact absurd hj q1
  | some y => rw [hs j y hj]; simp
theorem alloc_heap (w : World) (o : Obj) : (w.alloc o).heap[w.heap.size]? = some o := heap_alloc_new w o
theorem below_alloc1 (w : World) (o : Obj) : Below w.heap.size w (w.alloc o) := (Below.refl _ _).alloc (Nat.le_refl _) _
theorem take_all {v : Value} {cs : List AC} {σ : Nm} (h : cellsR σ cs v.cells.toList) : cs.length ≤ v.cells.size ∧ cellsR σ cs (v.cells.toList.take cs.length) := by
  have := cellsR_length h
  refine ⟨by simp at this; omega, ?_⟩
  rw [List.take_of_length_le (by omega)]
  exact h
theorem run_newVar (t : TypeId) (v : Value) (w : World) : (newVar t v).run P w = .ok ⟨w.heap.size, 0, none⟩ (w.alloc (.cells v.cells t)) := by
  simp [newVar, newRow]
end
end Go.Proofs.YtgalkkolbobmbaaGreat.Abs
