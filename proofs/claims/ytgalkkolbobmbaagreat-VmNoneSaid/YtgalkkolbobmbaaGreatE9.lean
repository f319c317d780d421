/- The evaluator's soundness, 9: drawn regions. -/
import Derived.Test.YtgalkkolbobmbaaGreatE8
namespace Go.Proofs.YtgalkkolbobmbaaGreat.Abs
set_option linter.unusedVariables false
set_option linter.unusedSimpArgs false
open Go Go.RowKit
section
variable {P : Program} {base : Nat} {call : CallF} {ops : Array Oper}
theorem foldl_or (f : Nat × Nat → Nat) (b : Nat) : ∀ (ms : List (Nat × Nat)) (m : Nat), (ms.foldl (fun m x => m ||| f x) m).testBit b = true ↔ m.testBit b = true ∨ ∃ x ∈ ms, (f x).testBit b = true
  | [], m => by simp
  | x :: ms, m => by
    rw [List.foldl_cons, foldl_or f b ms, Nat.testBit_or, Bool.or_eq_true]
    constructor
    · rintro ((h | h) | ⟨y, h1, h2⟩)
      · exact .inl h
      · exact .inr ⟨x, List.mem_cons_self, h⟩
      · exact .inr ⟨y, List.mem_cons_of_mem _ h1, h2⟩
    · rintro (h | ⟨y, h1, h2⟩)
      · exact .inl (.inl h)
      · rcases List.mem_cons.1 h1 with e | e
        · subst e; exact .inl (.inr h2)
        · exact .inr ⟨y, e, h2⟩
theorem reads_tmp {l : List Oper} {o : Oper} {t : Nat} (h : Operand.tmp t ∈ o.op.operands) : t ∈ readsOf l o :=
  List.mem_append_left _ (List.mem_filterMap.2 ⟨.tmp t, by simpa using h, rfl⟩)
theorem reads_guard {l : List Oper} {o : Oper} {g d : Nat} {want : Bool} (h : o.guard = some (g, want)) (hd : (l[g]?).bind (·.dst) = some d) : d ∈ readsOf l o := by
  unfold readsOf
  refine List.mem_append_right _ ?_
  rw [h]
  dsimp only
  rw [hd]
  simp
/-- A drawn region. -/
theorem evDraw_ok (HN : ∀ (f : FuncId) (fn : Func), P.funcs[f]? = some fn → (fn.name == "runtime.NumGoroutine") = false) (hm : P.follows .mixedOrders = true) (hcall : CallOK P base call) {id : Nat} {fr fr' : Fr} {s s' : St} (h : evRegion P call ops true fr s = some (fr', s')) (hw : WF s) :
    Mono s s' ∧ ∀ (M : Mem) (σ : Nm) (w : World) (a : Act), Pre s s' M σ → MemR base σ M w → FrR σ fr a → ∀ (Q : Exit → Act → World → Prop), (∀ a' σ' w', Post base s s' M σ w σ' w' → FrR σ' fr' a' → a'.defers = a.defers → Q .normal a' w') → (Code.region id ops true).wp P Q a w := by
  unfold evRegion at h
  simp only [cond_true] at h
  rw [Bool.cond_eq_ite] at h
  split at h
  case isFalse => cases h
  rename_i hslots
  split at h
  case h_2 => cases h
  rename_i fr1 s1 ms hev
  rw [Bool.cond_eq_ite] at h
  split at h
  case isFalse => cases h
  rename_i hap
  simp only [Option.some.injEq, Prod.mk.injEq] at h
  obtain ⟨rfl, rfl⟩ := h
  obtain ⟨S, F, R, hS0, hF0, hstep, hSN, hFN, hml, _, hms⟩ := evDraw_steps ops.toList fr s [] hev
  obtain ⟨N, hN⟩ : ∃ N, ops.toList.length = N := ⟨_, rfl⟩
  rw [hN] at hSN hFN hms
  simp only [List.length_nil, Nat.zero_add] at hml hms
  rw [hN] at hml
  have hget : ∀ i, i < N → ∃ o, ops.toList[i]? = some o ∧ ops[i]? = some o := fun i hi => ⟨ops.toList[i], List.getElem?_eq_getElem (by omega), by rw [← Array.getElem?_toList]; exact List.getElem?_eq_getElem (by omega)⟩
  have hlt : ∀ {i : Nat} {o : Oper}, ops[i]? = some o → i < N ∧ ops.toList[i]? = some o := fun {i o} h => by
    have := (Array.getElem?_eq_some_iff.1 h).1
    exact ⟨by rw [← hN]; simpa using this, by simpa using h⟩
  have hu : Uniq ops.toList := fun i j o q d hi hj ho hq => by
    by_cases e : i = j
    · exact e
    · exact absurd ho (((slots_get hslots hi hj).2 d hq).1 e)
  -- the chain of states
  have hwfs : ∀ i, i ≤ N → WF (S i) ∧ ∀ k, k < i → Mono (clr (S k)) (S (k + 1)) := by
    intro i
    induction i with
    | zero => exact fun _ => ⟨by rw [hS0]; exact hw, fun k hk => by omega⟩
    | succ i ih =>
      intro hi
      obtain ⟨h1, h2⟩ := ih (by omega)
      obtain ⟨o, ho, _⟩ := hget i (by omega)
      have h3 := (evOne_ok (base := base) HN hcall (clr_wf h1) (hstep i o ho).1).1
      exact ⟨h3.wf, fun k hk => by
        by_cases e : k = i
        · rw [e]; exact h3
        · exact h2 k (by omega)⟩
  have hC : Chain S N (BB ops.toList) := ⟨(hwfs 0 (Nat.zero_le _)).1, fun i hi => (hwfs N (Nat.le_refl _)).2 i hi, fun i j hi hji hB b => apart_get hap (hms i hi) (hms j (by omega)) hji hB b⟩
  obtain ⟨hFn, hFoff, hFon⟩ := frames hu (fun i o ho => (hstep i o ho).2) N (by omega)
  rw [hF0] at hFn hFoff hFon
  -- the marks of the whole
  obtain ⟨foot, hfoot⟩ : ∃ n, ms.foldl (fun m x => m ||| x.1) s.foot = n := ⟨_, rfl⟩
  obtain ⟨wr, hwr⟩ : ∃ n, ms.foldl (fun m x => m ||| x.2) s.wr = n := ⟨_, rfl⟩
  rw [hfoot, hwr]
  have hmem : ∀ x ∈ ms, ∃ i, i < N ∧ x = ((S (i + 1)).foot, (S (i + 1)).wr) := fun x hx => by
    obtain ⟨i, hi⟩ := List.getElem?_of_mem hx
    have hi2 : i < N := by rw [← hml]; exact (List.getElem?_eq_some_iff.1 hi).1
    rw [hms i hi2] at hi
    exact ⟨i, hi2, (Option.some.inj hi).symm⟩
  have hfb : ∀ b, foot.testBit b = true ↔ s.foot.testBit b = true ∨ ∃ i, i < N ∧ (S (i + 1)).foot.testBit b = true := fun b => by
    rw [← hfoot, foldl_or]
    refine or_congr Iff.rfl ⟨fun ⟨x, hx, h1⟩ => ?_, fun ⟨i, hi, h1⟩ => ⟨_, List.mem_of_getElem? (hms i hi), h1⟩⟩
    obtain ⟨i, hi, rfl⟩ := hmem x hx
    exact ⟨i, hi, h1⟩
  have hwb : ∀ b, wr.testBit b = true ↔ s.wr.testBit b = true ∨ ∃ i, i < N ∧ (S (i + 1)).wr.testBit b = true := fun b => by
    rw [← hwr, foldl_or]
    refine or_congr Iff.rfl ⟨fun ⟨x, hx, h1⟩ => ?_, fun ⟨i, hi, h1⟩ => ⟨_, List.mem_of_getElem? (hms i hi), h1⟩⟩
    obtain ⟨i, hi, rfl⟩ := hmem x hx
    exact ⟨i, hi, h1⟩
  have hsame : ∀ b, (∀ i, i < N → (S (i + 1)).wr.testBit b = false) → ∀ i, i ≤ N → (S i).mem.get b = s.mem.get b := fun b hb i => by
    induction i with
    | zero => intro _; rw [hS0]
    | succ i ih => intro hi; rw [(hC.mono i (by omega)).same b (hb i (by omega))]; exact ih (by omega)
  have hnx : s.next ≤ s1.next := by
    have := hC.next (i := 0) (j := N) (Nat.zero_le _) (Nat.le_refl _)
    rwa [hS0, hSN] at this
  have hmono : Mono s { s1 with foot := foot, wr := wr } := by
    refine ⟨hnx, fun b hb => (hfb b).2 (.inl hb), fun b hb => (hwb b).2 (.inl hb), fun b hb => ?_, fun b h1 h2 => ?_, ⟨fun b hb => ?_, fun b hb => ?_⟩⟩
    · have hb' : ∀ i, i < N → (S (i + 1)).wr.testBit b = false := fun i hi => by
        cases e : (S (i + 1)).wr.testBit b with
        | false => rfl
        | true => have : wr.testBit b = false := hb; rw [(hwb b).2 (.inr ⟨i, hi, e⟩)] at this; cases this
      show s1.mem.get b = _
      rw [← hSN]
      exact hsame b hb' N (Nat.le_refl _)
    · obtain ⟨j, k1, k2, k3⟩ := hC.home N (Nat.le_refl _) (by rw [hS0]; exact h1) (by rw [hSN]; exact h2)
      exact (hwb b).2 (.inr ⟨j, k1, (hC.mono j k1).made b k2 k3⟩)
    · rw [← hSN] at hb ⊢
      exact (hC.wf N (Nat.le_refl _)).free b hb
    · rcases (hwb b).1 hb with h1 | ⟨i, hi, h1⟩
      · exact ⟨(hfb b).2 (.inl (hw.wr b h1).1), Nat.lt_of_lt_of_le (hw.wr b h1).2 hnx⟩
      · refine ⟨(hfb b).2 (.inr ⟨i, hi, (hC.wrlt hi h1).1⟩), ?_⟩
        have := hC.next (i := i + 1) (j := N) (by omega) (Nat.le_refl _)
        rw [hSN] at this
        exact Nat.lt_of_lt_of_le (hC.wrlt hi h1).2 this
  refine ⟨hmono, fun M σ w a hp hM hf Q hQ => ?_⟩
  have hM0 : ∀ b, b < (S 0).next → foot.testBit b = true → M b = (S 0).mem.get b := fun b h1 h2 => by rw [hS0] at h1 ⊢; exact hp.1 b h1 h2
  -- what is over, and what that left
  refine wp_region_inv hm ?back (fun vs => fillV vs ops.toList 0 a)
    (fun l vs W => ∃ σ', Ext σ σ' (S 0).next (S N).next ∧ MemR base σ' (ovl S l N M) W ∧ Below base w W ∧ (∀ j, j < N → l j = true → resR σ' (R j) (vs j)) ∧ (∀ b, (S 0).next ≤ b → b < (S N).next → σ' b ≠ none → ∃ j, j < N ∧ l j = true ∧ (S j).next ≤ b ∧ b < (S (j + 1)).next) ∧ (∀ j, l j = false → vs j = old ops.toList a j) ∧ (∀ n, n < w.heap.size → ¬ Named M σ n → W.heap[n]? = w.heap[n]?) ∧ ∀ n, n < w.heap.size → Named (ovl S l N M) σ' n → Named M σ n)
    ?step ?fin (old ops.toList a) (fillV_old hu a) ?start
  case back =>
    unfold backB
    refine List.all_eq_true.2 fun j hj => ?_
    have hj' : j < ops.size := List.mem_range.1 hj
    rw [Array.getElem?_eq_getElem hj']
    dsimp only
    rw [← Array.all_toList]
    refine List.all_eq_true.2 fun e he => ?_
    have hj2 : ops.toList[j]? = some ops[j] := by simp [hj']
    cases hb : Region.binds .any e with
    | false => rfl
    | true =>
      have := (slots_get hslots hj2 hj2).1 e he hb
      simpa using this
  case start =>
    refine ⟨σ, Ext.refl _ _ _, ?_, (Below.refl _ w).drew, (fun j _ hj => by cases hj), fun b h1 h2 h3 => absurd (hp.2 b (by rw [← hS0]; exact h1) (by show b < s1.next; rw [← hSN]; exact h2)).2 h3, fun j _ => rfl, fun _ _ _ => rfl, ?_⟩
    all_goals
      have e : ovl S (fun _ => false) N M = M := funext fun b => ovl_none N fun k _ _ => rfl
      rw [e]
    · exact ⟨hM.blk, hM.inj, hM.rng, hM.bs⟩
    · exact fun n _ h => h
  case step =>
    rintro i o ho l vs W ⟨σ1, hext, hMl, hbel, hres, hdom, hold, hkeep, hsrc⟩ hl hd hcl
    obtain ⟨hi, ho'⟩ := hlt ho
    have hdown : Down N (BB ops.toList) l i := by
      refine ⟨hl, fun k hk => bb_down hcl i hd k hk, fun k _ hk => ?_⟩
      cases e : l k with
      | false => rfl
      | true =>
        have := bb_down hcl k (hcl k e) i hk
        rw [hl] at this
        cases this
    obtain ⟨hone, hput⟩ := hstep i o ho'
    obtain ⟨hmi, hki⟩ := evOne_ok (base := base) HN hcall (clr_wf (hC.wf i (by omega))) hone
    have hpre : Pre (clr (S i)) (S (i + 1)) (ovl S l N M) σ1 := by
      refine ⟨fun b h1 h2 => hC.agree hi hdown h2 h1 (fun h3 => hM0 b h3 ((hfb b).2 (.inr ⟨i, hi, h2⟩))), fun b h1 h2 => ?_⟩
      have h3 : (S 0).next ≤ b := Nat.le_trans (hC.next (Nat.zero_le i) (by omega)) h1
      have h4 : b < (S N).next := Nat.lt_of_lt_of_le h2 (hC.next (by omega) (Nat.le_refl _))
      refine ⟨?_, ?_⟩
      · rw [hC.fresh hi hdown h1 h2]
        exact (hp.2 b (by rw [← hS0]; exact h3) (by show b < s1.next; rw [← hSN]; exact h4)).1
      · cases e : σ1 b with
        | none => rfl
        | some x =>
          obtain ⟨j, k1, k2, k3, k4⟩ := hdom b h3 h4 (by rw [e]; simp)
          have := hC.homes k1 hi k3 k4 h1 h2
          subst this
          rw [hl] at k2
          cases k2
    have hn : a.tmps.size = fr.n := hf.size
    obtain ⟨hFin, hFioff, hFion⟩ := frames hu (fun i o ho => (hstep i o ho).2) i (by omega)
    rw [hF0] at hFin hFioff hFion
    have hslot : ∀ t, t ∈ readsOf ops.toList o → resR σ1 ((F i).get t) ((fillV vs ops.toList 0 a).tmps.getD t Go.undef) := by
      intro t ht
      rcases writer ops.toList t with ⟨k, q, hk, hq⟩ | hnone
      · have hothers : ∀ j p, j ≠ k → ops.toList[j]? = some p → p.dst ≠ some t := fun j p hj hp e => hj (hu j k p q t hp hk e hq)
        have hkN : k < N := by rw [← hN]; exact (List.getElem?_eq_some_iff.1 hk).1
        have hts : t < a.tmps.size := by rw [hn]; exact (hFon k q t hkN hk hq).1
        rw [fillV_on _ _ 0 k a q hk hq hothers hts, Nat.zero_add]
        rcases ((slots_get hslots ho' hk).2 t hq).2 ht with h1 | h1
        · -- the operation waits for it
          unfold waitsFor at h1
          obtain ⟨e, he, hz⟩ := List.any_eq_true.1 h1
          rw [Bool.and_eq_true, Nat.beq_eq] at hz
          have hki2 : k < i := by rw [← hz.2]; exact (slots_get hslots ho' ho').1 e he hz.1
          have hlk : l k = true := hd k (waits_of ho he hz.1 hz.2)
          rw [(hFion k q t hki2 hk hq).2]
          exact hres k hkN hlk
        · -- it waits for the operation
          have hlk : l k = false := hdown.post k hkN h1
          have hik : ¬ k < i := by
            intro e
            have hback : ∀ n m, BB ops.toList n m = true → m < n := by
              intro n
              induction n using Nat.strongRecOn with
              | _ n ih =>
                intro m hm
                obtain ⟨p, hp⟩ := bb_lt hm
                obtain ⟨e, e1, e2, e3⟩ := bb_bit hp hm
                have e4 := (slots_get hslots hp hp).1 e e1 e2
                rcases e3 with e3 | ⟨e3, e5⟩
                · omega
                · have := ih e.on e3 m e5; omega
            have := hback k i h1
            omega
          rw [hFioff t (fun j p hj hjp e => by
            have := hu j k p q t hjp hk e hq
            omega), hold k hlk, old_of hk hq]
          exact resR_mono hext.1 (hf.get t)
      · rw [fillV_off _ _ 0 a hnone, hFioff t (fun k p _ hkp => hnone p (List.mem_of_getElem? hkp))]
        exact resR_mono hext.1 (hf.get t)
    have hfo : FrO σ1 (F i) o (fillV vs ops.toList 0 a) := by
      intro x hx r hr
      cases x with
      | tmp t =>
        simp only [Fr.eval, Option.some.injEq] at hr
        subst hr
        exact hslot t (reads_tmp hx)
      | const v => exact res_of hr
      | global g => simp [Fr.eval] at hr
      | func f => simp only [Fr.eval, Option.some.injEq] at hr; subst hr; exact oneR ⟨rfl, rfl⟩
    have hgd : ∀ g want d, o.guard = some (g, want) → (ops[g]?).bind (·.dst) = some d → resR σ1 ((F i).get d) ((fillV vs ops.toList 0 a).tmps.getD d Go.undef) := fun g want d h1 h2 => hslot d (reads_guard h1 (by rw [Array.getElem?_toList]; exact h2))
    have hfin := hki (ovl S l N M) σ1 W (fillV vs ops.toList 0 a) hpre hMl hfo hgd (fun a' w' => ∃ v, a' = fillV (upd vs i v) ops.toList 0 a ∧ ∃ σ', Ext σ σ' (S 0).next (S N).next ∧ MemR base σ' (ovl S (don l i) N M) w' ∧ Below base w w' ∧ (∀ j, j < N → don l i j = true → resR σ' (R j) (upd vs i v j)) ∧ (∀ b, (S 0).next ≤ b → b < (S N).next → σ' b ≠ none → ∃ j, j < N ∧ don l i j = true ∧ (S j).next ≤ b ∧ b < (S (j + 1)).next) ∧ (∀ j, don l i j = false → upd vs i v j = old ops.toList a j) ∧ (∀ n, n < w.heap.size → ¬ Named M σ n → w'.heap[n]? = w.heap[n]?) ∧ ∀ n, n < w.heap.size → Named (ovl S (don l i) N M) σ' n → Named M σ n) Q
      (fun v σ2 w2 q hr => by
        refine ⟨v, fillV_put hu ho' v, σ2, ⟨hext.1.trans q.ext.1, fun b hb => ?_⟩, ?_, hbel.trans q.below, fun j hj hdj => ?_, fun b h1 h2 h3 => ?_, fun j hj => ?_, fun n hn hnm => ?_, fun n hn hnm => ?_⟩
        · rw [q.ext.2 b ?_, hext.2 b hb]
          have h1 := hC.next (i := 0) (j := i) (Nat.zero_le _) (by omega)
          have h2 := hC.next (i := i + 1) (j := N) (by omega) (Nat.le_refl _)
          have h3 : (clr (S i)).next = (S i).next := rfl
          omega
        · have := q.mem
          rw [hC.step hi hdown] at this
          exact this
        · by_cases e : j = i
          · subst e; rw [upd_self]; exact hr
          · rw [upd_ne _ _ e]
            rw [don_ne l e] at hdj
            exact resR_mono q.ext.1 (hres j hj hdj)
        · by_cases e : (S i).next ≤ b ∧ b < (S (i + 1)).next
          · exact ⟨i, hi, don_self l i, e.1, e.2⟩
          · have h4 : σ2 b = σ1 b := q.ext.2 b (by have : (clr (S i)).next = (S i).next := rfl; omega)
            obtain ⟨j, k1, k2, k3, k4⟩ := hdom b h1 h2 (by rw [← h4]; exact h3)
            refine ⟨j, k1, ?_, k3, k4⟩
            unfold don
            split
            · rfl
            · exact k2
        · have hji : j ≠ i := fun e => by subst e; rw [don_self] at hj; cases hj
          rw [upd_ne _ _ hji]
          rw [don_ne l hji] at hj
          exact hold j hj
        · rw [q.keep n (Nat.lt_of_lt_of_le hn hbel.size) (fun e => hnm (hsrc n hn e)) (fun x => x)]
          exact hkeep n hn hnm
        · rw [← hC.step hi hdown] at hnm
          exact hsrc n hn ((q.src n (Nat.lt_of_lt_of_le hn hbel.size) hnm).elim (fun x => x) False.elim))
    unfold wpOp
    rw [ho]
    exact hfin
  case fin =>
    rintro l vs W hall ⟨σ1, hext, hMl, hbel, hres, hdom, hold, hkeep, hsrc⟩
    have hall' : ∀ j, j < N → l j = true := fun j hj => hall j (by rw [← hN] at hj; simpa using hj)
    have e : after { s1 with foot := foot, wr := wr } M = ovl S l N M := by
      funext b
      show (if wr.testBit b = true then s1.mem.get b else M b) = _
      by_cases hb : wr.testBit b = true
      · rw [if_pos hb]
        by_cases hex : ∃ i, i < N ∧ (S (i + 1)).wr.testBit b = true
        · obtain ⟨i, hi, h1⟩ := hex
          have e1 : ovl S l N M b = ovl S (fun _ => true) N M b := ovl_alike N fun k hk _ => hall' k hk
          have h2 := hC.wrlt hi h1
          rw [e1, hC.full (fun h3 => hM0 b h3 ((hfb b).2 (.inr ⟨i, hi, h2.1⟩))) N (Nat.le_refl _) (Nat.lt_of_lt_of_le h2.2 (hC.next (by omega) (Nat.le_refl _))), hSN]
        · have hno : ∀ i, i < N → (S (i + 1)).wr.testBit b = false := fun i hi => by
            cases e : (S (i + 1)).wr.testBit b with
            | false => rfl
            | true => exact absurd ⟨i, hi, e⟩ hex
          have h1 : s.wr.testBit b = true := ((hwb b).1 hb).resolve_right hex
          rw [ovl_none N (fun k hk hw => by rw [hno k hk] at hw; cases hw), ← hSN, hsame b hno N (Nat.le_refl _)]
          exact (hp.1 b (hw.wr b h1).2 ((hfb b).2 (.inl (hw.wr b h1).1))).symm
      · rw [if_neg hb]
        exact (ovl_none N (fun k hk hwk => absurd ((hwb b).2 (.inr ⟨k, hk, hwk⟩)) hb)).symm
    refine hQ _ σ1 W ⟨by rw [hS0, hSN] at hext; exact hext, by rw [e]; exact hMl, hbel, fun n h1 h2 _ => hkeep n h1 h2, fun n h1 h2 => .inl (hsrc n h1 (by rw [e] at h2; exact h2))⟩ ?_ (fillV_defers _ _ _ _)
    · refine ⟨by rw [fillV_size, hf.size, ← hFN]; exact hFn.symm, fun t => ?_⟩
      rw [← hFN]
      rcases writer ops.toList t with ⟨k, q, hk, hq⟩ | hnone
      · have hothers : ∀ j p, j ≠ k → ops.toList[j]? = some p → p.dst ≠ some t := fun j p hj hp e => hj (hu j k p q t hp hk e hq)
        have hkN : k < N := by rw [← hN]; exact (List.getElem?_eq_some_iff.1 hk).1
        have hts : t < a.tmps.size := by rw [hf.size]; exact (hFon k q t hkN hk hq).1
        rw [fillV_on _ _ 0 k a q hk hq hothers hts, Nat.zero_add, (hFon k q t hkN hk hq).2]
        exact hres k hkN (hall' k hkN)
      · rw [fillV_off _ _ 0 a hnone, hFoff t (fun k p _ hkp => hnone p (List.mem_of_getElem? hkp))]
        exact resR_mono hext.1 (hf.get t)
end
end Go.Proofs.YtgalkkolbobmbaaGreat.Abs
