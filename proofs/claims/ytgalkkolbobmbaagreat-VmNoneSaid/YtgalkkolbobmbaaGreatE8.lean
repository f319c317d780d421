/- The evaluator's soundness, 8: every region. -/
import Derived.Test.YtgalkkolbobmbaaGreatE7
namespace Go.Proofs.YtgalkkolbobmbaaGreat.Abs
set_option linter.unusedVariables false
set_option linter.unusedSimpArgs false
open Go Go.RowKit
section
variable {P : Program} {base : Nat} {call : CallF} {ops : Array Oper}
noncomputable def befF (acc : List Nat) (o : Oper) : Nat := o.after.toList.foldl (fun m e => bif Region.binds .any e then m ||| (2 ^ e.on ||| (acc[e.on]?).getD 0) else m) 0
theorem befOf_cons (o : Oper) (l : List Oper) (acc : List Nat) : befOf (o :: l) acc = befOf l (acc ++ [befF acc o]) := rfl
theorem bef_keep : ∀ (l : List Oper) (acc : List Nat) (i : Nat), i < acc.length → (befOf l acc)[i]? = acc[i]?
  | [], acc, i, _ => rfl
  | o :: l, acc, i, h => by rw [befOf_cons, bef_keep l _ i (by simp; omega), List.getElem?_append_left h]
theorem fold_bit (acc : List Nat) (j : Nat) : ∀ (es : List Edge) (m : Nat), (es.foldl (fun m e => bif Region.binds .any e then m ||| (2 ^ e.on ||| (acc[e.on]?).getD 0) else m) m).testBit j = true → m.testBit j = true ∨ ∃ e ∈ es, Region.binds .any e = true ∧ (e.on = j ∨ ((acc[e.on]?).getD 0).testBit j = true)
  | [], m, h => .inl h
  | e :: es, m, h => by
    rw [List.foldl_cons] at h
    rcases fold_bit acc j es _ h with h1 | ⟨e', h1, h2⟩
    · cases hb : Region.binds .any e with
      | false => rw [hb] at h1; exact .inl h1
      | true =>
        rw [hb] at h1
        have h1' : (m ||| (2 ^ e.on ||| (acc[e.on]?).getD 0)).testBit j = true := h1
        rw [Nat.testBit_or, Nat.testBit_or, Bool.or_eq_true, Bool.or_eq_true, Nat.testBit_two_pow] at h1'
        rcases h1' with h3 | h3 | h3
        · exact .inl h3
        · exact .inr ⟨e, List.mem_cons_self, hb, .inl (of_decide_eq_true h3)⟩
        · exact .inr ⟨e, List.mem_cons_self, hb, .inr h3⟩
    · exact .inr ⟨e', List.mem_cons_of_mem _ h1, h2⟩
theorem bef_bit : ∀ (l : List Oper) (acc : List Nat) (k : Nat) (o : Oper), l[k]? = some o → ∀ j, (((befOf l acc)[acc.length + k]?).getD 0).testBit j = true → ∃ e ∈ o.after.toList, Region.binds .any e = true ∧ (e.on = j ∨ (e.on < acc.length + k ∧ (((befOf l acc)[e.on]?).getD 0).testBit j = true))
  | [], _, k, o, h, _, _ => by simp at h
  | q :: l, acc, 0, o, h, j, hb => by
    simp at h
    subst h
    rw [befOf_cons, bef_keep l _ _ (by simp), Nat.add_zero, List.getElem?_append_right (Nat.le_refl _), Nat.sub_self] at hb
    rcases fold_bit acc j q.after.toList 0 hb with h1 | ⟨e, h1, h2, h3⟩
    · simp at h1
    · refine ⟨e, h1, h2, h3.imp id fun h4 => ?_⟩
      have hlt : e.on < acc.length := by
        rcases Nat.lt_or_ge e.on acc.length with h5 | h5
        · exact h5
        · rw [List.getElem?_eq_none h5] at h4; simp at h4
      refine ⟨hlt, ?_⟩
      rw [bef_keep _ acc _ hlt]
      exact h4
  | q :: l, acc, k + 1, o, h, j, hb => by
    rw [befOf_cons] at hb ⊢
    have := bef_bit l (acc ++ [befF acc q]) k o (by simpa using h) j (by rw [List.length_append]; simpa [Nat.add_assoc, Nat.add_comm 1 k] using hb)
    obtain ⟨e, h1, h2, h3⟩ := this
    refine ⟨e, h1, h2, h3.imp id fun h4 => ⟨by have := h4.1; simp at this; omega, h4.2⟩⟩
noncomputable def BB (l : List Oper) (i j : Nat) : Bool := (((befOf l [])[i]?).getD 0).testBit j
theorem bb_bit {l : List Oper} {i j : Nat} {o : Oper} (hi : l[i]? = some o) (h : BB l i j = true) : ∃ e ∈ o.after.toList, Region.binds .any e = true ∧ (e.on = j ∨ (e.on < i ∧ BB l e.on j = true)) := by
  have := bef_bit l [] i o hi j (by simpa [BB] using h)
  simpa [BB] using this
theorem befOf_length : ∀ (l : List Oper) (acc : List Nat), (befOf l acc).length = acc.length + l.length
  | [], acc => by simp [befOf]
  | o :: l, acc => by rw [befOf_cons, befOf_length l]; simp; omega
theorem bb_lt {l : List Oper} {i j : Nat} (h : BB l i j = true) : ∃ o, l[i]? = some o := by
  unfold BB at h
  rcases Nat.lt_or_ge i l.length with h1 | h1
  · exact ⟨l[i], List.getElem?_eq_getElem h1⟩
  · rw [List.getElem?_eq_none (by rw [befOf_length]; simpa using h1)] at h
    simp at h
theorem waits_of {i k : Nat} {o : Oper} {e : Edge} (ho : ops[i]? = some o) (he : e ∈ o.after.toList) (hb : Region.binds .any e = true) (hk : e.on = k) : waits ops i k = true := by
  unfold waits
  rw [ho]
  dsimp only
  rw [← Array.any_toList]
  exact List.any_eq_true.2 ⟨e, he, by rw [hb, hk]; simp⟩
theorem bb_down {lst : Nat → Bool} (hcl : ∀ j, lst j = true → ∀ k, waits ops j k = true → lst k = true) : ∀ i, (∀ k, waits ops i k = true → lst k = true) → ∀ j, BB ops.toList i j = true → lst j = true := by
  intro i
  induction i using Nat.strongRecOn with
  | _ i ih =>
    intro hd j hj
    obtain ⟨o, ho⟩ := bb_lt hj
    have ho' : ops[i]? = some o := by simpa using ho
    obtain ⟨e, h1, h2, h3⟩ := bb_bit ho hj
    rcases h3 with h3 | ⟨h3, h4⟩
    · exact hd j (waits_of ho' h1 h2 h3)
    · exact ih e.on h3 (hcl e.on (hd e.on (waits_of ho' h1 h2 rfl))) j h4
/-- What a region's check tells. -/
theorem slots_get {l : List Oper} (h : slotsOk (befOf l []) l = true) {i j : Nat} {o q : Oper} (hi : l[i]? = some o) (hj : l[j]? = some q) :
    (∀ e ∈ o.after.toList, Region.binds .any e = true → e.on < i) ∧ ∀ d, q.dst = some d → (i ≠ j → o.dst ≠ some d) ∧ (d ∈ readsOf l o → waitsFor o j = true ∨ BB l j i = true) := by
  unfold slotsOk at h
  have h1 := List.all_eq_true.1 h (o, i) (List.mem_zipIdx_iff_getElem?.2 hi)
  dsimp only at h1
  rw [Bool.and_eq_true] at h1
  refine ⟨fun e he hb => ?_, fun d hd => ?_⟩
  · have h2 := List.all_eq_true.1 h1.1 e he
    rw [hb, Bool.not_true, Bool.false_or] at h2
    simpa [Nat.blt_eq] using h2
  · have h2 := List.all_eq_true.1 h1.2 (q, j) (List.mem_zipIdx_iff_getElem?.2 hj)
    dsimp only at h2
    rw [hd] at h2
    dsimp only at h2
    rw [Bool.and_eq_true, Bool.or_eq_true, Bool.or_eq_true, Bool.or_eq_true] at h2
    refine ⟨fun hne e => ?_, fun hm => ?_⟩
    · rcases h2.1 with h3 | h3
      · exact hne (by simpa [Nat.beq_eq] using h3)
      · rw [e] at h3
        simp [Nat.beq_refl] at h3
    · rcases h2.2 with (h3 | h3) | h3
      · rw [Bool.not_eq_true', ← Bool.not_eq_true] at h3
        exact absurd (List.any_eq_true.2 ⟨d, hm, Nat.beq_refl d⟩) h3
      · exact .inl h3
      · exact .inr h3
theorem apart_get {bef : List Nat} {ms : List (Nat × Nat)} (h : apart bef ms = true) {i j : Nat} {m k : Nat × Nat} (hi : ms[i]? = some m) (hj : ms[j]? = some k) (hji : j < i) (hB : (((bef[i]?).getD 0).testBit j) = false) (b : Nat) :
    (m.1.testBit b = true → k.2.testBit b = true → False) ∧ (m.2.testBit b = true → k.1.testBit b = true → False) := by
  unfold apart at h
  have h1 := List.all_eq_true.1 h (m, i) (List.mem_zipIdx_iff_getElem?.2 hi)
  have h2 := List.all_eq_true.1 h1 (k, j) (List.mem_zipIdx_iff_getElem?.2 hj)
  dsimp only at h2
  rw [hB, Bool.or_false, Bool.or_eq_true, Bool.and_eq_true, Nat.beq_eq, Nat.beq_eq, Nat.ble_eq] at h2
  rcases h2 with h2 | h2
  · omega
  · refine ⟨fun x y => ?_, fun x y => ?_⟩
    · have := congrArg (fun n => Nat.testBit n b) h2.1
      simp [Nat.testBit_and, x, y] at this
    · have := congrArg (fun n => Nat.testBit n b) h2.2
      simp [Nat.testBit_and, x, y] at this
theorem evDraw_cons (o : Oper) (l : List Oper) (fr : Fr) (s : St) (ms : List (Nat × Nat)) : evDraw P call ops (o :: l) fr s ms = (match evOne P call ops o fr (clr s) with
    | some (r, s') => (match fr.put o.dst r with
      | some fr' => evDraw P call ops l fr' s' (ms ++ [(s'.foot, s'.wr)])
      | none => none)
    | none => none) := rfl
/-- The states of a drawn region's operations. -/
theorem evDraw_steps : ∀ (l : List Oper) (fr : Fr) (s : St) (ms : List (Nat × Nat)) {fr' : Fr} {s' : St} {ms' : List (Nat × Nat)}, evDraw P call ops l fr s ms = some (fr', s', ms') →
    ∃ (S : Nat → St) (F : Nat → Fr) (R : Nat → AR), S 0 = s ∧ F 0 = fr ∧ (∀ i o, l[i]? = some o → evOne P call ops o (F i) (clr (S i)) = some (R i, S (i + 1)) ∧ (F i).put o.dst (R i) = some (F (i + 1))) ∧ S l.length = s' ∧ F l.length = fr' ∧ ms'.length = ms.length + l.length ∧ (∀ i, i < ms.length → ms'[i]? = ms[i]?) ∧ ∀ i, i < l.length → ms'[ms.length + i]? = some ((S (i + 1)).foot, (S (i + 1)).wr)
  | [], fr, s, ms, fr', s', ms', h => by
    have h' : some (fr, s, ms) = some (fr', s', ms') := h
    simp only [Option.some.injEq, Prod.mk.injEq] at h'
    obtain ⟨rfl, rfl, rfl⟩ := h'
    exact ⟨fun _ => s, fun _ => fr, fun _ => .undef, rfl, rfl, fun i o hi => by simp at hi, rfl, rfl, by simp, fun _ _ => rfl, fun i hi => by simp at hi⟩
  | o :: l, fr, s, ms, fr', s', ms', h => by
    rw [evDraw_cons] at h
    split at h
    · rename_i r s1 h1
      split at h
      · rename_i fr1 h2
        obtain ⟨S, F, R, e1, e2, e3, e4, e5, e6, e7, e8⟩ := evDraw_steps l fr1 s1 _ h
        refine ⟨fun i => Nat.casesOn i s S, fun i => Nat.casesOn i fr F, fun i => Nat.casesOn i r R, rfl, rfl, fun i q hi => ?_, e4, e5, by rw [e6]; simp; omega, fun i hi => ?_, fun i hi => ?_⟩
        · cases i with
          | zero =>
            simp at hi
            subst hi
            show evOne P call ops o fr (clr s) = some (r, S 0) ∧ fr.put o.dst r = some (F 0)
            exact ⟨by rw [h1, e1], by rw [h2, e2]⟩
          | succ i => exact e3 i q (by simpa using hi)
        · rw [e7 i (by simp; omega), List.getElem?_append_left hi]
        · cases i with
          | zero =>
            rw [Nat.add_zero, e7 _ (by simp), List.getElem?_append_right (Nat.le_refl _), Nat.sub_self]
            show some (s1.foot, s1.wr) = some ((S 0).foot, (S 0).wr)
            rw [e1]
          | succ i =>
            have := e8 i (by simpa using hi)
            rw [List.length_append] at this
            simpa [Nat.add_assoc, Nat.add_comm 1 i] using this
      · cases h
    · cases h
theorem put_n {fr fr' : Fr} {d : Option Tmp} {r : AR} (h : fr.put d r = some fr') : fr'.n = fr.n ∧ (∀ t, d ≠ some t → fr'.get t = fr.get t) ∧ ∀ t, d = some t → t < fr.n ∧ fr'.get t = r := by
  cases d with
  | none => simp only [Fr.put, Option.some.injEq] at h; subst h; exact ⟨rfl, fun _ _ => rfl, fun t e => by cases e⟩
  | some d =>
    simp only [Fr.put] at h
    rw [Bool.cond_eq_ite] at h
    split at h
    · rename_i hd
      simp only [Option.some.injEq] at h
      subst h
      refine ⟨rfl, fun t ht => ?_, fun t ht => ?_⟩
      · unfold Fr.get
        dsimp only
        rw [Tr.get_set, if_neg (fun e => ht (by rw [e]))]
      · cases ht
        refine ⟨by simpa [Nat.blt_eq] using hd, ?_⟩
        unfold Fr.get
        dsimp only
        rw [Tr.get_set, if_pos rfl]
    · cases h
/-- The frames of a drawn region's operations. -/
theorem frames {l : List Oper} {F : Nat → Fr} {R : Nat → AR} (hu : Uniq l) (h : ∀ i o, l[i]? = some o → (F i).put o.dst (R i) = some (F (i + 1))) : ∀ i, i ≤ l.length → (F i).n = (F 0).n ∧
    (∀ t, (∀ k o, k < i → l[k]? = some o → o.dst ≠ some t) → (F i).get t = (F 0).get t) ∧ ∀ k o t, k < i → l[k]? = some o → o.dst = some t → t < (F 0).n ∧ (F i).get t = R k
  | 0, _ => ⟨rfl, fun _ _ => rfl, fun k o t hk => by omega⟩
  | i + 1, hi => by
    obtain ⟨h1, h2, h3⟩ := frames hu h i (by omega)
    have hlt : i < l.length := by omega
    obtain ⟨p1, p2, p3⟩ := put_n (h i l[i] (List.getElem?_eq_getElem hlt))
    refine ⟨p1.trans h1, fun t ht => ?_, fun k o t hk hko hd => ?_⟩
    · rw [p2 t (ht i _ (by omega) (List.getElem?_eq_getElem hlt)), h2 t (fun k o hk hko => ht k o (by omega) hko)]
    · by_cases e : k = i
      · subst e
        rw [List.getElem?_eq_getElem hlt] at hko
        obtain rfl := Option.some.inj hko
        obtain ⟨q1, q2⟩ := p3 t hd
        exact ⟨by rw [← h1]; exact q1, q2⟩
      · obtain ⟨q1, q2⟩ := h3 k o t (by omega) hko hd
        refine ⟨q1, ?_⟩
        rw [p2 t (fun e2 => e (hu k i o _ t hko (List.getElem?_eq_getElem hlt) hd e2)), q2]
end
end Go.Proofs.YtgalkkolbobmbaaGreat.Abs
