/- The evaluator's soundness, 7: a region that draws its order. -/
import Derived.Test.YtgalkkolbobmbaaGreatE6
namespace Go.Proofs.YtgalkkolbobmbaaGreat.Abs
set_option linter.unusedVariables false
set_option linter.unusedSimpArgs false
open Go Go.RowKit
/-! Plain: what stands when some operations are over. -/
noncomputable def ovl (S : Nat → St) (l : Nat → Bool) : Nat → Mem → Mem
  | 0, M => M
  | n + 1, M => if l n = true then after (S (n + 1)) (ovl S l n M) else ovl S l n M
section
variable {S : Nat → St} {M : Mem} {b : Nat}
theorem ovl_step (l : Nat → Bool) (n : Nat) : ovl S l (n + 1) M = if l n = true then after (S (n + 1)) (ovl S l n M) else ovl S l n M := rfl
theorem ovl_succ (l : Nat → Bool) (n : Nat) : ovl S l (n + 1) M b = if l n = true ∧ (S (n + 1)).wr.testBit b = true then (S (n + 1)).mem.get b else ovl S l n M b := by
  rw [ovl_step]
  by_cases h : l n = true
  · rw [if_pos h]
    show (if (S (n + 1)).wr.testBit b = true then (S (n + 1)).mem.get b else ovl S l n M b) = _
    by_cases h2 : (S (n + 1)).wr.testBit b = true
    · rw [if_pos h2, if_pos ⟨h, h2⟩]
    · rw [if_neg h2, if_neg (fun e => h2 e.2)]
  · rw [if_neg h, if_neg (fun e => h e.1)]
theorem ovl_alike {l l' : Nat → Bool} : ∀ n, (∀ k, k < n → (S (k + 1)).wr.testBit b = true → l k = l' k) → ovl S l n M b = ovl S l' n M b
  | 0, _ => rfl
  | n + 1, h => by
    rw [ovl_succ, ovl_succ, ovl_alike n (fun k hk hw => h k (by omega) hw)]
    by_cases hw : (S (n + 1)).wr.testBit b = true
    · rw [h n (by omega) hw]
    · rw [if_neg (fun e => hw e.2), if_neg (fun e => hw e.2)]
theorem ovl_cut {l : Nat → Bool} {i : Nat} : ∀ n, i ≤ n → (∀ k, i ≤ k → k < n → (S (k + 1)).wr.testBit b = true → l k = false) → ovl S l n M b = ovl S l i M b
  | 0, hi, _ => by rw [show i = 0 by omega]
  | n + 1, hi, h => by
    by_cases e : i = n + 1
    · rw [e]
    · rw [ovl_succ, if_neg (fun e2 => by have := h n (by omega) (by omega) e2.2; rw [this] at e2; cases e2.1)]
      exact ovl_cut n (by omega) (fun k h1 h2 h3 => h k h1 (by omega) h3)
theorem ovl_none {l : Nat → Bool} (n : Nat) (h : ∀ k, k < n → (S (k + 1)).wr.testBit b = true → l k = false) : ovl S l n M b = M b :=
  ovl_cut (i := 0) n (Nat.zero_le _) (fun k _ h2 h3 => h k h2 h3)
end
noncomputable def clr (s : St) : St := { s with foot := 0, wr := 0 }
theorem clr_wf {s : St} (h : WF s) : WF (clr s) := ⟨h.free, fun b e => by simp [clr] at e⟩
/-- The states of a region's operations, one behind the other, each with marks of its own; B: what waits for what. -/
structure Chain (S : Nat → St) (N : Nat) (B : Nat → Nat → Bool) : Prop where
  wf0 : WF (S 0)
  mono : ∀ i, i < N → Mono (clr (S i)) (S (i + 1))
  apart : ∀ i j, i < N → j < i → B i j = false → ∀ b, ((S (i + 1)).foot.testBit b = true → (S (j + 1)).wr.testBit b = true → False) ∧ ((S (i + 1)).wr.testBit b = true → (S (j + 1)).foot.testBit b = true → False)
section
variable {S : Nat → St} {N : Nat} {B : Nat → Nat → Bool} {M : Mem} {l : Nat → Bool} {i b : Nat}
theorem Chain.wf (h : Chain S N B) : ∀ i, i ≤ N → WF (S i)
  | 0, _ => h.wf0
  | i + 1, hi => (h.mono i (by omega)).wf
theorem Chain.next (h : Chain S N B) {i j : Nat} (hij : i ≤ j) (hj : j ≤ N) : (S i).next ≤ (S j).next := by
  induction j with
  | zero => rw [show i = 0 by omega]; exact Nat.le_refl _
  | succ j ih =>
    by_cases e : i = j + 1
    · rw [e]; exact Nat.le_refl _
    · exact Nat.le_trans (ih (by omega) (by omega)) (h.mono j (by omega)).next
theorem Chain.wrlt (h : Chain S N B) {k : Nat} (hk : k < N) (hw : (S (k + 1)).wr.testBit b = true) : (S (k + 1)).foot.testBit b = true ∧ b < (S (k + 1)).next := (h.mono k hk).wf.wr b hw
/-- One behind the other. -/
theorem Chain.full (h : Chain S N B) (h0 : b < (S 0).next → M b = (S 0).mem.get b) : ∀ i, i ≤ N → b < (S i).next → ovl S (fun _ => true) i M b = (S i).mem.get b
  | 0, _, hb => h0 hb
  | i + 1, hi, hb => by
    rw [ovl_succ]
    by_cases hw : (S (i + 1)).wr.testBit b = true
    · rw [if_pos ⟨rfl, hw⟩]
    · rw [if_neg (fun e => hw e.2)]
      by_cases hbi : b < (S i).next
      · rw [h.full h0 i (by omega) hbi]
        exact ((h.mono i (by omega)).same b (by simpa using hw)).symm
      · exact absurd ((h.mono i (by omega)).made b (by show (S i).next ≤ b; omega) hb) hw
/-- What waits is behind; who waits isn't ahead. -/
structure Down (N : Nat) (B : Nat → Nat → Bool) (l : Nat → Bool) (i : Nat) : Prop where
  off : l i = false
  pre : ∀ k, B i k = true → l k = true
  post : ∀ k, k < N → B k i = true → l k = false
theorem Chain.agree (h : Chain S N B) (hi : i < N) (hd : Down N B l i) (hf : (S (i + 1)).foot.testBit b = true) (hb : b < (S i).next) (h0 : b < (S 0).next → M b = (S 0).mem.get b) : ovl S l N M b = (S i).mem.get b := by
  have e1 : ovl S l N M b = ovl S (fun k => decide (k < i)) N M b := ovl_alike N fun k hk hw => by
    rcases Nat.lt_trichotomy k i with e | e | e
    · rw [decide_eq_true e]
      cases hB : B i k with
      | true => exact hd.pre k hB
      | false => exact ((h.apart i k hi e hB b).1 hf hw).elim
    · subst e; rw [hd.off]; simp
    · rw [decide_eq_false (by omega)]
      cases hB : B k i with
      | true => exact hd.post k hk hB
      | false => exact ((h.apart k i hk e hB b).2 hw hf).elim
  have e2 : ovl S (fun k => decide (k < i)) N M b = ovl S (fun k => decide (k < i)) i M b := ovl_cut N (by omega) (fun k h1 _ _ => decide_eq_false (by omega))
  have e3 : ovl S (fun k => decide (k < i)) i M b = ovl S (fun _ => true) i M b := ovl_alike i fun k hk _ => decide_eq_true hk
  rw [e1, e2, e3, h.full h0 i (by omega) hb]
theorem Chain.fresh (h : Chain S N B) (hi : i < N) (hd : Down N B l i) (h1 : (S i).next ≤ b) (h2 : b < (S (i + 1)).next) : ovl S l N M b = M b := by
  have hwi := (h.mono i hi).made b h1 h2
  refine ovl_none N fun k hk hw => ?_
  rcases Nat.lt_trichotomy k i with e | e | e
  · have h3 := (h.wrlt hk hw).2
    have h4 := h.next (i := k + 1) (j := i) (by omega) (by omega)
    omega
  · subst e; exact hd.off
  · cases hB : B k i with
    | true => exact hd.post k hk hB
    | false => exact ((h.apart k i hk e hB b).2 hw (h.wrlt hi hwi).1).elim
theorem Chain.step (h : Chain S N B) (hi : i < N) (hd : Down N B l i) : after (S (i + 1)) (ovl S l N M) = ovl S (don l i) N M := by
  funext b
  unfold after
  by_cases hw : (S (i + 1)).wr.testBit b = true
  · rw [if_pos hw]
    have e1 : ovl S (don l i) N M b = ovl S (don l i) (i + 1) M b := ovl_cut N (by omega) fun k h1 h2 h3 => by
      rw [don_ne l (by omega : k ≠ i)]
      cases hB : B k i with
      | true => exact hd.post k h2 hB
      | false => exact ((h.apart k i h2 (by omega) hB b).1 (h.wrlt h2 h3).1 hw).elim
    rw [e1, ovl_succ, if_pos ⟨don_self l i, hw⟩]
  · rw [if_neg hw]
    refine ovl_alike N fun k hk hwk => ?_
    rw [don_ne l (fun e => by subst e; exact hw hwk)]
theorem Chain.home (h : Chain S N B) : ∀ n, n ≤ N → (S 0).next ≤ b → b < (S n).next → ∃ j, j < n ∧ (S j).next ≤ b ∧ b < (S (j + 1)).next
  | 0, _, h1, h2 => by omega
  | n + 1, hn, h1, h2 => by
    by_cases e : b < (S n).next
    · obtain ⟨j, k1, k2, k3⟩ := h.home n (by omega) h1 e
      exact ⟨j, by omega, k2, k3⟩
    · exact ⟨n, by omega, by omega, h2⟩
theorem Chain.homes (h : Chain S N B) {i j : Nat} (hi : i < N) (hj : j < N) (h1 : (S i).next ≤ b) (h2 : b < (S (i + 1)).next) (h3 : (S j).next ≤ b) (h4 : b < (S (j + 1)).next) : i = j := by
  rcases Nat.lt_trichotomy i j with e | e | e
  · have := h.next (i := i + 1) (j := j) (by omega) (by omega); omega
  · exact e
  · have := h.next (i := j + 1) (j := i) (by omega) (by omega); omega
end
/-! The slots of a drawn region. -/
noncomputable def fillV (vs : Nat → Value) : List Oper → Nat → Act → Act
  | [], _, a => a
  | o :: l, i, a => fillV vs l (i + 1) (a.put o.dst (vs i))
theorem put_size (a : Act) (d : Option Tmp) (v : Value) : (a.put d v).tmps.size = a.tmps.size := by cases d <;> simp [Act.put]
theorem fillV_size (vs : Nat → Value) : ∀ (l : List Oper) (i : Nat) (a : Act), (fillV vs l i a).tmps.size = a.tmps.size
  | [], _, _ => rfl
  | o :: l, i, a => by rw [fillV, fillV_size vs l, put_size]
theorem fillV_defers (vs : Nat → Value) : ∀ (l : List Oper) (i : Nat) (a : Act), (fillV vs l i a).defers = a.defers
  | [], _, _ => rfl
  | o :: l, i, a => by rw [fillV, fillV_defers vs l, put_defers]
theorem put_get_ne (a : Act) {d : Option Tmp} {t : Nat} (v : Value) (h : d ≠ some t) : (a.put d v).tmps.getD t Go.undef = a.tmps.getD t Go.undef := by
  cases d with
  | none => rfl
  | some d =>
    have : d ≠ t := fun e => h (by rw [e])
    simp only [Act.put, Array.getD_eq_getD_getElem?, Array.getElem?_setIfInBounds_ne this]
theorem put_get (a : Act) {t : Nat} (v : Value) (h : t < a.tmps.size) : (a.put (some t) v).tmps.getD t Go.undef = v := by simp [Act.put, Array.getD, h]
theorem fillV_off (vs : Nat → Value) {t : Nat} : ∀ (l : List Oper) (i : Nat) (a : Act), (∀ o ∈ l, o.dst ≠ some t) → (fillV vs l i a).tmps.getD t Go.undef = a.tmps.getD t Go.undef
  | [], _, _, _ => rfl
  | o :: l, i, a, h => by rw [fillV, fillV_off vs l _ _ (fun q hq => h q (List.mem_cons_of_mem _ hq)), put_get_ne _ _ (h o List.mem_cons_self)]
theorem fillV_on (vs : Nat → Value) {t : Nat} : ∀ (l : List Oper) (i k : Nat) (a : Act) (o : Oper), l[k]? = some o → o.dst = some t → (∀ j q, j ≠ k → l[j]? = some q → q.dst ≠ some t) → t < a.tmps.size → (fillV vs l i a).tmps.getD t Go.undef = vs (i + k)
  | [], i, k, a, o, h, _, _, _ => by simp at h
  | q :: l, i, 0, a, o, h, hd, hu, ht => by
    simp at h
    subst h
    rw [fillV, fillV_off vs l _ _ (fun p hp => by
      obtain ⟨j, hj⟩ := List.getElem?_of_mem hp
      exact hu (j + 1) p (by omega) (by simpa using hj)), hd, put_get _ _ ht]
    rfl
  | q :: l, i, k + 1, a, o, h, hd, hu, ht => by
    rw [fillV, fillV_on vs l (i + 1) k _ o (by simpa using h) hd (fun j p hj hp => hu (j + 1) p (by omega) (by simpa using hp)) (by rw [put_size]; exact ht)]
    congr 1
    omega
theorem act_ext {a b : Act} (hs : a.tmps.size = b.tmps.size) (hd : a.defers = b.defers) (h : ∀ t, t < a.tmps.size → a.tmps.getD t Go.undef = b.tmps.getD t Go.undef) : a = b := by
  obtain ⟨at_, ad⟩ := a
  obtain ⟨bt, bd⟩ := b
  dsimp only at hs hd h
  subst hd
  congr 1
  apply Array.ext hs
  intro i h1 h2
  have := h i h1
  simpa [Array.getD, h1, h2] using this
/-- Which operation writes a slot. -/
def Uniq (l : List Oper) : Prop := ∀ (i j : Nat) (o q : Oper) (d : Tmp), l[i]? = some o → l[j]? = some q → o.dst = some d → q.dst = some d → i = j
theorem writer (l : List Oper) (t : Nat) : (∃ (k : Nat) (o : Oper), l[k]? = some o ∧ o.dst = some t) ∨ ∀ o ∈ l, o.dst ≠ some t := by
  by_cases h : ∃ (k : Nat) (o : Oper), l[k]? = some o ∧ o.dst = some t
  · exact .inl h
  · refine .inr fun o ho e => h ?_
    obtain ⟨k, hk⟩ := List.getElem?_of_mem ho
    exact ⟨k, o, hk, e⟩
theorem fillV_put {l : List Oper} (hu : Uniq l) {vs : Nat → Value} {a : Act} {i : Nat} {o : Oper} (hi : l[i]? = some o) (v : Value) : (fillV vs l 0 a).put o.dst v = fillV (upd vs i v) l 0 a := by
  refine act_ext (by rw [put_size, fillV_size, fillV_size]) (by rw [put_defers, fillV_defers, fillV_defers]) (fun t ht => ?_)
  rw [put_size, fillV_size] at ht
  rcases writer l t with ⟨k, q, hk, hq⟩ | hn
  · have hothers : ∀ j p, j ≠ k → l[j]? = some p → p.dst ≠ some t := fun j p hj hp e => hj (hu j k p q t hp hk e hq)
    rw [fillV_on _ l 0 k a q hk hq hothers ht, Nat.zero_add]
    by_cases e : k = i
    · subst e
      rw [hi] at hk
      obtain rfl := Option.some.inj hk
      rw [hq, put_get _ _ (by rw [fillV_size]; exact ht), upd_self]
    · rw [put_get_ne _ _ (fun e2 => e (hu k i q o t hk hi hq e2)), fillV_on _ l 0 k a q hk hq hothers ht, Nat.zero_add, upd_ne _ _ e]
  · rw [fillV_off _ l 0 a hn, put_get_ne _ _ (hn o (List.mem_of_getElem? hi)), fillV_off _ l 0 a hn]
noncomputable def old (l : List Oper) (a : Act) : Nat → Value := fun j => match (l[j]?).bind (·.dst) with
  | some d => a.tmps.getD d Go.undef
  | none => Go.undef
theorem old_of {l : List Oper} {a : Act} {k t : Nat} {q : Oper} (hk : l[k]? = some q) (hq : q.dst = some t) : old l a k = a.tmps.getD t Go.undef := by
  unfold old
  rw [hk, Option.bind_some, hq]
theorem fillV_old {l : List Oper} (hu : Uniq l) (a : Act) : a = fillV (old l a) l 0 a := by
  refine act_ext (by rw [fillV_size]) (by rw [fillV_defers]) (fun t ht => ?_)
  rcases writer l t with ⟨k, q, hk, hq⟩ | hn
  · rw [fillV_on _ l 0 k a q hk hq (fun j p hj hp e => hj (hu j k p q t hp hk e hq)) ht, Nat.zero_add, old_of hk hq]
  · rw [fillV_off _ l 0 a hn]
end Go.Proofs.YtgalkkolbobmbaaGreat.Abs
