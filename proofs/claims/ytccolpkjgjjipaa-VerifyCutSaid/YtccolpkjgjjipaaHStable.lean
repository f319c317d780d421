/- A region that draws its order, where what each operation leaves stands whatever comes up next: each operation is looked at once. -/
import Derived.Orders
import Derived.Laws.World
namespace Go.Proofs.Ytccolpkjgjjipaa.Q
open Go

def upd (vs : Nat → Value) (i : Nat) (v : Value) : Nat → Value := fun j => if j = i then v else vs j
/-- Every edge points back. -/
def backB (ops : Array Oper) : Bool := (List.range ops.size).all fun j => match ops[j]? with | some o => o.after.all fun e => decide (e.on < j) | none => true
/-- Does an operation wait for another one? -/
def waits (ops : Array Oper) (j i : Nat) : Bool := match ops[j]? with | some o => o.after.any fun e => Region.binds .any e && e.on == i | none => false

theorem count_set_true : ∀ {l : List Bool} {i : Nat}, l[i]? = some false → (l.set i true).count false + 1 = l.count false
  | [], i, h => by simp at h
  | b :: l, 0, h => by
    obtain rfl : b = false := by simpa using h
    simp
  | b :: l, i + 1, h => by
    have := count_set_true (l := l) (i := i) (by simpa using h)
    cases b <;> simp [this] <;> omega

variable {P : Program} {ops : Array Oper} {Q : Exit → Act → World → Prop}
theorem all_listed (hb : backB ops = true) {listed : Array Bool} (hs : listed.size = ops.size) (hr : Region.ready .any ops listed = []) : ∀ j, j < ops.size → listed.getD j true = true := by
  intro j
  induction j using Nat.strongRecOn with
  | _ j ih =>
    intro hj
    cases hl : listed.getD j true with
    | true => rfl
    | false =>
      exfalso
      have : j ∈ Region.ready .any ops listed := mem_ready.2 ⟨hl, ops[j], Array.getElem?_eq_getElem hj, fun e he _ => by
        have h1 := List.all_eq_true.1 hb j (List.mem_range.2 hj)
        rw [Array.getElem?_eq_getElem hj] at h1
        have h2 := of_decide_eq_true (Array.all_eq_true_iff_forall_mem.1 h1 e he)
        have h3 := ih e.on h2 (by omega)
        simpa [Array.getD, hs, show e.on < ops.size by omega] using h3⟩
      rw [hr] at this
      cases this

theorem wpAny_stable (hb : backB ops = true) (V : (Nat → Value) → Act) (S : World → Prop) (A : Nat → (Nat → Value) → World → Prop)
    (step : ∀ i o, ops[i]? = some o → ∀ vs w, S w → (∀ j, waits ops i j = true → A j vs w) → wpOp P ops Q i (fun a' w' => ∃ v, a' = V (upd vs i v) ∧ S w' ∧ A i (upd vs i v) w' ∧ ∀ j, j < ops.size → j ≠ i → waits ops j i = false → A j vs w → A j (upd vs i v) w') (V vs) w)
    (fin : ∀ vs w, S w → (∀ j, j < ops.size → A j vs w) → Q .normal (V vs) w) :
    ∀ (fuel : Nat) (listed : Array Bool) (vs : Nat → Value) (w : World), listed.size = ops.size → listed.toList.count false = fuel → S w → (∀ j, listed.getD j false = true → A j vs w) → (∀ j, listed.getD j false = true → ∀ k, waits ops j k = true → listed.getD k false = true) → wpAny P .any ops Q fuel listed (V vs) w := by
  have done : ∀ (listed : Array Bool) (vs : Nat → Value) (w : World), listed.size = ops.size → S w → (∀ j, listed.getD j false = true → A j vs w) → Region.ready .any ops listed = [] → Q .normal (V vs) w := fun listed vs w hs hS hA hr =>
    fin vs w hS fun j hj => hA j (by
      have := all_listed hb hs hr j hj
      simpa [Array.getD, hs, hj] using this)
  intro fuel
  induction fuel with
  | zero =>
    intro listed vs w hs hc hS hA _
    have hr : Region.ready .any ops listed = [] := by
      rw [List.eq_nil_iff_forall_not_mem]
      intro j hj
      obtain ⟨hl, o, ho, _⟩ := mem_ready.1 hj
      have hlt : j < listed.size := by rw [hs]; exact (Array.getElem?_eq_some_iff.1 ho).1
      have : false ∈ listed.toList := by
        simp [Array.getD, hlt] at hl
        rw [← hl]
        simp
      rw [List.count_eq_zero] at hc
      exact hc this
    exact ⟨hr, done listed vs w hs hS hA hr⟩
  | succ fuel ih =>
    intro listed vs w hs hc hS hA hcl
    refine ⟨fun hr => done listed vs w hs hS hA hr, fun i hi => ?_⟩
    obtain ⟨hl, o, ho, hall⟩ := mem_ready.1 hi
    have hlt : i < listed.size := by rw [hs]; exact (Array.getElem?_eq_some_iff.1 ho).1
    have hl2 : listed.getD i false = false := by simpa [Array.getD, hlt] using hl
    have hdeps : ∀ j, waits ops i j = true → listed.getD j false = true := fun j hj => by
      unfold waits at hj
      rw [ho] at hj
      obtain ⟨k, hk, hz⟩ := Array.any_eq_true.1 hj
      simp only [Bool.and_eq_true, beq_iff_eq] at hz
      rw [← hz.2]
      exact hall _ (Array.getElem_mem hk) hz.1
    have hset : ∀ j, (listed.setIfInBounds i true).getD j false = if j = i then true else listed.getD j false := fun j => by
      by_cases hji : j = i
      · subst hji; simp [Array.getD, hlt]
      · simp only [hji, if_false]
        by_cases hj : j < listed.size
        · simp [Array.getD, hj, Ne.symm hji]
        · simp [Array.getD, hj]
    refine wpOp_mono (fun a' w' h => ?_) (step i o ho vs w hS (fun j hj => hA j (hdeps j hj)))
    obtain ⟨v, rfl, hS', hAi, hst⟩ := h
    refine ih _ _ _ (by simpa using hs) ?_ hS' ?_ ?_
    · have := count_set_true (l := listed.toList) (i := i) (by simp [Array.getD, hlt] at hl; simp [hlt, hl])
      rw [Array.toList_setIfInBounds]
      omega
    · intro j hj
      by_cases hji : j = i
      · subst hji; exact hAi
      · rw [hset, if_neg hji] at hj
        have hjs : j < ops.size := by
          rcases Nat.lt_or_ge j listed.size with h' | h'
          · omega
          · simp [Array.getD, Nat.not_lt.2 h'] at hj
        refine hst j hjs hji ?_ (hA j hj)
        cases hw : waits ops j i with
        | false => rfl
        | true => rw [hcl j hj i hw] at hl2; cases hl2
    · intro j hj k hk
      rw [hset] at hj ⊢
      by_cases hki : k = i
      · rw [if_pos hki]
      · rw [if_neg hki]
        by_cases hji : j = i
        · subst hji; exact hdeps k hk
        · rw [if_neg hji] at hj; exact hcl j hj k hk

/-- THE REGION: each operation once, whatever order is drawn. -/
theorem wp_region_stable {id : Nat} (hm : P.follows .mixedOrders = true) (hb : backB ops = true) (V : (Nat → Value) → Act) (S : World → Prop) (A : Nat → (Nat → Value) → World → Prop)
    (step : ∀ i o, ops[i]? = some o → ∀ vs w, S w → (∀ j, waits ops i j = true → A j vs w) → wpOp P ops Q i (fun a' w' => ∃ v, a' = V (upd vs i v) ∧ S w' ∧ A i (upd vs i v) w' ∧ ∀ j, j < ops.size → j ≠ i → waits ops j i = false → A j vs w → A j (upd vs i v) w') (V vs) w)
    (fin : ∀ vs w, S w → (∀ j, j < ops.size → A j vs w) → Q .normal (V vs) w) {a : Act} {w : World} (vs0 : Nat → Value) (ha : a = V vs0) (hS : S w.drew) : (Code.region id ops true).wp P Q a w := by
  subst ha
  refine wp_region_any hm ?_
  refine wpAny_stable hb V S A step fin ops.size _ vs0 _ (by simp) (by simp) hS (fun j hj => ?_) (fun j hj => ?_)
  all_goals
    exfalso
    rcases Nat.lt_or_ge j ops.size with h' | h'
    · simp [Array.getD, h'] at hj
    · simp [Array.getD, Nat.not_lt.2 h'] at hj
end Go.Proofs.Ytccolpkjgjjipaa.Q
