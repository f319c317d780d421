/- A region that draws its order: an invariant that knows which operations are over; each operation is looked at once. (Of no program: written for every seat.) -/
import Derived.Orders
import Derived.Laws.World
import Derived.Below
namespace Go.Proofs.Ytediidkiedifcaa.Inv
set_option linter.unusedVariables false
set_option linter.unusedSimpArgs false
open Go

def upd (vs : Nat → Value) (i : Nat) (v : Value) : Nat → Value := fun j => if j = i then v else vs j
/-- Every edge points back. -/
def backB (ops : Array Oper) : Bool := (List.range ops.size).all fun j => match ops[j]? with | some o => o.after.all fun e => decide (e.on < j) | none => true
/-- Does an operation wait for another one? -/
def waits (ops : Array Oper) (j i : Nat) : Bool := match ops[j]? with | some o => o.after.any fun e => Region.binds .any e && e.on == i | none => false

theorem count_set_true : ∀ {l : List Bool} {i : Nat}, l[i]? = some false → (l.set i true).count false + 1 = l.count false
  | [], i, h => by simp at h
  | b :: l, 0, h => by
    obtain rfl : b = false := by simpa using h
    simp
  | b :: l, i + 1, h => by
    have := count_set_true (l := l) (i := i) (by simpa using h)
    cases b <;> simp [this] <;> omega

variable {P : Program} {ops : Array Oper} {Q : Exit → Act → World → Prop}
theorem all_listed (hb : backB ops = true) {listed : Array Bool} (hs : listed.size = ops.size) (hr : Region.ready .any ops listed = []) : ∀ j, j < ops.size → listed.getD j true = true := by
  intro j
  induction j using Nat.strongRecOn with
  | _ j ih =>
    intro hj
    cases hl : listed.getD j true with
    | true => rfl
    | false =>
      exfalso
      have : j ∈ Region.ready .any ops listed := mem_ready.2 ⟨hl, ops[j], Array.getElem?_eq_getElem hj, fun e he _ => by
        have h1 := List.all_eq_true.1 hb j (List.mem_range.2 hj)
        rw [Array.getElem?_eq_getElem hj] at h1
        have h2 := of_decide_eq_true (Array.all_eq_true_iff_forall_mem.1 h1 e he)
        have h3 := ih e.on h2 (by omega)
        simpa [Array.getD, hs, show e.on < ops.size by omega] using h3⟩
      rw [hr] at this
      cases this

/-- What is over, behind one more. -/
def don (l : Nat → Bool) (i : Nat) : Nat → Bool := fun j => if j = i then true else l j
theorem don_self (l : Nat → Bool) (i : Nat) : don l i i = true := by simp [don]
theorem don_ne (l : Nat → Bool) {i j : Nat} (h : j ≠ i) : don l i j = l j := by simp [don, h]
theorem upd_self (vs : Nat → Value) (i : Nat) (v : Value) : upd vs i v i = v := by simp [upd]
theorem upd_ne (vs : Nat → Value) {i j : Nat} (v : Value) (h : j ≠ i) : upd vs i v j = vs j := by simp [upd, h]
theorem wpAny_inv (hb : backB ops = true) (V : (Nat → Value) → Act) (I : (Nat → Bool) → (Nat → Value) → World → Prop)
    (step : ∀ i o, ops[i]? = some o → ∀ l vs w, I l vs w → l i = false → (∀ j, waits ops i j = true → l j = true) → (∀ j, l j = true → ∀ k, waits ops j k = true → l k = true) → wpOp P ops Q i (fun a' w' => ∃ v, a' = V (upd vs i v) ∧ I (don l i) (upd vs i v) w') (V vs) w)
    (fin : ∀ l vs w, (∀ j, j < ops.size → l j = true) → I l vs w → Q .normal (V vs) w) :
    ∀ (fuel : Nat) (listed : Array Bool) (vs : Nat → Value) (w : World), listed.size = ops.size → listed.toList.count false = fuel → I (fun j => listed.getD j false) vs w → (∀ j, listed.getD j false = true → ∀ k, waits ops j k = true → listed.getD k false = true) → wpAny P .any ops Q fuel listed (V vs) w := by
  have done : ∀ (listed : Array Bool) (vs : Nat → Value) (w : World), listed.size = ops.size → I (fun j => listed.getD j false) vs w → Region.ready .any ops listed = [] → Q .normal (V vs) w := fun listed vs w hs hI hr =>
    fin _ vs w (fun j hj => by
      have := all_listed hb hs hr j hj
      simpa [Array.getD, hs, hj] using this) hI
  intro fuel
  induction fuel with
  | zero =>
    intro listed vs w hs hc hI _
    have hr : Region.ready .any ops listed = [] := by
      rw [List.eq_nil_iff_forall_not_mem]
      intro j hj
      obtain ⟨hl, o, ho, _⟩ := mem_ready.1 hj
      have hlt : j < listed.size := by rw [hs]; exact (Array.getElem?_eq_some_iff.1 ho).1
      have : false ∈ listed.toList := by
        simp [Array.getD, hlt] at hl
        rw [← hl]
        simp
      rw [List.count_eq_zero] at hc
      exact hc this
    exact ⟨hr, done listed vs w hs hI hr⟩
  | succ fuel ih =>
    intro listed vs w hs hc hI hcl
    refine ⟨fun hr => done listed vs w hs hI hr, fun i hi => ?_⟩
    obtain ⟨hl, o, ho, hall⟩ := mem_ready.1 hi
    have hlt : i < listed.size := by rw [hs]; exact (Array.getElem?_eq_some_iff.1 ho).1
    have hl2 : listed.getD i false = false := by simpa [Array.getD, hlt] using hl
    have hdeps : ∀ j, waits ops i j = true → listed.getD j false = true := fun j hj => by
      unfold waits at hj
      rw [ho] at hj
      obtain ⟨k, hk, hz⟩ := Array.any_eq_true.1 hj
      simp only [Bool.and_eq_true, beq_iff_eq] at hz
      rw [← hz.2]
      exact hall _ (Array.getElem_mem hk) hz.1
    have hset : ∀ j, (listed.setIfInBounds i true).getD j false = if j = i then true else listed.getD j false := fun j => by
      by_cases hji : j = i
      · subst hji; simp [Array.getD, hlt]
      · simp only [hji, if_false]
        by_cases hj : j < listed.size
        · simp [Array.getD, hj, Ne.symm hji]
        · simp [Array.getD, hj]
    refine wpOp_mono (fun a' w' h => ?_) (step i o ho (fun j => listed.getD j false) vs w hI hl2 hdeps hcl)
    obtain ⟨v, rfl, hI'⟩ := h
    refine ih _ _ _ (by simpa using hs) ?_ ?_ ?_
    · have := count_set_true (l := listed.toList) (i := i) (by simp [Array.getD, hlt] at hl; simp [hlt, hl])
      rw [Array.toList_setIfInBounds]
      omega
    · have e : (fun j => (listed.setIfInBounds i true).getD j false) = don (fun j => listed.getD j false) i := funext hset
      rw [e]
      exact hI'
    · intro j hj k hk
      rw [hset] at hj ⊢
      by_cases hki : k = i
      · rw [if_pos hki]
      · rw [if_neg hki]
        by_cases hji : j = i
        · subst hji; exact hdeps k hk
        · rw [if_neg hji] at hj; exact hcl j hj k hk

/-- THE REGION: each operation once, whatever order is drawn; I knows which are over. -/
theorem wp_region_inv {id : Nat} (hm : P.follows .mixedOrders = true) (hb : backB ops = true) (V : (Nat → Value) → Act) (I : (Nat → Bool) → (Nat → Value) → World → Prop)
    (step : ∀ i o, ops[i]? = some o → ∀ l vs w, I l vs w → l i = false → (∀ j, waits ops i j = true → l j = true) → (∀ j, l j = true → ∀ k, waits ops j k = true → l k = true) → wpOp P ops Q i (fun a' w' => ∃ v, a' = V (upd vs i v) ∧ I (don l i) (upd vs i v) w') (V vs) w)
    (fin : ∀ l vs w, (∀ j, j < ops.size → l j = true) → I l vs w → Q .normal (V vs) w) {a : Act} {w : World} (vs0 : Nat → Value) (ha : a = V vs0) (h0 : I (fun _ => false) vs0 w.drew) : (Code.region id ops true).wp P Q a w := by
  subst ha
  refine wp_region_any hm ?_
  have e : (fun j => (Array.replicate ops.size false).getD j false) = (fun _ => false) := funext fun j => by
    rcases Nat.lt_or_ge j ops.size with h' | h'
    · simp [Array.getD, h']
    · simp [Array.getD, Nat.not_lt.2 h']
  refine wpAny_inv hb V I step fin ops.size _ vs0 _ (by simp) (by simp) (by rw [e]; exact h0) (fun j hj => ?_)
  have := congrFun e j
  rw [this] at hj
  cases hj
open Go.RowKit
/-- What each operation that is over has left; the world has only grown. -/
structure IV (wR : World) (A : Nat → Value → World → Prop) (l : Nat → Bool) (vs : Nat → Value) (W : World) : Prop where
  b : Below wR.heap.size wR W
  a : ∀ j, l j = true → A j (vs j) W
theorem IV.plain {wR W : World} {A : Nat → Value → World → Prop} {l : Nat → Bool} {vs : Nat → Value} (h : IV wR A l vs W) (i : Nat) (v : Value) (hv : A i v W) : IV wR A (don l i) (upd vs i v) W := by
  refine ⟨h.b, fun j hj => ?_⟩
  by_cases e : j = i
  · subst e
    rw [upd_self]
    exact hv
  · rw [upd_ne vs v e]
    rw [don_ne l e] at hj
    exact h.a j hj
theorem IV.call {wR W W' : World} {A : Nat → Value → World → Prop} {l : Nat → Bool} {vs : Nat → Value} (h : IV wR A l vs W) (hA : ∀ j v W W', A j v W → Below W.heap.size W W' → A j v W') (hb : Below W.heap.size W W') (i : Nat) (v : Value) (hv : A i v W') : IV wR A (don l i) (upd vs i v) W' := by
  refine ⟨h.b.trans (hb.mono h.b.size), fun j hj => ?_⟩
  by_cases e : j = i
  · subst e
    rw [upd_self]
    exact hv
  · rw [upd_ne vs v e]
    rw [don_ne l e] at hj
    exact hA _ _ _ _ (h.a j hj) hb
theorem wanted_of {o : Oper} {ops : Array Oper} {tmps : Array Value} {j x : Nat} {want b : Bool} (hg : o.guard = some (j, want)) (hd : (ops[j]?).bind (·.dst) = some x) (hv : tmps[x]? = some (.bool b)) : Region.wanted o (yielded ops tmps) = (b == want) := by
  unfold Region.wanted yielded
  rw [hg]
  simp only [hd, Option.bind_some, hv]
  cases b <;> cases want <;> rfl
end Go.Proofs.Ytediidkiedifcaa.Inv
