/- The evaluator's soundness, 6: regions, in order and drawn. -/
import Derived.Test.YtgalkkolbobmbaaGreatE5
namespace Go.Proofs.YtgalkkolbobmbaaGreat.Abs
set_option linter.unusedVariables false
set_option linter.unusedSimpArgs false
open Go Go.RowKit
/-! An invariant over a drawn region (each operation is looked at once). -/
def upd (vs : Nat → Value) (i : Nat) (v : Value) : Nat → Value := fun j => if j = i then v else vs j
def backB (ops : Array Oper) : Bool := (List.range ops.size).all fun j => match ops[j]? with | some o => o.after.all fun e => !(Region.binds .any e) || decide (e.on < j) | none => true
def waits (ops : Array Oper) (j i : Nat) : Bool := match ops[j]? with | some o => o.after.any fun e => Region.binds .any e && e.on == i | none => false
def don (l : Nat → Bool) (i : Nat) : Nat → Bool := fun j => if j = i then true else l j
theorem don_self (l : Nat → Bool) (i : Nat) : don l i i = true := by simp [don]
theorem don_ne (l : Nat → Bool) {i j : Nat} (h : j ≠ i) : don l i j = l j := by simp [don, h]
theorem upd_self (vs : Nat → Value) (i : Nat) (v : Value) : upd vs i v i = v := by simp [upd]
theorem upd_ne (vs : Nat → Value) {i j : Nat} (v : Value) (h : j ≠ i) : upd vs i v j = vs j := by simp [upd, h]
theorem count_set_true : ∀ {l : List Bool} {i : Nat}, l[i]? = some false → (l.set i true).count false + 1 = l.count false
  | [], i, h => by simp at h
  | b :: l, 0, h => by
    obtain rfl : b = false := by simpa using h
    simp
  | b :: l, i + 1, h => by
    have := count_set_true (l := l) (i := i) (by simpa using h)
    cases b <;> simp [this] <;> omega
section inv
variable {P : Program} {ops : Array Oper} {Q : Exit → Act → World → Prop}
theorem all_listed (hb : backB ops = true) {listed : Array Bool} (hs : listed.size = ops.size) (hr : Region.ready .any ops listed = []) : ∀ j, j < ops.size → listed.getD j true = true := by
  intro j
  induction j using Nat.strongRecOn with
  | _ j ih =>
    intro hj
    cases hl : listed.getD j true with
    | true => rfl
    | false =>
      exfalso
      have : j ∈ Region.ready .any ops listed := mem_ready.2 ⟨hl, ops[j], Array.getElem?_eq_getElem hj, fun e he hbd => by
        have h1 := List.all_eq_true.1 hb j (List.mem_range.2 hj)
        rw [Array.getElem?_eq_getElem hj] at h1
        have h2 := Array.all_eq_true_iff_forall_mem.1 h1 e he
        rw [hbd, Bool.not_true, Bool.false_or] at h2
        have h2 := of_decide_eq_true h2
        have h3 := ih e.on h2 (by omega)
        simpa [Array.getD, hs, show e.on < ops.size by omega] using h3⟩
      rw [hr] at this
      cases this
theorem wpAny_inv (hb : backB ops = true) (V : (Nat → Value) → Act) (I : (Nat → Bool) → (Nat → Value) → World → Prop)
    (step : ∀ i o, ops[i]? = some o → ∀ l vs w, I l vs w → l i = false → (∀ j, waits ops i j = true → l j = true) → (∀ j, l j = true → ∀ k, waits ops j k = true → l k = true) → wpOp P ops Q i (fun a' w' => ∃ v, a' = V (upd vs i v) ∧ I (don l i) (upd vs i v) w') (V vs) w)
    (fin : ∀ l vs w, (∀ j, j < ops.size → l j = true) → I l vs w → Q .normal (V vs) w) :
    ∀ (fuel : Nat) (listed : Array Bool) (vs : Nat → Value) (w : World), listed.size = ops.size → listed.toList.count false = fuel → I (fun j => listed.getD j false) vs w → (∀ j, listed.getD j false = true → ∀ k, waits ops j k = true → listed.getD k false = true) → wpAny P .any ops Q fuel listed (V vs) w := by
  have done : ∀ (listed : Array Bool) (vs : Nat → Value) (w : World), listed.size = ops.size → I (fun j => listed.getD j false) vs w → Region.ready .any ops listed = [] → Q .normal (V vs) w := fun listed vs w hs hI hr =>
    fin _ vs w (fun j hj => by
      have := all_listed hb hs hr j hj
      simpa [Array.getD, hs, hj] using this) hI
  intro fuel
  induction fuel with
  | zero =>
    intro listed vs w hs hc hI _
    have hr : Region.ready .any ops listed = [] := by
      rw [List.eq_nil_iff_forall_not_mem]
      intro j hj
      obtain ⟨hl, o, ho, _⟩ := mem_ready.1 hj
      have hlt : j < listed.size := by rw [hs]; exact (Array.getElem?_eq_some_iff.1 ho).1
      have : false ∈ listed.toList := by
        simp [Array.getD, hlt] at hl
        rw [← hl]
        simp
      rw [List.count_eq_zero] at hc
      exact hc this
    exact ⟨hr, done listed vs w hs hI hr⟩
  | succ fuel ih =>
    intro listed vs w hs hc hI hcl
    refine ⟨fun hr => done listed vs w hs hI hr, fun i hi => ?_⟩
    obtain ⟨hl, o, ho, hall⟩ := mem_ready.1 hi
    have hlt : i < listed.size := by rw [hs]; exact (Array.getElem?_eq_some_iff.1 ho).1
    have hl2 : listed.getD i false = false := by simpa [Array.getD, hlt] using hl
    have hdeps : ∀ j, waits ops i j = true → listed.getD j false = true := fun j hj => by
      unfold waits at hj
      rw [ho] at hj
      obtain ⟨k, hk, hz⟩ := Array.any_eq_true.1 hj
      simp only [Bool.and_eq_true, beq_iff_eq] at hz
      rw [← hz.2]
      exact hall _ (Array.getElem_mem hk) hz.1
    have hset : ∀ j, (listed.setIfInBounds i true).getD j false = if j = i then true else listed.getD j false := fun j => by
      by_cases hji : j = i
      · subst hji; simp [Array.getD, hlt]
      · simp only [hji, if_false]
        by_cases hj : j < listed.size
        · simp [Array.getD, hj, Ne.symm hji]
        · simp [Array.getD, hj]
    refine wpOp_mono (fun a' w' h => ?_) (step i o ho (fun j => listed.getD j false) vs w hI hl2 hdeps hcl)
    obtain ⟨v, rfl, hI'⟩ := h
    refine ih _ _ _ (by simpa using hs) ?_ ?_ ?_
    · have := count_set_true (l := listed.toList) (i := i) (by simp [Array.getD, hlt] at hl; simp [hlt, hl])
      rw [Array.toList_setIfInBounds]
      omega
    · have e : (fun j => (listed.setIfInBounds i true).getD j false) = don (fun j => listed.getD j false) i := funext hset
      rw [e]
      exact hI'
    · intro j hj k hk
      rw [hset] at hj ⊢
      by_cases hki : k = i
      · rw [if_pos hki]
      · rw [if_neg hki]
        by_cases hji : j = i
        · subst hji; exact hdeps k hk
        · rw [if_neg hji] at hj; exact hcl j hj k hk
theorem wp_region_inv {id : Nat} (hm : P.follows .mixedOrders = true) (hb : backB ops = true) (V : (Nat → Value) → Act) (I : (Nat → Bool) → (Nat → Value) → World → Prop)
    (step : ∀ i o, ops[i]? = some o → ∀ l vs w, I l vs w → l i = false → (∀ j, waits ops i j = true → l j = true) → (∀ j, l j = true → ∀ k, waits ops j k = true → l k = true) → wpOp P ops Q i (fun a' w' => ∃ v, a' = V (upd vs i v) ∧ I (don l i) (upd vs i v) w') (V vs) w)
    (fin : ∀ l vs w, (∀ j, j < ops.size → l j = true) → I l vs w → Q .normal (V vs) w) {a : Act} {w : World} (vs0 : Nat → Value) (ha : a = V vs0) (h0 : I (fun _ => false) vs0 w.drew) : (Code.region id ops true).wp P Q a w := by
  subst ha
  refine wp_region_any hm ?_
  have e : (fun j => (Array.replicate ops.size false).getD j false) = (fun _ => false) := funext fun j => by
    rcases Nat.lt_or_ge j ops.size with h' | h'
    · simp [Array.getD, h']
    · simp [Array.getD, Nat.not_lt.2 h']
  refine wpAny_inv hb V I step fin ops.size _ vs0 _ (by simp) (by simp) (by rw [e]; exact h0) (fun j hj => ?_)
  have := congrFun e j
  rw [this] at hj
  cases hj
end inv

section
variable {P : Program} {base : Nat} {s s' : St} {M : Mem} {σ : Nm} {w : World} {fr fr' : Fr} {o : Oper} {r : AR} {ops : Array Oper} {call : CallF}
theorem wantedA_ok {a : Act} {b : Bool} (h : wantedA ops o fr = some b) (hg : ∀ g want d, o.guard = some (g, want) → (ops[g]?).bind (·.dst) = some d → resR σ (fr.get d) (a.tmps.getD d Go.undef)) : Region.wanted o (yielded ops a.tmps) = b := by
  unfold wantedA at h
  unfold Region.wanted
  cases hgd : o.guard with
  | none => rw [hgd] at h; exact Option.some.inj h
  | some p =>
    obtain ⟨j, want⟩ := p
    rw [hgd] at h
    dsimp only at h ⊢
    cases hd : (ops[j]?).bind (·.dst) with
    | none => rw [hd] at h; cases h
    | some d =>
      rw [hd] at h
      dsimp only at h
      have hr := hg j want d hgd hd
      have hy : ∀ v, a.tmps.getD d Go.undef = v → yielded ops a.tmps j = (match v with | .bool b => some b | _ => none) := by
        intro v hv
        unfold yielded
        rw [hd, Option.bind_some]
        rw [Array.getD_eq_getD_getElem?] at hv
        cases hq : a.tmps[d]? with
        | none => rw [hq] at hv; subst hv; rfl
        | some u => rw [hq] at hv; subst hv; cases u <;> rfl
      cases hv : (fr.get d).val? with
      | none => rw [hv] at h; cases h
      | some v =>
        rw [hv] at h
        rw [hy v (val_inv hv hr)]
        cases v <;> first
          | (rename_i b'; obtain rfl := Option.some.inj h; cases b' <;> cases want <;> rfl)
          | (obtain rfl := Option.some.inj h; rfl)
/-- What one operation of a region leaves. -/
theorem evOne_ok (HN : ∀ (f : FuncId) (fn : Func), P.funcs[f]? = some fn → (fn.name == "runtime.NumGoroutine") = false) (hcall : CallOK P base call) (hw : WF s) (h : evOne P call ops o fr s = some (r, s')) :
    Mono s s' ∧ ∀ (M : Mem) (σ : Nm) (w : World) (a : Act), Pre s s' M σ → MemR base σ M w → FrO σ fr o a → (∀ g want d, o.guard = some (g, want) → (ops[g]?).bind (·.dst) = some d → resR σ (fr.get d) (a.tmps.getD d Go.undef)) → ∀ (K : Act → World → Prop) (Q : Exit → Act → World → Prop),
      (∀ v σ' w', Post base s s' M σ w σ' w' → resR σ' r v → K (a.put o.dst v) w') → if Region.wanted o (yielded ops a.tmps) = true then o.wp P a w K Q ∨ (o.asks P a w ∧ LetsOut Q) else K (a.put o.dst Go.undef) w := by
  unfold evOne at h
  split at h
  · rename_i hwa
    obtain ⟨hm, hk⟩ := evOp_ok HN hcall hw h
    refine ⟨hm, fun M σ w a hp hM hf hg K Q hK => ?_⟩
    rw [if_pos (wantedA_ok hwa hg)]
    exact .inl (hk M σ w a hp hM hf K Q hK)
  · rename_i hwa
    simp only [Option.some.injEq, Prod.mk.injEq] at h
    obtain ⟨rfl, rfl⟩ := h
    refine ⟨Mono.refl hw, fun M σ w a hp hM hf hg K Q hK => ?_⟩
    rw [if_neg (by rw [wantedA_ok hwa hg]; decide)]
    exact hK _ σ w (Post.quiet hp hw rfl rfl (fun _ h => h) hM) (undefR _)
  · cases h
theorem put_defers (a : Act) (d : Option Tmp) (v : Value) : (a.put d v).defers = a.defers := by cases d <;> rfl
theorem evOps_cons (l : List Oper) : evOps P call ops (o :: l) fr s = thenPut (evOps P call ops l) o.dst fr (evOne P call ops o fr s) := rfl
/-- A region in order. -/
theorem evOps_ok (HN : ∀ (f : FuncId) (fn : Func), P.funcs[f]? = some fn → (fn.name == "runtime.NumGoroutine") = false) (hcall : CallOK P base call) : ∀ (l : List Oper) {fr fr' : Fr} {s s' : St}, evOps P call ops l fr s = some (fr', s') → WF s →
    Mono s s' ∧ ∀ (M : Mem) (σ : Nm) (w : World) (a : Act), Pre s s' M σ → MemR base σ M w → FrR σ fr a → ∀ (Q : Exit → Act → World → Prop), (∀ a' σ' w', Post base s s' M σ w σ' w' → FrR σ' fr' a' → a'.defers = a.defers → Q .normal a' w') → wpList P ops Q l a w
  | [], fr, fr', s, s', h, hw => by
    have h' : some (fr, s) = some (fr', s') := h
    simp only [Option.some.injEq, Prod.mk.injEq] at h'
    obtain ⟨rfl, rfl⟩ := h'
    exact ⟨Mono.refl hw, fun M σ w a hp hM hf Q hQ => hQ a σ w (Post.quiet hp hw rfl rfl (fun _ h => h) hM) hf rfl⟩
  | o :: l, fr, fr', s, s', h, hw => by
    rw [evOps_cons] at h
    unfold thenPut at h
    split at h
    · rename_i r s1 h1
      split at h
      · rename_i fr1 hpt
        obtain ⟨m1, k1⟩ := evOne_ok HN hcall hw h1
        obtain ⟨m2, k2⟩ := evOps_ok HN hcall l h m1.wf
        refine ⟨m1.trans m2, fun M σ w a hp hM hf Q hQ => ?_⟩
        have hp1 := hp.first m2
        refine k1 M σ w a hp1 hM (hf.op o) (fun g want d _ _ => hf.get d) (wpList P ops Q l) Q (fun v σ1 w1 q1 hr => ?_)
        exact k2 _ σ1 w1 _ (hp.second m1 m2 q1.ext) q1.mem ((hf.mono q1.ext.1).put hpt hr) Q (fun a' σ' w' q2 hf' hd => hQ a' σ' w' (q1.trans q2 m1 m2) hf' (hd.trans (put_defers _ _ _)))
      · cases h
    · cases h
end
end Go.Proofs.YtgalkkolbobmbaaGreat.Abs
