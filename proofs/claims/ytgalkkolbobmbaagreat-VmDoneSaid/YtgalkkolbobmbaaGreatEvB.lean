/- The evaluator of closed calls, with its soundness: second part; what is remembered of a call. -/
import Derived.Test.YtgalkkolbobmbaaGreatEvA
import Derived.LoopN
import Derived.Scope

/- The evaluator's soundness, 6: regions, in order and drawn. -/
namespace Go.Proofs.YtgalkkolbobmbaaGreat.Abs
set_option linter.unusedVariables false
set_option linter.unusedSimpArgs false
open Go Go.RowKit
/-! An invariant over a drawn region (each operation is looked at once). -/
def upd (vs : Nat → Value) (i : Nat) (v : Value) : Nat → Value := fun j => if j = i then v else vs j
def backB (ops : Array Oper) : Bool := (List.range ops.size).all fun j => match ops[j]? with | some o => o.after.all fun e => !(Region.binds .any e) || decide (e.on < j) | none => true
def waits (ops : Array Oper) (j i : Nat) : Bool := match ops[j]? with | some o => o.after.any fun e => Region.binds .any e && e.on == i | none => false
def don (l : Nat → Bool) (i : Nat) : Nat → Bool := fun j => if j = i then true else l j
theorem don_self (l : Nat → Bool) (i : Nat) : don l i i = true := by simp [don]
theorem don_ne (l : Nat → Bool) {i j : Nat} (h : j ≠ i) : don l i j = l j := by simp [don, h]
theorem upd_self (vs : Nat → Value) (i : Nat) (v : Value) : upd vs i v i = v := by simp [upd]
theorem upd_ne (vs : Nat → Value) {i j : Nat} (v : Value) (h : j ≠ i) : upd vs i v j = vs j := by simp [upd, h]
theorem count_set_true : ∀ {l : List Bool} {i : Nat}, l[i]? = some false → (l.set i true).count false + 1 = l.count false
 | [], i, h => by simp at h
 | b :: l, 0, h => by
  obtain rfl : b = false := by simpa using h
  simp
 | b :: l, i + 1, h => by
  have := count_set_true (l := l) (i := i) (by simpa using h)
  cases b <;> simp [this] <;> omega
section inv
variable {P : Program} {ops : Array Oper} {Q : Exit → Act → World → Prop}
theorem all_listed (hb : backB ops = true) {listed : Array Bool} (hs : listed.size = ops.size) (hr : Region.ready .any ops listed = []) : ∀ j, j < ops.size → listed.getD j true = true := by
 intro j
 induction j using Nat.strongRecOn with
 | _ j ih =>
  intro hj
  cases hl : listed.getD j true with
  | true => rfl
  | false =>
   exfalso
   have : j ∈ Region.ready .any ops listed := mem_ready.2 ⟨hl, ops[j], Array.getElem?_eq_getElem hj, fun e he hbd => by
    have h1 := List.all_eq_true.1 hb j (List.mem_range.2 hj)
    rw [Array.getElem?_eq_getElem hj] at h1
    have h2 := Array.all_eq_true_iff_forall_mem.1 h1 e he
    rw [hbd, Bool.not_true, Bool.false_or] at h2
    have h2 := of_decide_eq_true h2
    have h3 := ih e.on h2 (by omega)
    simpa [Array.getD, hs, show e.on < ops.size by omega] using h3⟩
   rw [hr] at this
   cases this
theorem wpAny_inv (hb : backB ops = true) (V : (Nat → Value) → Act) (I : (Nat → Bool) → (Nat → Value) → World → Prop)
 (step : ∀ i o, ops[i]? = some o → ∀ l vs w, I l vs w → l i = false → (∀ j, waits ops i j = true → l j = true) → (∀ j, l j = true → ∀ k, waits ops j k = true → l k = true) → wpOp P ops Q i (fun a' w' => ∃ v, a' = V (upd vs i v) ∧ I (don l i) (upd vs i v) w') (V vs) w)
 (fin : ∀ l vs w, (∀ j, j < ops.size → l j = true) → I l vs w → Q .normal (V vs) w) :
 ∀ (fuel : Nat) (listed : Array Bool) (vs : Nat → Value) (w : World), listed.size = ops.size → listed.toList.count false = fuel → I (fun j => listed.getD j false) vs w → (∀ j, listed.getD j false = true → ∀ k, waits ops j k = true → listed.getD k false = true) → wpAny P .any ops Q fuel listed (V vs) w := by
 have done : ∀ (listed : Array Bool) (vs : Nat → Value) (w : World), listed.size = ops.size → I (fun j => listed.getD j false) vs w → Region.ready .any ops listed = [] → Q .normal (V vs) w := fun listed vs w hs hI hr =>
  fin _ vs w (fun j hj => by
   have := all_listed hb hs hr j hj
   simpa [Array.getD, hs, hj] using this) hI
 intro fuel
 induction fuel with
 | zero =>
  intro listed vs w hs hc hI _
  have hr : Region.ready .any ops listed = [] := by
   rw [List.eq_nil_iff_forall_not_mem]
   intro j hj
   obtain ⟨hl, o, ho, _⟩ := mem_ready.1 hj
   have hlt : j < listed.size := by rw [hs]; exact (Array.getElem?_eq_some_iff.1 ho).1
   have : false ∈ listed.toList := by
    simp [Array.getD, hlt] at hl
    rw [← hl]
    simp
   rw [List.count_eq_zero] at hc
   exact hc this
  exact ⟨hr, done listed vs w hs hI hr⟩
 | succ fuel ih =>
  intro listed vs w hs hc hI hcl
  refine ⟨fun hr => done listed vs w hs hI hr, fun i hi => ?_⟩
  obtain ⟨hl, o, ho, hall⟩ := mem_ready.1 hi
  have hlt : i < listed.size := by rw [hs]; exact (Array.getElem?_eq_some_iff.1 ho).1
  have hl2 : listed.getD i false = false := by simpa [Array.getD, hlt] using hl
  have hdeps : ∀ j, waits ops i j = true → listed.getD j false = true := fun j hj => by
   unfold waits at hj
   rw [ho] at hj
   obtain ⟨k, hk, hz⟩ := Array.any_eq_true.1 hj
   simp only [Bool.and_eq_true, beq_iff_eq] at hz
   rw [← hz.2]
   exact hall _ (Array.getElem_mem hk) hz.1
  have hset : ∀ j, (listed.setIfInBounds i true).getD j false = if j = i then true else listed.getD j false := fun j => by
   by_cases hji : j = i
   · subst hji; simp [Array.getD, hlt]
   · simp only [hji, if_false]
     by_cases hj : j < listed.size
     · simp [Array.getD, hj, Ne.symm hji]
     · simp [Array.getD, hj]
  refine wpOp_mono (fun a' w' h => ?_) (step i o ho (fun j => listed.getD j false) vs w hI hl2 hdeps hcl)
  obtain ⟨v, rfl, hI'⟩ := h
  refine ih _ _ _ (by simpa using hs) ?_ ?_ ?_
  · have := count_set_true (l := listed.toList) (i := i) (by simp [Array.getD, hlt] at hl; simp [hlt, hl])
    rw [Array.toList_setIfInBounds]
    omega
  · have e : (fun j => (listed.setIfInBounds i true).getD j false) = don (fun j => listed.getD j false) i := funext hset
    rw [e]
    exact hI'
  · intro j hj k hk
    rw [hset] at hj ⊢
    by_cases hki : k = i
    · rw [if_pos hki]
    · rw [if_neg hki]
      by_cases hji : j = i
      · subst hji; exact hdeps k hk
      · rw [if_neg hji] at hj; exact hcl j hj k hk
theorem wp_region_inv {id : Nat} (hm : P.follows .mixedOrders = true) (hb : backB ops = true) (V : (Nat → Value) → Act) (I : (Nat → Bool) → (Nat → Value) → World → Prop)
 (step : ∀ i o, ops[i]? = some o → ∀ l vs w, I l vs w → l i = false → (∀ j, waits ops i j = true → l j = true) → (∀ j, l j = true → ∀ k, waits ops j k = true → l k = true) → wpOp P ops Q i (fun a' w' => ∃ v, a' = V (upd vs i v) ∧ I (don l i) (upd vs i v) w') (V vs) w)
 (fin : ∀ l vs w, (∀ j, j < ops.size → l j = true) → I l vs w → Q .normal (V vs) w) {a : Act} {w : World} (vs0 : Nat → Value) (ha : a = V vs0) (h0 : I (fun _ => false) vs0 w.drew) : (Code.region id ops true).wp P Q a w := by
 subst ha
 refine wp_region_any hm ?_
 have e : (fun j => (Array.replicate ops.size false).getD j false) = (fun _ => false) := funext fun j => by
  rcases Nat.lt_or_ge j ops.size with h' | h'
  · simp [Array.getD, h']
  · simp [Array.getD, Nat.not_lt.2 h']
 refine wpAny_inv hb V I step fin ops.size _ vs0 _ (by simp) (by simp) (by rw [e]; exact h0) (fun j hj => ?_)
 have := congrFun e j
 rw [this] at hj
 cases hj
end inv

section
variable {P : Program} {base : Nat} {s s' : St} {M : Mem} {σ : Nm} {w : World} {fr fr' : Fr} {o : Oper} {r : AR} {ops : Array Oper} {call : CallF}
theorem wantedA_ok {a : Act} {b : Bool} (h : wantedA ops o fr = some b) (hg : ∀ g want d, o.guard = some (g, want) → (ops[g]?).bind (·.dst) = some d → resR σ (fr.get d) (a.tmps.getD d Go.undef)) : Region.wanted o (yielded ops a.tmps) = b := by
 unfold wantedA at h
 unfold Region.wanted
 cases hgd : o.guard with
 | none => rw [hgd] at h; exact Option.some.inj h
 | some p =>
  obtain ⟨j, want⟩ := p
  rw [hgd] at h
  dsimp only at h ⊢
  cases hd : (ops[j]?).bind (·.dst) with
  | none => rw [hd] at h; cases h
  | some d =>
   rw [hd] at h
   dsimp only at h
   have hr := hg j want d hgd hd
   have hy : ∀ v, a.tmps.getD d Go.undef = v → yielded ops a.tmps j = (match v with | .bool b => some b | _ => none) := by
    intro v hv
    unfold yielded
    rw [hd, Option.bind_some]
    rw [Array.getD_eq_getD_getElem?] at hv
    cases hq : a.tmps[d]? with
    | none => rw [hq] at hv; subst hv; rfl
    | some u => rw [hq] at hv; subst hv; cases u <;> rfl
   cases hv : (fr.get d).val? with
   | none => rw [hv] at h; cases h
   | some v =>
    rw [hv] at h
    rw [hy v (val_inv hv hr)]
    cases v <;> first
     | (rename_i b'; obtain rfl := Option.some.inj h; cases b' <;> cases want <;> rfl)
     | (obtain rfl := Option.some.inj h; rfl)
/-- What one operation of a region leaves. -/
theorem evOne_ok (HN : ∀ (f : FuncId) (fn : Func), P.funcs[f]? = some fn → (fn.name == "runtime.NumGoroutine") = false) (hcall : CallOK P base call) (hw : WF s) (h : evOne P call ops o fr s = some (r, s')) :
 Mono s s' ∧ ∀ (M : Mem) (σ : Nm) (w : World) (a : Act), Pre s s' M σ → MemR base σ M w → FrO σ fr o a → (∀ g want d, o.guard = some (g, want) → (ops[g]?).bind (·.dst) = some d → resR σ (fr.get d) (a.tmps.getD d Go.undef)) → ∀ (K : Act → World → Prop) (Q : Exit → Act → World → Prop),
  (∀ v σ' w', Post base s s' M σ w σ' w' → resR σ' r v → K (a.put o.dst v) w') → if Region.wanted o (yielded ops a.tmps) = true then o.wp P a w K Q ∨ (o.asks P a w ∧ LetsOut Q) else K (a.put o.dst Go.undef) w := by
 unfold evOne at h
 split at h
 · rename_i hwa
   obtain ⟨hm, hk⟩ := evOp_ok HN hcall hw h
   refine ⟨hm, fun M σ w a hp hM hf hg K Q hK => ?_⟩
   rw [if_pos (wantedA_ok hwa hg)]
   exact .inl (hk M σ w a hp hM hf K Q hK)
 · rename_i hwa
   simp only [Option.some.injEq, Prod.mk.injEq] at h
   obtain ⟨rfl, rfl⟩ := h
   refine ⟨Mono.refl hw, fun M σ w a hp hM hf hg K Q hK => ?_⟩
   rw [if_neg (by rw [wantedA_ok hwa hg]; decide)]
   exact hK _ σ w (Post.quiet hp hw rfl rfl (fun _ h => h) hM) (undefR _)
 · cases h
theorem put_defers (a : Act) (d : Option Tmp) (v : Value) : (a.put d v).defers = a.defers := by cases d <;> rfl
theorem evOps_cons (l : List Oper) : evOps P call ops (o :: l) fr s = thenPut (evOps P call ops l) o.dst fr (evOne P call ops o fr s) := rfl
/-- A region in order. -/
theorem evOps_ok (HN : ∀ (f : FuncId) (fn : Func), P.funcs[f]? = some fn → (fn.name == "runtime.NumGoroutine") = false) (hcall : CallOK P base call) : ∀ (l : List Oper) {fr fr' : Fr} {s s' : St}, evOps P call ops l fr s = some (fr', s') → WF s →
 Mono s s' ∧ ∀ (M : Mem) (σ : Nm) (w : World) (a : Act), Pre s s' M σ → MemR base σ M w → FrR σ fr a → ∀ (Q : Exit → Act → World → Prop), (∀ a' σ' w', Post base s s' M σ w σ' w' → FrR σ' fr' a' → a'.defers = a.defers → Q .normal a' w') → wpList P ops Q l a w
 | [], fr, fr', s, s', h, hw => by
  have h' : some (fr, s) = some (fr', s') := h
  simp only [Option.some.injEq, Prod.mk.injEq] at h'
  obtain ⟨rfl, rfl⟩ := h'
  exact ⟨Mono.refl hw, fun M σ w a hp hM hf Q hQ => hQ a σ w (Post.quiet hp hw rfl rfl (fun _ h => h) hM) hf rfl⟩
 | o :: l, fr, fr', s, s', h, hw => by
  rw [evOps_cons] at h
  unfold thenPut at h
  split at h
  · rename_i r s1 h1
    split at h
    · rename_i fr1 hpt
      obtain ⟨m1, k1⟩ := evOne_ok HN hcall hw h1
      obtain ⟨m2, k2⟩ := evOps_ok HN hcall l h m1.wf
      refine ⟨m1.trans m2, fun M σ w a hp hM hf Q hQ => ?_⟩
      have hp1 := hp.first m2
      refine k1 M σ w a hp1 hM (hf.op o) (fun g want d _ _ => hf.get d) (wpList P ops Q l) Q (fun v σ1 w1 q1 hr => ?_)
      exact k2 _ σ1 w1 _ (hp.second m1 m2 q1.ext) q1.mem ((hf.mono q1.ext.1).put hpt hr) Q (fun a' σ' w' q2 hf' hd => hQ a' σ' w' (q1.trans q2 m1 m2) hf' (hd.trans (put_defers _ _ _)))
    · cases h
  · cases h
end
end Go.Proofs.YtgalkkolbobmbaaGreat.Abs
/- The evaluator's soundness, 7: a region that draws its order. -/
namespace Go.Proofs.YtgalkkolbobmbaaGreat.Abs
set_option linter.unusedVariables false
set_option linter.unusedSimpArgs false
open Go Go.RowKit
/-! Plain: what stands when some operations are over. -/
noncomputable def ovl (S : Nat → St) (l : Nat → Bool) : Nat → Mem → Mem
 | 0, M => M
 | n + 1, M => if l n = true then after (S (n + 1)) (ovl S l n M) else ovl S l n M
section
variable {S : Nat → St} {M : Mem} {b : Nat}
theorem ovl_step (l : Nat → Bool) (n : Nat) : ovl S l (n + 1) M = if l n = true then after (S (n + 1)) (ovl S l n M) else ovl S l n M := rfl
theorem ovl_succ (l : Nat → Bool) (n : Nat) : ovl S l (n + 1) M b = if l n = true ∧ (S (n + 1)).wr.testBit b = true then (S (n + 1)).mem.get b else ovl S l n M b := by
 rw [ovl_step]
 by_cases h : l n = true
 · rw [if_pos h]
   show (if (S (n + 1)).wr.testBit b = true then (S (n + 1)).mem.get b else ovl S l n M b) = _
   by_cases h2 : (S (n + 1)).wr.testBit b = true
   · rw [if_pos h2, if_pos ⟨h, h2⟩]
   · rw [if_neg h2, if_neg (fun e => h2 e.2)]
 · rw [if_neg h, if_neg (fun e => h e.1)]
theorem ovl_alike {l l' : Nat → Bool} : ∀ n, (∀ k, k < n → (S (k + 1)).wr.testBit b = true → l k = l' k) → ovl S l n M b = ovl S l' n M b
 | 0, _ => rfl
 | n + 1, h => by
  rw [ovl_succ, ovl_succ, ovl_alike n (fun k hk hw => h k (by omega) hw)]
  by_cases hw : (S (n + 1)).wr.testBit b = true
  · rw [h n (by omega) hw]
  · rw [if_neg (fun e => hw e.2), if_neg (fun e => hw e.2)]
theorem ovl_cut {l : Nat → Bool} {i : Nat} : ∀ n, i ≤ n → (∀ k, i ≤ k → k < n → (S (k + 1)).wr.testBit b = true → l k = false) → ovl S l n M b = ovl S l i M b
 | 0, hi, _ => by rw [show i = 0 by omega]
 | n + 1, hi, h => by
  by_cases e : i = n + 1
  · rw [e]
  · rw [ovl_succ, if_neg (fun e2 => by have := h n (by omega) (by omega) e2.2; rw [this] at e2; cases e2.1)]
    exact ovl_cut n (by omega) (fun k h1 h2 h3 => h k h1 (by omega) h3)
theorem ovl_none {l : Nat → Bool} (n : Nat) (h : ∀ k, k < n → (S (k + 1)).wr.testBit b = true → l k = false) : ovl S l n M b = M b :=
 ovl_cut (i := 0) n (Nat.zero_le _) (fun k _ h2 h3 => h k h2 h3)
end
noncomputable def clr (s : St) : St := { s with foot := 0, wr := 0 }
theorem clr_wf {s : St} (h : WF s) : WF (clr s) := ⟨h.free, fun b e => by simp [clr] at e⟩
/-- The states of a region's operations, one behind the other, each with marks of its own; B: what waits for what. -/
structure Chain (S : Nat → St) (N : Nat) (B : Nat → Nat → Bool) : Prop where
 wf0 : WF (S 0)
 mono : ∀ i, i < N → Mono (clr (S i)) (S (i + 1))
 apart : ∀ i j, i < N → j < i → B i j = false → ∀ b, ((S (i + 1)).foot.testBit b = true → (S (j + 1)).wr.testBit b = true → False) ∧ ((S (i + 1)).wr.testBit b = true → (S (j + 1)).foot.testBit b = true → False)
section
variable {S : Nat → St} {N : Nat} {B : Nat → Nat → Bool} {M : Mem} {l : Nat → Bool} {i b : Nat}
theorem Chain.wf (h : Chain S N B) : ∀ i, i ≤ N → WF (S i)
 | 0, _ => h.wf0
 | i + 1, hi => (h.mono i (by omega)).wf
theorem Chain.next (h : Chain S N B) {i j : Nat} (hij : i ≤ j) (hj : j ≤ N) : (S i).next ≤ (S j).next := by
 induction j with
 | zero => rw [show i = 0 by omega]; exact Nat.le_refl _
 | succ j ih =>
  by_cases e : i = j + 1
  · rw [e]; exact Nat.le_refl _
  · exact Nat.le_trans (ih (by omega) (by omega)) (h.mono j (by omega)).next
theorem Chain.wrlt (h : Chain S N B) {k : Nat} (hk : k < N) (hw : (S (k + 1)).wr.testBit b = true) : (S (k + 1)).foot.testBit b = true ∧ b < (S (k + 1)).next := (h.mono k hk).wf.wr b hw
/-- One behind the other. -/
theorem Chain.full (h : Chain S N B) (h0 : b < (S 0).next → M b = (S 0).mem.get b) : ∀ i, i ≤ N → b < (S i).next → ovl S (fun _ => true) i M b = (S i).mem.get b
 | 0, _, hb => h0 hb
 | i + 1, hi, hb => by
  rw [ovl_succ]
  by_cases hw : (S (i + 1)).wr.testBit b = true
  · rw [if_pos ⟨rfl, hw⟩]
  · rw [if_neg (fun e => hw e.2)]
    by_cases hbi : b < (S i).next
    · rw [h.full h0 i (by omega) hbi]
      exact ((h.mono i (by omega)).same b (by simpa using hw)).symm
    · exact absurd ((h.mono i (by omega)).made b (by show (S i).next ≤ b; omega) hb) hw
/-- What waits is behind; who waits isn't ahead. -/
structure Down (N : Nat) (B : Nat → Nat → Bool) (l : Nat → Bool) (i : Nat) : Prop where
 off : l i = false
 pre : ∀ k, B i k = true → l k = true
 post : ∀ k, k < N → B k i = true → l k = false
theorem Chain.agree (h : Chain S N B) (hi : i < N) (hd : Down N B l i) (hf : (S (i + 1)).foot.testBit b = true) (hb : b < (S i).next) (h0 : b < (S 0).next → M b = (S 0).mem.get b) : ovl S l N M b = (S i).mem.get b := by
 have e1 : ovl S l N M b = ovl S (fun k => decide (k < i)) N M b := ovl_alike N fun k hk hw => by
  rcases Nat.lt_trichotomy k i with e | e | e
  · rw [decide_eq_true e]
    cases hB : B i k with
    | true => exact hd.pre k hB
    | false => exact ((h.apart i k hi e hB b).1 hf hw).elim
  · subst e; rw [hd.off]; simp
  · rw [decide_eq_false (by omega)]
    cases hB : B k i with
    | true => exact hd.post k hk hB
    | false => exact ((h.apart k i hk e hB b).2 hw hf).elim
 have e2 : ovl S (fun k => decide (k < i)) N M b = ovl S (fun k => decide (k < i)) i M b := ovl_cut N (by omega) (fun k h1 _ _ => decide_eq_false (by omega))
 have e3 : ovl S (fun k => decide (k < i)) i M b = ovl S (fun _ => true) i M b := ovl_alike i fun k hk _ => decide_eq_true hk
 rw [e1, e2, e3, h.full h0 i (by omega) hb]
theorem Chain.fresh (h : Chain S N B) (hi : i < N) (hd : Down N B l i) (h1 : (S i).next ≤ b) (h2 : b < (S (i + 1)).next) : ovl S l N M b = M b := by
 have hwi := (h.mono i hi).made b h1 h2
 refine ovl_none N fun k hk hw => ?_
 rcases Nat.lt_trichotomy k i with e | e | e
 · have h3 := (h.wrlt hk hw).2
   have h4 := h.next (i := k + 1) (j := i) (by omega) (by omega)
   omega
 · subst e; exact hd.off
 · cases hB : B k i with
   | true => exact hd.post k hk hB
   | false => exact ((h.apart k i hk e hB b).2 hw (h.wrlt hi hwi).1).elim
theorem Chain.step (h : Chain S N B) (hi : i < N) (hd : Down N B l i) : after (S (i + 1)) (ovl S l N M) = ovl S (don l i) N M := by
 funext b
 unfold after
 by_cases hw : (S (i + 1)).wr.testBit b = true
 · rw [if_pos hw]
   have e1 : ovl S (don l i) N M b = ovl S (don l i) (i + 1) M b := ovl_cut N (by omega) fun k h1 h2 h3 => by
    rw [don_ne l (by omega : k ≠ i)]
    cases hB : B k i with
    | true => exact hd.post k h2 hB
    | false => exact ((h.apart k i h2 (by omega) hB b).1 (h.wrlt h2 h3).1 hw).elim
   rw [e1, ovl_succ, if_pos ⟨don_self l i, hw⟩]
 · rw [if_neg hw]
   refine ovl_alike N fun k hk hwk => ?_
   rw [don_ne l (fun e => by subst e; exact hw hwk)]
theorem Chain.home (h : Chain S N B) : ∀ n, n ≤ N → (S 0).next ≤ b → b < (S n).next → ∃ j, j < n ∧ (S j).next ≤ b ∧ b < (S (j + 1)).next
 | 0, _, h1, h2 => by omega
 | n + 1, hn, h1, h2 => by
  by_cases e : b < (S n).next
  · obtain ⟨j, k1, k2, k3⟩ := h.home n (by omega) h1 e
    exact ⟨j, by omega, k2, k3⟩
  · exact ⟨n, by omega, by omega, h2⟩
theorem Chain.homes (h : Chain S N B) {i j : Nat} (hi : i < N) (hj : j < N) (h1 : (S i).next ≤ b) (h2 : b < (S (i + 1)).next) (h3 : (S j).next ≤ b) (h4 : b < (S (j + 1)).next) : i = j := by
 rcases Nat.lt_trichotomy i j with e | e | e
 · have := h.next (i := i + 1) (j := j) (by omega) (by omega); omega
 · exact e
 · have := h.next (i := j + 1) (j := i) (by omega) (by omega); omega
end
/-! The slots of a drawn region. -/
noncomputable def fillV (vs : Nat → Value) : List Oper → Nat → Act → Act
 | [], _, a => a
 | o :: l, i, a => fillV vs l (i + 1) (a.put o.dst (vs i))
theorem put_size (a : Act) (d : Option Tmp) (v : Value) : (a.put d v).tmps.size = a.tmps.size := by cases d <;> simp [Act.put]
theorem fillV_size (vs : Nat → Value) : ∀ (l : List Oper) (i : Nat) (a : Act), (fillV vs l i a).tmps.size = a.tmps.size
 | [], _, _ => rfl
 | o :: l, i, a => by rw [fillV, fillV_size vs l, put_size]
theorem fillV_defers (vs : Nat → Value) : ∀ (l : List Oper) (i : Nat) (a : Act), (fillV vs l i a).defers = a.defers
 | [], _, _ => rfl
 | o :: l, i, a => by rw [fillV, fillV_defers vs l, put_defers]
theorem put_get_ne (a : Act) {d : Option Tmp} {t : Nat} (v : Value) (h : d ≠ some t) : (a.put d v).tmps.getD t Go.undef = a.tmps.getD t Go.undef := by
 cases d with
 | none => rfl
 | some d =>
  have : d ≠ t := fun e => h (by rw [e])
  simp only [Act.put, Array.getD_eq_getD_getElem?, Array.getElem?_setIfInBounds_ne this]
theorem put_get (a : Act) {t : Nat} (v : Value) (h : t < a.tmps.size) : (a.put (some t) v).tmps.getD t Go.undef = v := by simp [Act.put, Array.getD, h]
theorem fillV_off (vs : Nat → Value) {t : Nat} : ∀ (l : List Oper) (i : Nat) (a : Act), (∀ o ∈ l, o.dst ≠ some t) → (fillV vs l i a).tmps.getD t Go.undef = a.tmps.getD t Go.undef
 | [], _, _, _ => rfl
 | o :: l, i, a, h => by rw [fillV, fillV_off vs l _ _ (fun q hq => h q (List.mem_cons_of_mem _ hq)), put_get_ne _ _ (h o List.mem_cons_self)]
theorem fillV_on (vs : Nat → Value) {t : Nat} : ∀ (l : List Oper) (i k : Nat) (a : Act) (o : Oper), l[k]? = some o → o.dst = some t → (∀ j q, j ≠ k → l[j]? = some q → q.dst ≠ some t) → t < a.tmps.size → (fillV vs l i a).tmps.getD t Go.undef = vs (i + k)
 | [], i, k, a, o, h, _, _, _ => by simp at h
 | q :: l, i, 0, a, o, h, hd, hu, ht => by
  simp at h
  subst h
  rw [fillV, fillV_off vs l _ _ (fun p hp => by
   obtain ⟨j, hj⟩ := List.getElem?_of_mem hp
   exact hu (j + 1) p (by omega) (by simpa using hj)), hd, put_get _ _ ht]
  rfl
 | q :: l, i, k + 1, a, o, h, hd, hu, ht => by
  rw [fillV, fillV_on vs l (i + 1) k _ o (by simpa using h) hd (fun j p hj hp => hu (j + 1) p (by omega) (by simpa using hp)) (by rw [put_size]; exact ht)]
  congr 1
  omega
theorem act_ext {a b : Act} (hs : a.tmps.size = b.tmps.size) (hd : a.defers = b.defers) (h : ∀ t, t < a.tmps.size → a.tmps.getD t Go.undef = b.tmps.getD t Go.undef) : a = b := by
 obtain ⟨at_, ad⟩ := a
 obtain ⟨bt, bd⟩ := b
 dsimp only at hs hd h
 subst hd
 congr 1
 apply Array.ext hs
 intro i h1 h2
 have := h i h1
 simpa [Array.getD, h1, h2] using this
/-- Which operation writes a slot. -/
def Uniq (l : List Oper) : Prop := ∀ (i j : Nat) (o q : Oper) (d : Tmp), l[i]? = some o → l[j]? = some q → o.dst = some d → q.dst = some d → i = j
theorem writer (l : List Oper) (t : Nat) : (∃ (k : Nat) (o : Oper), l[k]? = some o ∧ o.dst = some t) ∨ ∀ o ∈ l, o.dst ≠ some t := by
 by_cases h : ∃ (k : Nat) (o : Oper), l[k]? = some o ∧ o.dst = some t
 · exact .inl h
 · refine .inr fun o ho e => h ?_
   obtain ⟨k, hk⟩ := List.getElem?_of_mem ho
   exact ⟨k, o, hk, e⟩
theorem fillV_put {l : List Oper} (hu : Uniq l) {vs : Nat → Value} {a : Act} {i : Nat} {o : Oper} (hi : l[i]? = some o) (v : Value) : (fillV vs l 0 a).put o.dst v = fillV (upd vs i v) l 0 a := by
 refine act_ext (by rw [put_size, fillV_size, fillV_size]) (by rw [put_defers, fillV_defers, fillV_defers]) (fun t ht => ?_)
 rw [put_size, fillV_size] at ht
 rcases writer l t with ⟨k, q, hk, hq⟩ | hn
 · have hothers : ∀ j p, j ≠ k → l[j]? = some p → p.dst ≠ some t := fun j p hj hp e => hj (hu j k p q t hp hk e hq)
   rw [fillV_on _ l 0 k a q hk hq hothers ht, Nat.zero_add]
   by_cases e : k = i
   · subst e
     rw [hi] at hk
     obtain rfl := Option.some.inj hk
     rw [hq, put_get _ _ (by rw [fillV_size]; exact ht), upd_self]
   · rw [put_get_ne _ _ (fun e2 => e (hu k i q o t hk hi hq e2)), fillV_on _ l 0 k a q hk hq hothers ht, Nat.zero_add, upd_ne _ _ e]
 · rw [fillV_off _ l 0 a hn, put_get_ne _ _ (hn o (List.mem_of_getElem? hi)), fillV_off _ l 0 a hn]
noncomputable def old (l : List Oper) (a : Act) : Nat → Value := fun j => match (l[j]?).bind (·.dst) with
 | some d => a.tmps.getD d Go.undef
 | none => Go.undef
theorem old_of {l : List Oper} {a : Act} {k t : Nat} {q : Oper} (hk : l[k]? = some q) (hq : q.dst = some t) : old l a k = a.tmps.getD t Go.undef := by
 unfold old
 rw [hk, Option.bind_some, hq]
theorem fillV_old {l : List Oper} (hu : Uniq l) (a : Act) : a = fillV (old l a) l 0 a := by
 refine act_ext (by rw [fillV_size]) (by rw [fillV_defers]) (fun t ht => ?_)
 rcases writer l t with ⟨k, q, hk, hq⟩ | hn
 · rw [fillV_on _ l 0 k a q hk hq (fun j p hj hp e => hj (hu j k p q t hp hk e hq)) ht, Nat.zero_add, old_of hk hq]
 · rw [fillV_off _ l 0 a hn]
end Go.Proofs.YtgalkkolbobmbaaGreat.Abs
/- The evaluator's soundness, 8: every region. -/
namespace Go.Proofs.YtgalkkolbobmbaaGreat.Abs
set_option linter.unusedVariables false
set_option linter.unusedSimpArgs false
open Go Go.RowKit
section
variable {P : Program} {base : Nat} {call : CallF} {ops : Array Oper}
noncomputable def befF (acc : List Nat) (o : Oper) : Nat := o.after.toList.foldl (fun m e => bif Region.binds .any e then m ||| (2 ^ e.on ||| (acc[e.on]?).getD 0) else m) 0
theorem befOf_cons (o : Oper) (l : List Oper) (acc : List Nat) : befOf (o :: l) acc = befOf l (acc ++ [befF acc o]) := rfl
theorem bef_keep : ∀ (l : List Oper) (acc : List Nat) (i : Nat), i < acc.length → (befOf l acc)[i]? = acc[i]?
 | [], acc, i, _ => rfl
 | o :: l, acc, i, h => by rw [befOf_cons, bef_keep l _ i (by simp; omega), List.getElem?_append_left h]
theorem fold_bit (acc : List Nat) (j : Nat) : ∀ (es : List Edge) (m : Nat), (es.foldl (fun m e => bif Region.binds .any e then m ||| (2 ^ e.on ||| (acc[e.on]?).getD 0) else m) m).testBit j = true → m.testBit j = true ∨ ∃ e ∈ es, Region.binds .any e = true ∧ (e.on = j ∨ ((acc[e.on]?).getD 0).testBit j = true)
 | [], m, h => .inl h
 | e :: es, m, h => by
  rw [List.foldl_cons] at h
  rcases fold_bit acc j es _ h with h1 | ⟨e', h1, h2⟩
  · cases hb : Region.binds .any e with
    | false => rw [hb] at h1; exact .inl h1
    | true =>
     rw [hb] at h1
     have h1' : (m ||| (2 ^ e.on ||| (acc[e.on]?).getD 0)).testBit j = true := h1
     rw [Nat.testBit_or, Nat.testBit_or, Bool.or_eq_true, Bool.or_eq_true, Nat.testBit_two_pow] at h1'
     rcases h1' with h3 | h3 | h3
     · exact .inl h3
     · exact .inr ⟨e, List.mem_cons_self, hb, .inl (of_decide_eq_true h3)⟩
     · exact .inr ⟨e, List.mem_cons_self, hb, .inr h3⟩
  · exact .inr ⟨e', List.mem_cons_of_mem _ h1, h2⟩
theorem bef_bit : ∀ (l : List Oper) (acc : List Nat) (k : Nat) (o : Oper), l[k]? = some o → ∀ j, (((befOf l acc)[acc.length + k]?).getD 0).testBit j = true → ∃ e ∈ o.after.toList, Region.binds .any e = true ∧ (e.on = j ∨ (e.on < acc.length + k ∧ (((befOf l acc)[e.on]?).getD 0).testBit j = true))
 | [], _, k, o, h, _, _ => by simp at h
 | q :: l, acc, 0, o, h, j, hb => by
  simp at h
  subst h
  rw [befOf_cons, bef_keep l _ _ (by simp), Nat.add_zero, List.getElem?_append_right (Nat.le_refl _), Nat.sub_self] at hb
  rcases fold_bit acc j q.after.toList 0 hb with h1 | ⟨e, h1, h2, h3⟩
  · simp at h1
  · refine ⟨e, h1, h2, h3.imp id fun h4 => ?_⟩
    have hlt : e.on < acc.length := by
     rcases Nat.lt_or_ge e.on acc.length with h5 | h5
     · exact h5
     · rw [List.getElem?_eq_none h5] at h4; simp at h4
    refine ⟨hlt, ?_⟩
    rw [bef_keep _ acc _ hlt]
    exact h4
 | q :: l, acc, k + 1, o, h, j, hb => by
  rw [befOf_cons] at hb ⊢
  have := bef_bit l (acc ++ [befF acc q]) k o (by simpa using h) j (by rw [List.length_append]; simpa [Nat.add_assoc, Nat.add_comm 1 k] using hb)
  obtain ⟨e, h1, h2, h3⟩ := this
  refine ⟨e, h1, h2, h3.imp id fun h4 => ⟨by have := h4.1; simp at this; omega, h4.2⟩⟩
noncomputable def BB (l : List Oper) (i j : Nat) : Bool := (((befOf l [])[i]?).getD 0).testBit j
theorem bb_bit {l : List Oper} {i j : Nat} {o : Oper} (hi : l[i]? = some o) (h : BB l i j = true) : ∃ e ∈ o.after.toList, Region.binds .any e = true ∧ (e.on = j ∨ (e.on < i ∧ BB l e.on j = true)) := by
 have := bef_bit l [] i o hi j (by simpa [BB] using h)
 simpa [BB] using this
theorem befOf_length : ∀ (l : List Oper) (acc : List Nat), (befOf l acc).length = acc.length + l.length
 | [], acc => by simp [befOf]
 | o :: l, acc => by rw [befOf_cons, befOf_length l]; simp; omega
theorem bb_lt {l : List Oper} {i j : Nat} (h : BB l i j = true) : ∃ o, l[i]? = some o := by
 unfold BB at h
 rcases Nat.lt_or_ge i l.length with h1 | h1
 · exact ⟨l[i], List.getElem?_eq_getElem h1⟩
 · rw [List.getElem?_eq_none (by rw [befOf_length]; simpa using h1)] at h
   simp at h
theorem waits_of {i k : Nat} {o : Oper} {e : Edge} (ho : ops[i]? = some o) (he : e ∈ o.after.toList) (hb : Region.binds .any e = true) (hk : e.on = k) : waits ops i k = true := by
 unfold waits
 rw [ho]
 dsimp only
 rw [← Array.any_toList]
 exact List.any_eq_true.2 ⟨e, he, by rw [hb, hk]; simp⟩
theorem bb_down {lst : Nat → Bool} (hcl : ∀ j, lst j = true → ∀ k, waits ops j k = true → lst k = true) : ∀ i, (∀ k, waits ops i k = true → lst k = true) → ∀ j, BB ops.toList i j = true → lst j = true := by
 intro i
 induction i using Nat.strongRecOn with
 | _ i ih =>
  intro hd j hj
  obtain ⟨o, ho⟩ := bb_lt hj
  have ho' : ops[i]? = some o := by simpa using ho
  obtain ⟨e, h1, h2, h3⟩ := bb_bit ho hj
  rcases h3 with h3 | ⟨h3, h4⟩
  · exact hd j (waits_of ho' h1 h2 h3)
  · exact ih e.on h3 (hcl e.on (hd e.on (waits_of ho' h1 h2 rfl))) j h4
/-- What a region's check tells. -/
theorem slots_get {l : List Oper} (h : slotsOk (befOf l []) l = true) {i j : Nat} {o q : Oper} (hi : l[i]? = some o) (hj : l[j]? = some q) :
 (∀ e ∈ o.after.toList, Region.binds .any e = true → e.on < i) ∧ ∀ d, q.dst = some d → (i ≠ j → o.dst ≠ some d) ∧ (d ∈ readsOf l o → waitsFor o j = true ∨ BB l j i = true) := by
 unfold slotsOk at h
 have h1 := List.all_eq_true.1 h (o, i) (List.mem_zipIdx_iff_getElem?.2 hi)
 dsimp only at h1
 rw [Bool.and_eq_true] at h1
 refine ⟨fun e he hb => ?_, fun d hd => ?_⟩
 · have h2 := List.all_eq_true.1 h1.1 e he
   rw [hb, Bool.not_true, Bool.false_or] at h2
   simpa [Nat.blt_eq] using h2
 · have h2 := List.all_eq_true.1 h1.2 (q, j) (List.mem_zipIdx_iff_getElem?.2 hj)
   dsimp only at h2
   rw [hd] at h2
   dsimp only at h2
   rw [Bool.and_eq_true, Bool.or_eq_true, Bool.or_eq_true, Bool.or_eq_true] at h2
   refine ⟨fun hne e => ?_, fun hm => ?_⟩
   · rcases h2.1 with h3 | h3
     · exact hne (by simpa [Nat.beq_eq] using h3)
     · rw [e] at h3
       simp [Nat.beq_refl] at h3
   · rcases h2.2 with (h3 | h3) | h3
     · rw [Bool.not_eq_true', ← Bool.not_eq_true] at h3
       exact absurd (List.any_eq_true.2 ⟨d, hm, Nat.beq_refl d⟩) h3
     · exact .inl h3
     · exact .inr h3
theorem apart_get {bef : List Nat} {ms : List (Nat × Nat)} (h : apart bef ms = true) {i j : Nat} {m k : Nat × Nat} (hi : ms[i]? = some m) (hj : ms[j]? = some k) (hji : j < i) (hB : (((bef[i]?).getD 0).testBit j) = false) (b : Nat) :
 (m.1.testBit b = true → k.2.testBit b = true → False) ∧ (m.2.testBit b = true → k.1.testBit b = true → False) := by
 unfold apart at h
 have h1 := List.all_eq_true.1 h (m, i) (List.mem_zipIdx_iff_getElem?.2 hi)
 have h2 := List.all_eq_true.1 h1 (k, j) (List.mem_zipIdx_iff_getElem?.2 hj)
 dsimp only at h2
 rw [hB, Bool.or_false, Bool.or_eq_true, Bool.and_eq_true, Nat.beq_eq, Nat.beq_eq, Nat.ble_eq] at h2
 rcases h2 with h2 | h2
 · omega
 · refine ⟨fun x y => ?_, fun x y => ?_⟩
   · have := congrArg (fun n => Nat.testBit n b) h2.1
     simp [Nat.testBit_and, x, y] at this
   · have := congrArg (fun n => Nat.testBit n b) h2.2
     simp [Nat.testBit_and, x, y] at this
theorem evDraw_cons (o : Oper) (l : List Oper) (fr : Fr) (s : St) (ms : List (Nat × Nat)) : evDraw P call ops (o :: l) fr s ms = (match evOne P call ops o fr (clr s) with
 | some (r, s') => (match fr.put o.dst r with
  | some fr' => evDraw P call ops l fr' s' (ms ++ [(s'.foot, s'.wr)])
  | none => none)
 | none => none) := rfl
/-- The states of a drawn region's operations. -/
theorem evDraw_steps : ∀ (l : List Oper) (fr : Fr) (s : St) (ms : List (Nat × Nat)) {fr' : Fr} {s' : St} {ms' : List (Nat × Nat)}, evDraw P call ops l fr s ms = some (fr', s', ms') →
 ∃ (S : Nat → St) (F : Nat → Fr) (R : Nat → AR), S 0 = s ∧ F 0 = fr ∧ (∀ i o, l[i]? = some o → evOne P call ops o (F i) (clr (S i)) = some (R i, S (i + 1)) ∧ (F i).put o.dst (R i) = some (F (i + 1))) ∧ S l.length = s' ∧ F l.length = fr' ∧ ms'.length = ms.length + l.length ∧ (∀ i, i < ms.length → ms'[i]? = ms[i]?) ∧ ∀ i, i < l.length → ms'[ms.length + i]? = some ((S (i + 1)).foot, (S (i + 1)).wr)
 | [], fr, s, ms, fr', s', ms', h => by
  have h' : some (fr, s, ms) = some (fr', s', ms') := h
  simp only [Option.some.injEq, Prod.mk.injEq] at h'
  obtain ⟨rfl, rfl, rfl⟩ := h'
  exact ⟨fun _ => s, fun _ => fr, fun _ => .undef, rfl, rfl, fun i o hi => by simp at hi, rfl, rfl, by simp, fun _ _ => rfl, fun i hi => by simp at hi⟩
 | o :: l, fr, s, ms, fr', s', ms', h => by
  rw [evDraw_cons] at h
  split at h
  · rename_i r s1 h1
    split at h
    · rename_i fr1 h2
      obtain ⟨S, F, R, e1, e2, e3, e4, e5, e6, e7, e8⟩ := evDraw_steps l fr1 s1 _ h
      refine ⟨fun i => Nat.casesOn i s S, fun i => Nat.casesOn i fr F, fun i => Nat.casesOn i r R, rfl, rfl, fun i q hi => ?_, e4, e5, by rw [e6]; simp; omega, fun i hi => ?_, fun i hi => ?_⟩
      · cases i with
        | zero =>
         simp at hi
         subst hi
         show evOne P call ops o fr (clr s) = some (r, S 0) ∧ fr.put o.dst r = some (F 0)
         exact ⟨by rw [h1, e1], by rw [h2, e2]⟩
        | succ i => exact e3 i q (by simpa using hi)
      · rw [e7 i (by simp; omega), List.getElem?_append_left hi]
      · cases i with
        | zero =>
         rw [Nat.add_zero, e7 _ (by simp), List.getElem?_append_right (Nat.le_refl _), Nat.sub_self]
         show some (s1.foot, s1.wr) = some ((S 0).foot, (S 0).wr)
         rw [e1]
        | succ i =>
         have := e8 i (by simpa using hi)
         rw [List.length_append] at this
         simpa [Nat.add_assoc, Nat.add_comm 1 i] using this
    · cases h
  · cases h
theorem put_n {fr fr' : Fr} {d : Option Tmp} {r : AR} (h : fr.put d r = some fr') : fr'.n = fr.n ∧ (∀ t, d ≠ some t → fr'.get t = fr.get t) ∧ ∀ t, d = some t → t < fr.n ∧ fr'.get t = r := by
 cases d with
 | none => simp only [Fr.put, Option.some.injEq] at h; subst h; exact ⟨rfl, fun _ _ => rfl, fun t e => by cases e⟩
 | some d =>
  simp only [Fr.put] at h
  rw [Bool.cond_eq_ite] at h
  split at h
  · rename_i hd
    simp only [Option.some.injEq] at h
    subst h
    refine ⟨rfl, fun t ht => ?_, fun t ht => ?_⟩
    · unfold Fr.get
      dsimp only
      rw [Tr.get_set, if_neg (fun e => ht (by rw [e]))]
    · cases ht
      refine ⟨by simpa [Nat.blt_eq] using hd, ?_⟩
      unfold Fr.get
      dsimp only
      rw [Tr.get_set, if_pos rfl]
  · cases h
/-- The frames of a drawn region's operations. -/
theorem frames {l : List Oper} {F : Nat → Fr} {R : Nat → AR} (hu : Uniq l) (h : ∀ i o, l[i]? = some o → (F i).put o.dst (R i) = some (F (i + 1))) : ∀ i, i ≤ l.length → (F i).n = (F 0).n ∧
 (∀ t, (∀ k o, k < i → l[k]? = some o → o.dst ≠ some t) → (F i).get t = (F 0).get t) ∧ ∀ k o t, k < i → l[k]? = some o → o.dst = some t → t < (F 0).n ∧ (F i).get t = R k
 | 0, _ => ⟨rfl, fun _ _ => rfl, fun k o t hk => by omega⟩
 | i + 1, hi => by
  obtain ⟨h1, h2, h3⟩ := frames hu h i (by omega)
  have hlt : i < l.length := by omega
  obtain ⟨p1, p2, p3⟩ := put_n (h i l[i] (List.getElem?_eq_getElem hlt))
  refine ⟨p1.trans h1, fun t ht => ?_, fun k o t hk hko hd => ?_⟩
  · rw [p2 t (ht i _ (by omega) (List.getElem?_eq_getElem hlt)), h2 t (fun k o hk hko => ht k o (by omega) hko)]
  · by_cases e : k = i
    · subst e
      rw [List.getElem?_eq_getElem hlt] at hko
      obtain rfl := Option.some.inj hko
      obtain ⟨q1, q2⟩ := p3 t hd
      exact ⟨by rw [← h1]; exact q1, q2⟩
    · obtain ⟨q1, q2⟩ := h3 k o t (by omega) hko hd
      refine ⟨q1, ?_⟩
      rw [p2 t (fun e2 => e (hu k i o _ t hko (List.getElem?_eq_getElem hlt) hd e2)), q2]
end
end Go.Proofs.YtgalkkolbobmbaaGreat.Abs
/- The evaluator's soundness, 9: drawn regions. -/
namespace Go.Proofs.YtgalkkolbobmbaaGreat.Abs
set_option linter.unusedVariables false
set_option linter.unusedSimpArgs false
open Go Go.RowKit
section
variable {P : Program} {base : Nat} {call : CallF} {ops : Array Oper}
theorem foldl_or (f : Nat × Nat → Nat) (b : Nat) : ∀ (ms : List (Nat × Nat)) (m : Nat), (ms.foldl (fun m x => m ||| f x) m).testBit b = true ↔ m.testBit b = true ∨ ∃ x ∈ ms, (f x).testBit b = true
 | [], m => by simp
 | x :: ms, m => by
  rw [List.foldl_cons, foldl_or f b ms, Nat.testBit_or, Bool.or_eq_true]
  constructor
  · rintro ((h | h) | ⟨y, h1, h2⟩)
    · exact .inl h
    · exact .inr ⟨x, List.mem_cons_self, h⟩
    · exact .inr ⟨y, List.mem_cons_of_mem _ h1, h2⟩
  · rintro (h | ⟨y, h1, h2⟩)
    · exact .inl (.inl h)
    · rcases List.mem_cons.1 h1 with e | e
      · subst e; exact .inl (.inr h2)
      · exact .inr ⟨y, e, h2⟩
theorem reads_tmp {l : List Oper} {o : Oper} {t : Nat} (h : Operand.tmp t ∈ o.op.operands) : t ∈ readsOf l o :=
 List.mem_append_left _ (List.mem_filterMap.2 ⟨.tmp t, by simpa using h, rfl⟩)
theorem reads_guard {l : List Oper} {o : Oper} {g d : Nat} {want : Bool} (h : o.guard = some (g, want)) (hd : (l[g]?).bind (·.dst) = some d) : d ∈ readsOf l o := by
 unfold readsOf
 refine List.mem_append_right _ ?_
 rw [h]
 dsimp only
 rw [hd]
 simp
/-- A drawn region. -/
theorem evDraw_ok (HN : ∀ (f : FuncId) (fn : Func), P.funcs[f]? = some fn → (fn.name == "runtime.NumGoroutine") = false) (hm : P.follows .mixedOrders = true) (hcall : CallOK P base call) {id : Nat} {fr fr' : Fr} {s s' : St} (h : evRegion P call ops true fr s = some (fr', s')) (hw : WF s) :
 Mono s s' ∧ ∀ (M : Mem) (σ : Nm) (w : World) (a : Act), Pre s s' M σ → MemR base σ M w → FrR σ fr a → ∀ (Q : Exit → Act → World → Prop), (∀ a' σ' w', Post base s s' M σ w σ' w' → FrR σ' fr' a' → a'.defers = a.defers → Q .normal a' w') → (Code.region id ops true).wp P Q a w := by
 unfold evRegion at h
 simp only [cond_true] at h
 rw [Bool.cond_eq_ite] at h
 split at h
 case isFalse => cases h
 rename_i hslots
 split at h
 case h_2 => cases h
 rename_i fr1 s1 ms hev
 rw [Bool.cond_eq_ite] at h
 split at h
 case isFalse => cases h
 rename_i hap
 simp only [Option.some.injEq, Prod.mk.injEq] at h
 obtain ⟨rfl, rfl⟩ := h
 obtain ⟨S, F, R, hS0, hF0, hstep, hSN, hFN, hml, _, hms⟩ := evDraw_steps ops.toList fr s [] hev
 obtain ⟨N, hN⟩ : ∃ N, ops.toList.length = N := ⟨_, rfl⟩
 rw [hN] at hSN hFN hms
 simp only [List.length_nil, Nat.zero_add] at hml hms
 rw [hN] at hml
 have hget : ∀ i, i < N → ∃ o, ops.toList[i]? = some o ∧ ops[i]? = some o := fun i hi => ⟨ops.toList[i], List.getElem?_eq_getElem (by omega), by rw [← Array.getElem?_toList]; exact List.getElem?_eq_getElem (by omega)⟩
 have hlt : ∀ {i : Nat} {o : Oper}, ops[i]? = some o → i < N ∧ ops.toList[i]? = some o := fun {i o} h => by
  have := (Array.getElem?_eq_some_iff.1 h).1
  exact ⟨by rw [← hN]; simpa using this, by simpa using h⟩
 have hu : Uniq ops.toList := fun i j o q d hi hj ho hq => by
  by_cases e : i = j
  · exact e
  · exact absurd ho (((slots_get hslots hi hj).2 d hq).1 e)
 -- the chain of states
 have hwfs : ∀ i, i ≤ N → WF (S i) ∧ ∀ k, k < i → Mono (clr (S k)) (S (k + 1)) := by
  intro i
  induction i with
  | zero => exact fun _ => ⟨by rw [hS0]; exact hw, fun k hk => by omega⟩
  | succ i ih =>
   intro hi
   obtain ⟨h1, h2⟩ := ih (by omega)
   obtain ⟨o, ho, _⟩ := hget i (by omega)
   have h3 := (evOne_ok (base := base) HN hcall (clr_wf h1) (hstep i o ho).1).1
   exact ⟨h3.wf, fun k hk => by
    by_cases e : k = i
    · rw [e]; exact h3
    · exact h2 k (by omega)⟩
 have hC : Chain S N (BB ops.toList) := ⟨(hwfs 0 (Nat.zero_le _)).1, fun i hi => (hwfs N (Nat.le_refl _)).2 i hi, fun i j hi hji hB b => apart_get hap (hms i hi) (hms j (by omega)) hji hB b⟩
 obtain ⟨hFn, hFoff, hFon⟩ := frames hu (fun i o ho => (hstep i o ho).2) N (by omega)
 rw [hF0] at hFn hFoff hFon
 -- the marks of the whole
 obtain ⟨foot, hfoot⟩ : ∃ n, ms.foldl (fun m x => m ||| x.1) s.foot = n := ⟨_, rfl⟩
 obtain ⟨wr, hwr⟩ : ∃ n, ms.foldl (fun m x => m ||| x.2) s.wr = n := ⟨_, rfl⟩
 rw [hfoot, hwr]
 have hmem : ∀ x ∈ ms, ∃ i, i < N ∧ x = ((S (i + 1)).foot, (S (i + 1)).wr) := fun x hx => by
  obtain ⟨i, hi⟩ := List.getElem?_of_mem hx
  have hi2 : i < N := by rw [← hml]; exact (List.getElem?_eq_some_iff.1 hi).1
  rw [hms i hi2] at hi
  exact ⟨i, hi2, (Option.some.inj hi).symm⟩
 have hfb : ∀ b, foot.testBit b = true ↔ s.foot.testBit b = true ∨ ∃ i, i < N ∧ (S (i + 1)).foot.testBit b = true := fun b => by
  rw [← hfoot, foldl_or]
  refine or_congr Iff.rfl ⟨fun ⟨x, hx, h1⟩ => ?_, fun ⟨i, hi, h1⟩ => ⟨_, List.mem_of_getElem? (hms i hi), h1⟩⟩
  obtain ⟨i, hi, rfl⟩ := hmem x hx
  exact ⟨i, hi, h1⟩
 have hwb : ∀ b, wr.testBit b = true ↔ s.wr.testBit b = true ∨ ∃ i, i < N ∧ (S (i + 1)).wr.testBit b = true := fun b => by
  rw [← hwr, foldl_or]
  refine or_congr Iff.rfl ⟨fun ⟨x, hx, h1⟩ => ?_, fun ⟨i, hi, h1⟩ => ⟨_, List.mem_of_getElem? (hms i hi), h1⟩⟩
  obtain ⟨i, hi, rfl⟩ := hmem x hx
  exact ⟨i, hi, h1⟩
 have hsame : ∀ b, (∀ i, i < N → (S (i + 1)).wr.testBit b = false) → ∀ i, i ≤ N → (S i).mem.get b = s.mem.get b := fun b hb i => by
  induction i with
  | zero => intro _; rw [hS0]
  | succ i ih => intro hi; rw [(hC.mono i (by omega)).same b (hb i (by omega))]; exact ih (by omega)
 have hnx : s.next ≤ s1.next := by
  have := hC.next (i := 0) (j := N) (Nat.zero_le _) (Nat.le_refl _)
  rwa [hS0, hSN] at this
 have hmono : Mono s { s1 with foot := foot, wr := wr } := by
  refine ⟨hnx, fun b hb => (hfb b).2 (.inl hb), fun b hb => (hwb b).2 (.inl hb), fun b hb => ?_, fun b h1 h2 => ?_, ⟨fun b hb => ?_, fun b hb => ?_⟩⟩
  · have hb' : ∀ i, i < N → (S (i + 1)).wr.testBit b = false := fun i hi => by
     cases e : (S (i + 1)).wr.testBit b with
     | false => rfl
     | true => have : wr.testBit b = false := hb; rw [(hwb b).2 (.inr ⟨i, hi, e⟩)] at this; cases this
    show s1.mem.get b = _
    rw [← hSN]
    exact hsame b hb' N (Nat.le_refl _)
  · obtain ⟨j, k1, k2, k3⟩ := hC.home N (Nat.le_refl _) (by rw [hS0]; exact h1) (by rw [hSN]; exact h2)
    exact (hwb b).2 (.inr ⟨j, k1, (hC.mono j k1).made b k2 k3⟩)
  · rw [← hSN] at hb ⊢
    exact (hC.wf N (Nat.le_refl _)).free b hb
  · rcases (hwb b).1 hb with h1 | ⟨i, hi, h1⟩
    · exact ⟨(hfb b).2 (.inl (hw.wr b h1).1), Nat.lt_of_lt_of_le (hw.wr b h1).2 hnx⟩
    · refine ⟨(hfb b).2 (.inr ⟨i, hi, (hC.wrlt hi h1).1⟩), ?_⟩
      have := hC.next (i := i + 1) (j := N) (by omega) (Nat.le_refl _)
      rw [hSN] at this
      exact Nat.lt_of_lt_of_le (hC.wrlt hi h1).2 this
 refine ⟨hmono, fun M σ w a hp hM hf Q hQ => ?_⟩
 have hM0 : ∀ b, b < (S 0).next → foot.testBit b = true → M b = (S 0).mem.get b := fun b h1 h2 => by rw [hS0] at h1 ⊢; exact hp.1 b h1 h2
 -- what is over, and what that left
 refine wp_region_inv hm ?back (fun vs => fillV vs ops.toList 0 a)
  (fun l vs W => ∃ σ', Ext σ σ' (S 0).next (S N).next ∧ MemR base σ' (ovl S l N M) W ∧ Below base w W ∧ (∀ j, j < N → l j = true → resR σ' (R j) (vs j)) ∧ (∀ b, (S 0).next ≤ b → b < (S N).next → σ' b ≠ none → ∃ j, j < N ∧ l j = true ∧ (S j).next ≤ b ∧ b < (S (j + 1)).next) ∧ (∀ j, l j = false → vs j = old ops.toList a j) ∧ (∀ n, n < w.heap.size → ¬ Named M σ n → W.heap[n]? = w.heap[n]?) ∧ ∀ n, n < w.heap.size → Named (ovl S l N M) σ' n → Named M σ n)
  ?step ?fin (old ops.toList a) (fillV_old hu a) ?start
 case back =>
  unfold backB
  refine List.all_eq_true.2 fun j hj => ?_
  have hj' : j < ops.size := List.mem_range.1 hj
  rw [Array.getElem?_eq_getElem hj']
  dsimp only
  rw [← Array.all_toList]
  refine List.all_eq_true.2 fun e he => ?_
  have hj2 : ops.toList[j]? = some ops[j] := by simp [hj']
  cases hb : Region.binds .any e with
  | false => rfl
  | true =>
   have := (slots_get hslots hj2 hj2).1 e he hb
   simpa using this
 case start =>
  refine ⟨σ, Ext.refl _ _ _, ?_, (Below.refl _ w).drew, (fun j _ hj => by cases hj), fun b h1 h2 h3 => absurd (hp.2 b (by rw [← hS0]; exact h1) (by show b < s1.next; rw [← hSN]; exact h2)).2 h3, fun j _ => rfl, fun _ _ _ => rfl, ?_⟩
  all_goals
   have e : ovl S (fun _ => false) N M = M := funext fun b => ovl_none N fun k _ _ => rfl
   rw [e]
  · exact ⟨hM.blk, hM.inj, hM.rng, hM.bs⟩
  · exact fun n _ h => h
 case step =>
  rintro i o ho l vs W ⟨σ1, hext, hMl, hbel, hres, hdom, hold, hkeep, hsrc⟩ hl hd hcl
  obtain ⟨hi, ho'⟩ := hlt ho
  have hdown : Down N (BB ops.toList) l i := by
   refine ⟨hl, fun k hk => bb_down hcl i hd k hk, fun k _ hk => ?_⟩
   cases e : l k with
   | false => rfl
   | true =>
    have := bb_down hcl k (hcl k e) i hk
    rw [hl] at this
    cases this
  obtain ⟨hone, hput⟩ := hstep i o ho'
  obtain ⟨hmi, hki⟩ := evOne_ok (base := base) HN hcall (clr_wf (hC.wf i (by omega))) hone
  have hpre : Pre (clr (S i)) (S (i + 1)) (ovl S l N M) σ1 := by
   refine ⟨fun b h1 h2 => hC.agree hi hdown h2 h1 (fun h3 => hM0 b h3 ((hfb b).2 (.inr ⟨i, hi, h2⟩))), fun b h1 h2 => ?_⟩
   have h3 : (S 0).next ≤ b := Nat.le_trans (hC.next (Nat.zero_le i) (by omega)) h1
   have h4 : b < (S N).next := Nat.lt_of_lt_of_le h2 (hC.next (by omega) (Nat.le_refl _))
   refine ⟨?_, ?_⟩
   · rw [hC.fresh hi hdown h1 h2]
     exact (hp.2 b (by rw [← hS0]; exact h3) (by show b < s1.next; rw [← hSN]; exact h4)).1
   · cases e : σ1 b with
     | none => rfl
     | some x =>
      obtain ⟨j, k1, k2, k3, k4⟩ := hdom b h3 h4 (by rw [e]; simp)
      have := hC.homes k1 hi k3 k4 h1 h2
      subst this
      rw [hl] at k2
      cases k2
  have hn : a.tmps.size = fr.n := hf.size
  obtain ⟨hFin, hFioff, hFion⟩ := frames hu (fun i o ho => (hstep i o ho).2) i (by omega)
  rw [hF0] at hFin hFioff hFion
  have hslot : ∀ t, t ∈ readsOf ops.toList o → resR σ1 ((F i).get t) ((fillV vs ops.toList 0 a).tmps.getD t Go.undef) := by
   intro t ht
   rcases writer ops.toList t with ⟨k, q, hk, hq⟩ | hnone
   · have hothers : ∀ j p, j ≠ k → ops.toList[j]? = some p → p.dst ≠ some t := fun j p hj hp e => hj (hu j k p q t hp hk e hq)
     have hkN : k < N := by rw [← hN]; exact (List.getElem?_eq_some_iff.1 hk).1
     have hts : t < a.tmps.size := by rw [hn]; exact (hFon k q t hkN hk hq).1
     rw [fillV_on _ _ 0 k a q hk hq hothers hts, Nat.zero_add]
     rcases ((slots_get hslots ho' hk).2 t hq).2 ht with h1 | h1
     · -- the operation waits for it
       unfold waitsFor at h1
       obtain ⟨e, he, hz⟩ := List.any_eq_true.1 h1
       rw [Bool.and_eq_true, Nat.beq_eq] at hz
       have hki2 : k < i := by rw [← hz.2]; exact (slots_get hslots ho' ho').1 e he hz.1
       have hlk : l k = true := hd k (waits_of ho he hz.1 hz.2)
       rw [(hFion k q t hki2 hk hq).2]
       exact hres k hkN hlk
     · -- it waits for the operation
       have hlk : l k = false := hdown.post k hkN h1
       have hik : ¬ k < i := by
        intro e
        have hback : ∀ n m, BB ops.toList n m = true → m < n := by
         intro n
         induction n using Nat.strongRecOn with
         | _ n ih =>
          intro m hm
          obtain ⟨p, hp⟩ := bb_lt hm
          obtain ⟨e, e1, e2, e3⟩ := bb_bit hp hm
          have e4 := (slots_get hslots hp hp).1 e e1 e2
          rcases e3 with e3 | ⟨e3, e5⟩
          · omega
          · have := ih e.on e3 m e5; omega
        have := hback k i h1
        omega
       rw [hFioff t (fun j p hj hjp e => by
        have := hu j k p q t hjp hk e hq
        omega), hold k hlk, old_of hk hq]
       exact resR_mono hext.1 (hf.get t)
   · rw [fillV_off _ _ 0 a hnone, hFioff t (fun k p _ hkp => hnone p (List.mem_of_getElem? hkp))]
     exact resR_mono hext.1 (hf.get t)
  have hfo : FrO σ1 (F i) o (fillV vs ops.toList 0 a) := by
   intro x hx r hr
   cases x with
   | tmp t =>
    simp only [Fr.eval, Option.some.injEq] at hr
    subst hr
    exact hslot t (reads_tmp hx)
   | const v => exact res_of hr
   | global g => simp [Fr.eval] at hr
   | func f => simp only [Fr.eval, Option.some.injEq] at hr; subst hr; exact oneR ⟨rfl, rfl⟩
  have hgd : ∀ g want d, o.guard = some (g, want) → (ops[g]?).bind (·.dst) = some d → resR σ1 ((F i).get d) ((fillV vs ops.toList 0 a).tmps.getD d Go.undef) := fun g want d h1 h2 => hslot d (reads_guard h1 (by rw [Array.getElem?_toList]; exact h2))
  have hfin := hki (ovl S l N M) σ1 W (fillV vs ops.toList 0 a) hpre hMl hfo hgd (fun a' w' => ∃ v, a' = fillV (upd vs i v) ops.toList 0 a ∧ ∃ σ', Ext σ σ' (S 0).next (S N).next ∧ MemR base σ' (ovl S (don l i) N M) w' ∧ Below base w w' ∧ (∀ j, j < N → don l i j = true → resR σ' (R j) (upd vs i v j)) ∧ (∀ b, (S 0).next ≤ b → b < (S N).next → σ' b ≠ none → ∃ j, j < N ∧ don l i j = true ∧ (S j).next ≤ b ∧ b < (S (j + 1)).next) ∧ (∀ j, don l i j = false → upd vs i v j = old ops.toList a j) ∧ (∀ n, n < w.heap.size → ¬ Named M σ n → w'.heap[n]? = w.heap[n]?) ∧ ∀ n, n < w.heap.size → Named (ovl S (don l i) N M) σ' n → Named M σ n) Q
   (fun v σ2 w2 q hr => by
    refine ⟨v, fillV_put hu ho' v, σ2, ⟨hext.1.trans q.ext.1, fun b hb => ?_⟩, ?_, hbel.trans q.below, fun j hj hdj => ?_, fun b h1 h2 h3 => ?_, fun j hj => ?_, fun n hn hnm => ?_, fun n hn hnm => ?_⟩
    · rw [q.ext.2 b ?_, hext.2 b hb]
      have h1 := hC.next (i := 0) (j := i) (Nat.zero_le _) (by omega)
      have h2 := hC.next (i := i + 1) (j := N) (by omega) (Nat.le_refl _)
      have h3 : (clr (S i)).next = (S i).next := rfl
      omega
    · have := q.mem
      rw [hC.step hi hdown] at this
      exact this
    · by_cases e : j = i
      · subst e; rw [upd_self]; exact hr
      · rw [upd_ne _ _ e]
        rw [don_ne l e] at hdj
        exact resR_mono q.ext.1 (hres j hj hdj)
    · by_cases e : (S i).next ≤ b ∧ b < (S (i + 1)).next
      · exact ⟨i, hi, don_self l i, e.1, e.2⟩
      · have h4 : σ2 b = σ1 b := q.ext.2 b (by have : (clr (S i)).next = (S i).next := rfl; omega)
        obtain ⟨j, k1, k2, k3, k4⟩ := hdom b h1 h2 (by rw [← h4]; exact h3)
        refine ⟨j, k1, ?_, k3, k4⟩
        unfold don
        split
        · rfl
        · exact k2
    · have hji : j ≠ i := fun e => by subst e; rw [don_self] at hj; cases hj
      rw [upd_ne _ _ hji]
      rw [don_ne l hji] at hj
      exact hold j hj
    · rw [q.keep n (Nat.lt_of_lt_of_le hn hbel.size) (fun e => hnm (hsrc n hn e)) (fun x => x)]
      exact hkeep n hn hnm
    · rw [← hC.step hi hdown] at hnm
      exact hsrc n hn ((q.src n (Nat.lt_of_lt_of_le hn hbel.size) hnm).elim (fun x => x) False.elim))
  unfold wpOp
  rw [ho]
  exact hfin
 case fin =>
  rintro l vs W hall ⟨σ1, hext, hMl, hbel, hres, hdom, hold, hkeep, hsrc⟩
  have hall' : ∀ j, j < N → l j = true := fun j hj => hall j (by rw [← hN] at hj; simpa using hj)
  have e : after { s1 with foot := foot, wr := wr } M = ovl S l N M := by
   funext b
   show (if wr.testBit b = true then s1.mem.get b else M b) = _
   by_cases hb : wr.testBit b = true
   · rw [if_pos hb]
     by_cases hex : ∃ i, i < N ∧ (S (i + 1)).wr.testBit b = true
     · obtain ⟨i, hi, h1⟩ := hex
       have e1 : ovl S l N M b = ovl S (fun _ => true) N M b := ovl_alike N fun k hk _ => hall' k hk
       have h2 := hC.wrlt hi h1
       rw [e1, hC.full (fun h3 => hM0 b h3 ((hfb b).2 (.inr ⟨i, hi, h2.1⟩))) N (Nat.le_refl _) (Nat.lt_of_lt_of_le h2.2 (hC.next (by omega) (Nat.le_refl _))), hSN]
     · have hno : ∀ i, i < N → (S (i + 1)).wr.testBit b = false := fun i hi => by
        cases e : (S (i + 1)).wr.testBit b with
        | false => rfl
        | true => exact absurd ⟨i, hi, e⟩ hex
       have h1 : s.wr.testBit b = true := ((hwb b).1 hb).resolve_right hex
       rw [ovl_none N (fun k hk hw => by rw [hno k hk] at hw; cases hw), ← hSN, hsame b hno N (Nat.le_refl _)]
       exact (hp.1 b (hw.wr b h1).2 ((hfb b).2 (.inl (hw.wr b h1).1))).symm
   · rw [if_neg hb]
     exact (ovl_none N (fun k hk hwk => absurd ((hwb b).2 (.inr ⟨k, hk, hwk⟩)) hb)).symm
  refine hQ _ σ1 W ⟨by rw [hS0, hSN] at hext; exact hext, by rw [e]; exact hMl, hbel, fun n h1 h2 _ => hkeep n h1 h2, fun n h1 h2 => .inl (hsrc n h1 (by rw [e] at h2; exact h2))⟩ ?_ (fillV_defers _ _ _ _)
  · refine ⟨by rw [fillV_size, hf.size, ← hFN]; exact hFn.symm, fun t => ?_⟩
    rw [← hFN]
    rcases writer ops.toList t with ⟨k, q, hk, hq⟩ | hnone
    · have hothers : ∀ j p, j ≠ k → ops.toList[j]? = some p → p.dst ≠ some t := fun j p hj hp e => hj (hu j k p q t hp hk e hq)
      have hkN : k < N := by rw [← hN]; exact (List.getElem?_eq_some_iff.1 hk).1
      have hts : t < a.tmps.size := by rw [hf.size]; exact (hFon k q t hkN hk hq).1
      rw [fillV_on _ _ 0 k a q hk hq hothers hts, Nat.zero_add, (hFon k q t hkN hk hq).2]
      exact hres k hkN (hall' k hkN)
    · rw [fillV_off _ _ 0 a hnone, hFoff t (fun k p _ hkp => hnone p (List.mem_of_getElem? hkp))]
      exact resR_mono hext.1 (hf.get t)
end
end Go.Proofs.YtgalkkolbobmbaaGreat.Abs
/- The evaluator's soundness, 10: code and calls. -/
namespace Go.Proofs.YtgalkkolbobmbaaGreat.Abs
set_option linter.unusedVariables false
set_option linter.unusedSimpArgs false
open Go Go.RowKit
def exOf : Ex → Exit
 | .normal => .normal
 | .exit id => .exit id
 | .ret => .ret
section
variable {P : Program} {base : Nat} {call : CallF}
/-- What a run of code leaves. -/
def CodeOK (P : Program) (base : Nat) (s : St) (fr : Fr) (ex : Ex) (fr' : Fr) (s' : St) (c : Code) : Prop := Mono s s' ∧ ∀ (M : Mem) (σ : Nm) (w : World) (a : Act), Pre s s' M σ → MemR base σ M w → FrR σ fr a → ∀ (Q : Exit → Act → World → Prop), (∀ a' σ' w', Post base s s' M σ w σ' w' → FrR σ' fr' a' → a'.defers = a.defers → Q (exOf ex) a' w') → c.wp P Q a w
theorem asNormal_some {x : Option (Fr × St)} {ex : Ex} {fr : Fr} {s : St} (h : asNormal x = some (ex, fr, s)) : ex = .normal ∧ x = some (fr, s) := by
 unfold asNormal at h
 split at h
 · cases h
 · simp only [Option.some.injEq, Prod.mk.injEq] at h
   obtain ⟨rfl, rfl, rfl⟩ := h
   exact ⟨rfl, rfl⟩
theorem thenCode_some {k : Fr → St → Out} {x : Out} {ex : Ex} {fr : Fr} {s : St} (h : thenCode k x = some (ex, fr, s)) : (∃ fr1 s1, x = some (.normal, fr1, s1) ∧ k fr1 s1 = some (ex, fr, s)) ∨ (x = some (ex, fr, s) ∧ ex ≠ .normal) := by
 unfold thenCode at h
 split at h
 · cases h
 · exact .inl ⟨_, _, rfl, h⟩
 · simp only [Option.some.injEq, Prod.mk.injEq] at h
   obtain ⟨rfl, rfl, rfl⟩ := h
   exact .inr ⟨rfl, by simp⟩
 · simp only [Option.some.injEq, Prod.mk.injEq] at h
   obtain ⟨rfl, rfl, rfl⟩ := h
   exact .inr ⟨rfl, by simp⟩
theorem thenLoop_some {k : Fr → St → Out} {x : Out} {ex : Ex} {fr : Fr} {s : St} (h : thenLoop k x = some (ex, fr, s)) : (∃ fr1 s1, x = some (.normal, fr1, s1) ∧ k fr1 s1 = some (ex, fr, s)) ∨ (x = some (ex, fr, s) ∧ ex ≠ .normal) := by
 unfold thenLoop at h
 split at h
 · cases h
 · exact .inl ⟨_, _, rfl, h⟩
 · simp only [Option.some.injEq, Prod.mk.injEq] at h
   obtain ⟨rfl, rfl, rfl⟩ := h
   exact .inr ⟨rfl, by simp⟩
 · simp only [Option.some.injEq, Prod.mk.injEq] at h
   obtain ⟨rfl, rfl, rfl⟩ := h
   exact .inr ⟨rfl, by simp⟩
theorem then_ne {next : Act → World → Prop} {Q : Exit → Act → World → Prop} {ex : Ex} (h : ex ≠ .normal) {a : Act} {w : World} (hQ : Q (exOf ex) a w) : Exit.then next Q (exOf ex) a w := by
 cases ex with
 | normal => exact absurd rfl h
 | exit id => exact hQ
 | ret => exact hQ
/-- One run behind another one. -/
theorem chain_ok {c : Code} {s s1 s2 : St} {fr fr1 fr2 : Fr} {ex : Ex} {next : (Exit → Act → World → Prop) → Act → World → Prop} (h1 : CodeOK P base s fr .normal fr1 s1 c) (m2 : Mono s1 s2)
 (h2 : ∀ (M : Mem) (σ : Nm) (w : World) (a : Act), Pre s1 s2 M σ → MemR base σ M w → FrR σ fr1 a → ∀ (Q : Exit → Act → World → Prop), (∀ a' σ' w', Post base s1 s2 M σ w σ' w' → FrR σ' fr2 a' → a'.defers = a.defers → Q (exOf ex) a' w') → next Q a w)
 {M : Mem} {σ : Nm} {w : World} {a : Act} (hp : Pre s s2 M σ) (hM : MemR base σ M w) (hf : FrR σ fr a) {Q : Exit → Act → World → Prop} (hQ : ∀ a' σ' w', Post base s s2 M σ w σ' w' → FrR σ' fr2 a' → a'.defers = a.defers → Q (exOf ex) a' w') : c.wp P (Exit.then (next Q) Q) a w :=
 h1.2 M σ w a (hp.first m2) hM hf _ fun a1 σ1 w1 q1 hf1 hd1 => h2 _ σ1 w1 a1 (hp.second h1.1 m2 q1.ext) q1.mem hf1 Q fun a2 σ2 w2 q2 hf2 hd2 => hQ a2 σ2 w2 (q1.trans q2 h1.1 m2) hf2 (hd2.trans hd1)
theorem loop_ok {c : Code} {run : Fr → St → Out} (hc : ∀ {fr s ex fr' s'}, run fr s = some (ex, fr', s') → WF s → CodeOK P base s fr ex fr' s' c) : ∀ (k : Nat) {fr s ex fr' s'}, evLoop run k fr s = some (ex, fr', s') → WF s →
 Mono s s' ∧ ∀ (M : Mem) (σ : Nm) (w : World) (a : Act), Pre s s' M σ → MemR base σ M w → FrR σ fr a → ∀ (Q : Exit → Act → World → Prop), (∀ a' σ' w', Post base s s' M σ w σ' w' → FrR σ' fr' a' → a'.defers = a.defers → Q (exOf ex) a' w') → Code.rounds P c Q k a w
 | 0, fr, s, ex, fr', s', h, _ => by cases h
 | k + 1, fr, s, ex, fr', s', h, hw => by
  have h' : thenLoop (evLoop run k) (run fr s) = some (ex, fr', s') := h
  rcases thenLoop_some h' with ⟨fr1, s1, e1, e2⟩ | ⟨e1, hne⟩
  · have h1 := hc e1 hw
    obtain ⟨m2, k2⟩ := loop_ok hc k e2 h1.1.wf
    exact ⟨h1.1.trans m2, fun M σ w a hp hM hf Q hQ => chain_ok (next := fun Q => Code.rounds P c Q k) h1 m2 k2 hp hM hf hQ⟩
  · have h1 := hc e1 hw
    exact ⟨h1.1, fun M σ w a hp hM hf Q hQ => h1.2 M σ w a hp hM hf _ fun a' σ' w' q hf' hd => then_ne hne (hQ a' σ' w' q hf' hd)⟩
theorem evCode_ok (HN : ∀ (f : FuncId) (fn : Func), P.funcs[f]? = some fn → (fn.name == "runtime.NumGoroutine") = false) (hm : P.follows .mixedOrders = true) (hcall : CallOK P base call) (k : Nat) (c : Code) :
 ∀ {fr s ex fr' s'}, evCode P call k c fr s = some (ex, fr', s') → WF s → CodeOK P base s fr ex fr' s' c := by
 induction c with
 | skip =>
  intro fr s ex fr' s' h hw
  have h' : some (Ex.normal, fr, s) = some (ex, fr', s') := h
  simp only [Option.some.injEq, Prod.mk.injEq] at h'
  obtain ⟨rfl, rfl, rfl⟩ := h'
  exact ⟨Mono.refl hw, fun M σ w a hp hM hf Q hQ => wp_skip (hQ a σ w (Post.quiet hp hw rfl rfl (fun _ h => h) hM) hf rfl)⟩
 | region id ops draw =>
  intro fr s ex fr' s' h hw
  have h' : asNormal (evRegion P call ops draw fr s) = some (ex, fr', s') := h
  obtain ⟨rfl, h2⟩ := asNormal_some h'
  cases draw with
  | true => exact evDraw_ok HN hm hcall h2 hw
  | false =>
   have h3 : evOps P call ops ops.toList fr s = some (fr', s') := h2
   obtain ⟨m, k⟩ := evOps_ok HN hcall ops.toList h3 hw
   exact ⟨m, fun M σ w a hp hM hf Q hQ => wp_region_list (k M σ w a hp hM hf Q hQ)⟩
 | seq x y ihx ihy =>
  intro fr s ex fr' s' h hw
  have h' : thenCode (evCode P call k y) (evCode P call k x fr s) = some (ex, fr', s') := h
  rcases thenCode_some h' with ⟨fr1, s1, e1, e2⟩ | ⟨e1, hne⟩
  · have h1 := ihx e1 hw
    obtain ⟨m2, k2⟩ := ihy e2 h1.1.wf
    exact ⟨h1.1.trans m2, fun M σ w a hp hM hf Q hQ => wp_seq (chain_ok (next := fun Q => y.wp P Q) h1 m2 k2 hp hM hf hQ)⟩
  · have h1 := ihx e1 hw
    exact ⟨h1.1, fun M σ w a hp hM hf Q hQ => wp_seq (h1.2 M σ w a hp hM hf _ fun a' σ' w' q hf' hd => then_ne hne (hQ a' σ' w' q hf' hd))⟩
 | cond c x y ihx ihy =>
  intro fr s ex fr' s' h hw
  have h' : onBool (fr.bool c) (evCode P call k x) (evCode P call k y) fr s = some (ex, fr', s') := h
  unfold onBool at h'
  split at h'
  · cases h'
  · rename_i hb
    have h1 := ihx h' hw
    exact ⟨h1.1, fun M σ w a hp hM hf Q hQ => wp_cond_true (hf.bool hb) (h1.2 M σ w a hp hM hf Q hQ)⟩
  · rename_i hb
    have h1 := ihy h' hw
    exact ⟨h1.1, fun M σ w a hp hM hf Q hQ => wp_cond_false (hf.bool hb) (h1.2 M σ w a hp hM hf Q hQ)⟩
 | block id c ih =>
  intro fr s ex fr' s' h hw
  have h' : outOf id (evCode P call k c fr s) = some (ex, fr', s') := h
  unfold outOf at h'
  split at h'
  · cases h'
  · rename_i fr1 s1 e1
    simp only [Option.some.injEq, Prod.mk.injEq] at h'
    obtain ⟨rfl, rfl, rfl⟩ := h'
    have h1 := ih e1 hw
    exact ⟨h1.1, fun M σ w a hp hM hf Q hQ => wp_block (h1.2 M σ w a hp hM hf _ fun a' σ' w' q hf' hd => hQ a' σ' w' q hf' hd)⟩
  · rename_i i fr1 s1 e1
    have h1 := ih e1 hw
    rw [Bool.cond_eq_ite] at h'
    split at h'
    · rename_i hi
      have hi' : i = id := by simpa [Nat.beq_eq] using hi
      simp only [Option.some.injEq, Prod.mk.injEq] at h'
      obtain ⟨rfl, rfl, rfl⟩ := h'
      exact ⟨h1.1, fun M σ w a hp hM hf Q hQ => wp_block (h1.2 M σ w a hp hM hf _ fun a' σ' w' q hf' hd => by
       show (if i = id then Q .normal a' w' else Q (.exit i) a' w')
       rw [if_pos hi']
       exact hQ a' σ' w' q hf' hd)⟩
    · rename_i hi
      have hi' : ¬ i = id := by simpa [Nat.beq_eq] using hi
      simp only [Option.some.injEq, Prod.mk.injEq] at h'
      obtain ⟨rfl, rfl, rfl⟩ := h'
      exact ⟨h1.1, fun M σ w a hp hM hf Q hQ => wp_block (h1.2 M σ w a hp hM hf _ fun a' σ' w' q hf' hd => by
       show (if i = id then Q .normal a' w' else Q (.exit i) a' w')
       rw [if_neg hi']
       exact hQ a' σ' w' q hf' hd)⟩
  · rename_i fr1 s1 e1
    simp only [Option.some.injEq, Prod.mk.injEq] at h'
    obtain ⟨rfl, rfl, rfl⟩ := h'
    have h1 := ih e1 hw
    exact ⟨h1.1, fun M σ w a hp hM hf Q hQ => wp_block (h1.2 M σ w a hp hM hf _ fun a' σ' w' q hf' hd => hQ a' σ' w' q hf' hd)⟩
 | loop c ih =>
  intro fr s ex fr' s' h hw
  have h' : evLoop (evCode P call k c) k fr s = some (ex, fr', s') := h
  obtain ⟨m, k2⟩ := loop_ok (fun h hw => ih h hw) k h' hw
  exact ⟨m, fun M σ w a hp hM hf Q hQ => wp_loop_rounds k (k2 M σ w a hp hM hf Q hQ)⟩
 | rangeFunc f ps x y ihx ihy => intro fr s ex fr' s' h hw; cases h
 | exit id =>
  intro fr s ex fr' s' h hw
  have h' : some (Ex.exit id, fr, s) = some (ex, fr', s') := h
  simp only [Option.some.injEq, Prod.mk.injEq] at h'
  obtain ⟨rfl, rfl, rfl⟩ := h'
  exact ⟨Mono.refl hw, fun M σ w a hp hM hf Q hQ => wp_exit (hQ a σ w (Post.quiet hp hw rfl rfl (fun _ h => h) hM) hf rfl)⟩
 | scope c ih =>
  intro fr s ex fr' s' h hw
  have h' : evCode P call k c fr s = some (ex, fr', s') := h
  have h1 := ih h' hw
  refine ⟨h1.1, fun M σ w a hp hM hf Q hQ => wp_scope_straight (h1.2 M σ w a hp hM hf _ fun a' σ' w' q hf' hd => ?_)⟩
  have := hQ a' σ' w' q hf' hd
  cases ex <;> exact this
 | label l =>
  intro fr s ex fr' s' h hw
  have h' : some (Ex.normal, fr, s) = some (ex, fr', s') := h
  simp only [Option.some.injEq, Prod.mk.injEq] at h'
  obtain ⟨rfl, rfl, rfl⟩ := h'
  exact ⟨Mono.refl hw, fun M σ w a hp hM hf Q hQ => wp_label (hQ a σ w (Post.quiet hp hw rfl rfl (fun _ h => h) hM) hf rfl)⟩
 | goto l => intro fr s ex fr' s' h hw; cases h
 | ret =>
  intro fr s ex fr' s' h hw
  have h' : some (Ex.ret, fr, s) = some (ex, fr', s') := h
  simp only [Option.some.injEq, Prod.mk.injEq] at h'
  obtain ⟨rfl, rfl, rfl⟩ := h'
  exact ⟨Mono.refl hw, fun M σ w a hp hM hf Q hQ => wp_ret (hQ a σ w (Post.quiet hp hw rfl rfl (fun _ h => h) hM) hf rfl)⟩
 | refuse why => intro fr s ex fr' s' h hw; cases h
noncomputable def resOne (tmps : Array Value) : ResultVar → Sem Value
 | .tmp t => pure (tmps.getD t Go.undef)
 | .cell a t => do loadVar t (← asAddr (tmps.getD a Go.undef))
theorem results_eq (fn : Func) (tmps : Array Value) : results fn tmps = (do let vs ← fn.results.mapM (resOne tmps); pure (if h : vs.size = 1 then vs[0] else .tuple vs)) := by
 unfold results
 refine congrArg (fun g : ResultVar → Sem Value => (do let vs ← fn.results.mapM g; pure (if h : vs.size = 1 then vs[0] else .tuple vs) : Sem Value)) ?_
 funext x
 cases x <;> rfl
/-- What a function gives back. -/
theorem evResults_ok {fr : Fr} : ∀ {rs : List ResultVar} {s s' : St} {vs : List AV}, evResults P fr rs s = some (vs, s') → WF s →
 Mono s s' ∧ s'.mem = s.mem ∧ s'.wr = s.wr ∧ s'.next = s.next ∧ ∀ (M : Mem) (σ : Nm) (w : World) (tmps : Array Value), (∀ b, b < s.next → s'.foot.testBit b = true → M b = s.mem.get b) → MemR base σ M w → (∀ t, resR σ (fr.get t) (tmps.getD t Go.undef)) →
  ∃ us : List Value, (rs.mapM (resOne tmps)).run P w = .ok us w ∧ valsR σ vs us
 | [], s, s', vs, h, hw => by
  simp only [evResults, Option.some.injEq, Prod.mk.injEq] at h
  obtain ⟨rfl, rfl⟩ := h
  exact ⟨Mono.refl hw, rfl, rfl, rfl, fun M σ w tmps _ _ _ => ⟨[], by simp, trivial⟩⟩
 | .tmp t :: rest, s, s', vs, h, hw => by
  simp only [evResults] at h
  split at h
  · rename_i v vs1 s1 hv h1
    simp only [Option.some.injEq, Prod.mk.injEq] at h
    obtain ⟨rfl, rfl⟩ := h
    obtain ⟨m, e1, e2, e3, k⟩ := evResults_ok h1 hw
    refine ⟨m, e1, e2, e3, fun M σ w tmps hM0 hM hf => ?_⟩
    obtain ⟨us, g1, g2⟩ := k M σ w tmps hM0 hM hf
    have hr := hf t
    rw [hv] at hr
    exact ⟨tmps.getD t Go.undef :: us, by simp only [List.mapM_cons, resOne, Sem.run_bind, Sem.run_pure, Result.andThen_ok, g1], hr, g2⟩
  · cases h
 | .cell c t :: rest, s, s', vs, h, hw => by
  simp only [evResults] at h
  split at h
  · rename_i b off hc
    split at h
    · rename_i v vs1 s1 hv h1
      simp only [Option.some.injEq, Prod.mk.injEq] at h
      obtain ⟨rfl, rfl⟩ := h
      have hml := Mono.look hw b
      obtain ⟨m, e1, e2, e3, k⟩ := evResults_ok h1 hml.wf
      refine ⟨hml.trans m, e1, e2, e3, fun M σ w tmps hM0 hM hf => ?_⟩
      obtain ⟨us, g1, g2⟩ := k M σ w tmps hM0 hM hf
      obtain ⟨x, hx⟩ := load_mem hv
      have hMb : M b = s.mem.get b := hM0 b (hw.lt hx) (m.foot b (bit_self _ _))
      obtain ⟨n, S, q1, u, q2, q3⟩ := run_evLoad hv hMb hM
      have hr := hf c
      rw [Option.some.inj (oneOf_some hc)] at hr
      obtain ⟨n', S', q1', he⟩ := (oneR_inv hr).1
      rw [q1] at q1'
      obtain ⟨rfl, rfl⟩ := Prod.mk.inj (Option.some.inj q1')
      exact ⟨u :: us, by simp only [List.mapM_cons, resOne, Sem.run_bind, he, asAddr, Sem.run_pure, Result.andThen_ok, q2, g1], q3, g2⟩
    · cases h
  · cases h
theorem frameOf_get : ∀ (rs : List AR) (i : Nat) (t : Tr AR) (j : Nat), (frameOf rs i t).get j = if i ≤ j ∧ j < i + rs.length then rs[j - i]? else t.get j
 | [], i, t, j => by rw [frameOf, if_neg (by simp)]
 | r :: rs, i, t, j => by
  rw [frameOf, frameOf_get rs (i + 1), Tr.get_set]
  by_cases h1 : j = i
  · subst h1
    rw [if_neg (by omega), if_pos rfl, if_pos (by simp), Nat.sub_self, List.getElem?_cons_zero]
  · by_cases h2 : i + 1 ≤ j ∧ j < i + 1 + rs.length
    · rw [if_pos h2, if_pos (by simp; omega), show j - i = (j - (i + 1)) + 1 by omega, List.getElem?_cons_succ]
    · rw [if_neg h2, if_neg h1, if_neg (by simp; omega)]
theorem argsR_get {σ : Nm} : ∀ {cs : List AR} {vs : List Value}, argsR σ cs vs → ∀ {i : Nat} {c : AR}, cs[i]? = some c → ∃ v, vs[i]? = some v ∧ resR σ c v
 | [], [], _, i, c, h => by simp at h
 | c :: cs, v :: vs, ⟨a, b⟩, 0, c', h => ⟨v, rfl, by simp at h; subst h; exact a⟩
 | c :: cs, v :: vs, ⟨a, b⟩, i + 1, c', h => by
  obtain ⟨u, h1, h2⟩ := argsR_get b (i := i) (by simpa using h)
  exact ⟨u, by simpa using h1, h2⟩
 | [], _ :: _, e, _, _, _ => e.elim
 | _ :: _, [], e, _, _, _ => e.elim
theorem start_ok {σ : Nm} {args : List AR} {vs : List Value} {n : Nat} (h : argsR σ args vs) (hn : args.length ≤ n) : FrR σ ⟨frameOf args 0 .nil, n⟩ { tmps := vs.toArray ++ Array.replicate (n - vs.toArray.size) Go.undef, defers := [] } := by
 have hl := argsR_length h
 refine ⟨by simp; omega, fun t => ?_⟩
 have hg : (Fr.mk (frameOf args 0 .nil) n).get t = match (if t < args.length then args[t]? else none) with | some r => r | none => .undef := by
  show (match (frameOf args 0 .nil).get t with | some r => r | none => AR.undef) = _
  rw [frameOf_get]
  by_cases ht : t < args.length
  · rw [if_pos ⟨Nat.zero_le _, by omega⟩, if_pos ht, Nat.sub_zero]
  · rw [if_neg (by omega), if_neg ht]
    rfl
 rw [hg]
 by_cases ht : t < args.length
 · rw [if_pos ht, List.getElem?_eq_getElem ht]
   obtain ⟨v, h1, h2⟩ := argsR_get h (List.getElem?_eq_getElem ht)
   have : (vs.toArray ++ Array.replicate (n - vs.toArray.size) Go.undef).getD t Go.undef = v := by
    rw [Array.getD_eq_getD_getElem?, Array.getElem?_append_left (by simp; omega)]
    simp [h1]
   rw [this]
   exact h2
 · rw [if_neg ht]
   have : (vs.toArray ++ Array.replicate (n - vs.toArray.size) Go.undef).getD t Go.undef = Go.undef := by
    rw [Array.getD_eq_getD_getElem?, Array.getElem?_append_right (by simp; omega), Array.getElem?_replicate]
    split <;> rfl
   rw [this]
   exact undefR _
theorem joined_ok {σ : Nm} {vs : List AV} {us : List Value} (h : valsR σ vs us) : resR σ (joined vs) (if h : us.toArray.size = 1 then us.toArray[0] else .tuple us.toArray) := by
 match vs, us, h with
 | [], [], _ => exact ⟨[], rfl, trivial⟩
 | [a], [u], h => exact h.1
 | a :: b :: vs, u :: v :: us, h => exact ⟨u :: v :: us, by simp, h⟩
/-- One call, out of those that it makes. -/
theorem evBody_ok (HN : ∀ (f : FuncId) (fn : Func), P.funcs[f]? = some fn → (fn.name == "runtime.NumGoroutine") = false) (hm : P.follows .mixedOrders = true) (hcall : CallOK P base call) (k : Nat) {f : FuncId} {args : List AR} {s s' : St} {r : AR} (h' : evBody P k call args s P.funcs[f]? = some (r, s')) (hw : WF s) :
 (∃ fn, P.funcs[f]? = some fn ∧ fn.body.isNone = false) ∧ Mono s s' ∧ ∀ (M : Mem) (σ : Nm) (w : World) (vs : List Value), Pre s s' M σ → MemR base σ M w → argsR σ args vs → Calls P f vs.toArray w fun e w' => ∃ v σ', e = .returned v ∧ Post base s s' M σ w σ' w' ∧ resR σ' r v := by
 unfold evBody at h'
 split at h'
 · cases h'
 · rename_i fn hfn
   split at h'
   · cases h'
   · rename_i c hc
     rw [Bool.cond_eq_ite] at h'
     split at h'
     · rename_i hle
       have hle' : args.length ≤ fn.ntmps := by simpa [Nat.ble_eq] using hle
       have key : ∀ (ex : Ex) (fr : Fr) (s1 : St) (vs : List AV), exOf ex = .normal ∨ exOf ex = .ret → evCode P call k c ⟨frameOf args 0 .nil, fn.ntmps⟩ s = some (ex, fr, s1) → evResults P fr fn.results.toList s1 = some (vs, s') → r = joined vs →
        (∃ fn, P.funcs[f]? = some fn ∧ fn.body.isNone = false) ∧ Mono s s' ∧ ∀ (M : Mem) (σ : Nm) (w : World) (vs : List Value), Pre s s' M σ → MemR base σ M w → argsR σ args vs → Calls P f vs.toArray w fun e w' => ∃ v σ', e = .returned v ∧ Post base s s' M σ w σ' w' ∧ resR σ' r v := by
        intro ex fr s1 vs hex h1 h2 hr
        obtain ⟨m1, k1⟩ := evCode_ok HN hm hcall k c h1 hw
        obtain ⟨m2, e1, e2, e3, k2⟩ := evResults_ok (base := base) h2 m1.wf
        refine ⟨⟨fn, hfn, by rw [hc]; rfl⟩, m1.trans m2, fun M σ w args' hp hM ha => ?_⟩
        refine calls_of_wp hfn hc (k1 M σ w _ (hp.first m2) hM (start_ok ha hle') _ fun a' σ1 w1 q1 hf1 hd1 => ?_)
        have hp2 := hp.second m1 m2 q1.ext
        obtain ⟨us, g1, g2⟩ := k2 _ σ1 w1 a'.tmps (fun b h3 h4 => hp2.1 b h3 h4) q1.mem (fun t => hf1.get t)
        have q2 : Post base s1 s' (after s1 M) σ1 w1 σ1 w1 := Post.quiet hp2 m1.wf e1 e2 (fun b hb => m2.foot b hb) q1.mem
        have hres : (results fn a'.tmps).run P w1 = .ok (if h : us.toArray.size = 1 then us.toArray[0] else .tuple us.toArray) w1 := by
         rw [results_eq, Array.mapM_eq_mapM_toList]
         simp only [Sem.run_bind, Sem.run_map, g1, Result.andThen_ok, Sem.run_pure]
        have hfin : a'.defers = [] ∧ ∃ v, (results fn a'.tmps).run P w1 = .ok v w1 ∧ ∃ v' σ', Ending.returned v = .returned v' ∧ Post base s s' M σ w σ' w1 ∧ resR σ' r v' := ⟨hd1, _, hres, _, σ1, rfl, q1.trans q2 m1 m2, by rw [hr]; exact joined_ok g2⟩
        rcases hex with hx | hx <;> (rw [hx]; exact hfin)
       unfold finish at h'
       split at h'
       · cases h'
       · cases h'
       · rename_i ex fr s1 hne h1
         split at h'
         · rename_i vs s2 h2
           simp only [Option.some.injEq, Prod.mk.injEq] at h'
           obtain ⟨rfl, rfl⟩ := h'
           refine key ex fr s1 vs ?_ h1 h2 rfl
           cases ex with
           | normal => exact .inl rfl
           | ret => exact .inr rfl
           | exit id => exact (hne id rfl).elim
         · cases h'
     · cases h'
/-- Calls, of which some are known otherwise. -/
noncomputable def orElseA (x : Option (AR × St)) (y : Option (AR × St)) : Option (AR × St) := match x with
 | some r => some r
 | none => y
noncomputable def evCallN (P : Program) (nat : CallF) (k : Nat) (n : Nat) : CallF :=
 Nat.rec (motive := fun _ => CallF) (fun _ _ _ => none) (fun _ ih f args s => orElseA (nat f args s) (evBody P k ih args s P.funcs[f]?)) n
theorem evCallN_ok (HN : ∀ (f : FuncId) (fn : Func), P.funcs[f]? = some fn → (fn.name == "runtime.NumGoroutine") = false) (hm : P.follows .mixedOrders = true) {nat : CallF} (hn : CallOK P base nat) (k : Nat) : ∀ n, CallOK P base (evCallN P nat k n)
 | 0 => fun f args s r s' h _ => by cases h
 | n + 1 => fun f args s r s' h hw => by
  have h' : orElseA (nat f args s) (evBody P k (evCallN P nat k n) args s P.funcs[f]?) = some (r, s') := h
  unfold orElseA at h'
  split at h'
  · rename_i x hx
    obtain rfl := Option.some.inj h'
    exact hn f args s r s' hx hw
  · exact evBody_ok HN hm (evCallN_ok HN hm hn k n) k h' hw
end
end Go.Proofs.YtgalkkolbobmbaaGreat.Abs
/- The evaluator: calls that are known from elsewhere (memos): so that the kernel's work is done in parts. -/
namespace Go.Proofs.YtgalkkolbobmbaaGreat.Abs
set_option linter.unusedVariables false
set_option linter.unusedSimpArgs false
open Go Go.RowKit
/-! Equality, told by the kernel. -/
noncomputable def eqVal : Value → Value → Bool
 | .int k m, .int k' n => decide (k = k') && decide (m = n)
 | .bool a, .bool b => a == b
 | .string a, .string b => bytesEq a.data.toList b.data.toList
 | .pointer none, .pointer none => true
 | .slice none n c, .slice none n' c' => Nat.beq n n' && Nat.beq c c'
 | .nilFunc, .nilFunc => true
 | .nilIface, .nilIface => true
 | _, _ => false
theorem eqVal_eq {a b : Value} (h : eqVal a b = true) : a = b := by
 unfold eqVal at h
 split at h
 · rw [Bool.and_eq_true] at h
   rw [of_decide_eq_true h.1, of_decide_eq_true h.2]
 · rw [beq_iff_eq] at h; rw [h]
 · rw [bytesEq_iff, beq_iff_eq] at h
   congr 1
   rename_i a b
   obtain ⟨⟨a⟩⟩ := a
   obtain ⟨⟨b⟩⟩ := b
   have : a = b := h
   rw [this]
 · rfl
 · rw [Bool.and_eq_true, Nat.beq_eq, Nat.beq_eq] at h; rw [h.1, h.2]
 · rfl
 · rfl
 · cases h
noncomputable def eqPairs : List (Nat × Nat) → List (Nat × Nat) → Bool
 | [], [] => true
 | (a, b) :: l, (c, d) :: m => Nat.beq a c && Nat.beq b d && eqPairs l m
 | _, _ => false
theorem eqPairs_eq : ∀ {a b : List (Nat × Nat)}, eqPairs a b = true → a = b
 | [], [], _ => rfl
 | (a, b) :: l, (c, d) :: m, h => by
  simp only [eqPairs, Bool.and_eq_true, Nat.beq_eq] at h
  rw [h.1.1, h.1.2, eqPairs_eq h.2]
 | [], (_, _) :: _, h => by cases h
 | (_, _) :: _, [], h => by cases h
noncomputable def eqOpt : Option Nat → Option Nat → Bool
 | none, none => true
 | some a, some b => Nat.beq a b
 | _, _ => false
theorem eqOpt_eq {a b : Option Nat} (h : eqOpt a b = true) : a = b := by
 unfold eqOpt at h
 split at h
 · rfl
 · rw [Nat.beq_eq] at h; rw [h]
 · cases h
noncomputable def eqAC : AC → AC → Bool
 | .lit v, .lit u => eqVal v u
 | .ptr b o, .ptr b' o' => Nat.beq b b' && Nat.beq o o'
 | .sl b o n w, .sl b' o' n' w' => Nat.beq b b' && Nat.beq o o' && Nat.beq n n' && eqOpt w w'
 | .clo f c, .clo f' c' => Nat.beq f f' && eqPairs c c'
 | .opq, .opq => true
 | _, _ => false
theorem eqAC_eq {a b : AC} (h : eqAC a b = true) : a = b := by
 unfold eqAC at h
 split at h
 · rw [eqVal_eq h]
 · rw [Bool.and_eq_true, Nat.beq_eq, Nat.beq_eq] at h; rw [h.1, h.2]
 · rw [Bool.and_eq_true, Bool.and_eq_true, Bool.and_eq_true, Nat.beq_eq, Nat.beq_eq, Nat.beq_eq] at h; rw [h.1.1.1, h.1.1.2, h.1.2, eqOpt_eq h.2]
 · rw [Bool.and_eq_true, Nat.beq_eq] at h; rw [h.1, eqPairs_eq h.2]
 · rfl
 · cases h
noncomputable def eqACs : List AC → List AC → Bool
 | [], [] => true
 | a :: l, b :: m => eqAC a b && eqACs l m
 | _, _ => false
theorem eqACs_eq : ∀ {a b : List AC}, eqACs a b = true → a = b
 | [], [], _ => rfl
 | a :: l, b :: m, h => by
  rw [eqACs, Bool.and_eq_true] at h
  rw [eqAC_eq h.1, eqACs_eq h.2]
 | [], _ :: _, h => by cases h
 | _ :: _, [], h => by cases h
noncomputable def eqAV : AV → AV → Bool
 | .one a, .one b => eqAC a b
 | .agg l, .agg m => eqACs l m
 | _, _ => false
theorem eqAV_eq {a b : AV} (h : eqAV a b = true) : a = b := by
 unfold eqAV at h
 split at h
 · rw [eqAC_eq h]
 · rw [eqACs_eq h]
 · cases h
noncomputable def eqAVs : List AV → List AV → Bool
 | [], [] => true
 | a :: l, b :: m => eqAV a b && eqAVs l m
 | _, _ => false
theorem eqAVs_eq : ∀ {a b : List AV}, eqAVs a b = true → a = b
 | [], [], _ => rfl
 | a :: l, b :: m, h => by
  rw [eqAVs, Bool.and_eq_true] at h
  rw [eqAV_eq h.1, eqAVs_eq h.2]
 | [], _ :: _, h => by cases h
 | _ :: _, [], h => by cases h
noncomputable def eqAR : AR → AR → Bool
 | .val a, .val b => eqAV a b
 | .tup l, .tup m => eqAVs l m
 | _, _ => false
theorem eqAR_eq {a b : AR} (h : eqAR a b = true) : a = b := by
 unfold eqAR at h
 split at h
 · rw [eqAV_eq h]
 · rw [eqAVs_eq h]
 · cases h
noncomputable def eqARs : List AR → List AR → Bool
 | [], [] => true
 | a :: l, b :: m => eqAR a b && eqARs l m
 | _, _ => false
theorem eqARs_eq : ∀ {a b : List AR}, eqARs a b = true → a = b
 | [], [], _ => rfl
 | a :: l, b :: m, h => by
  rw [eqARs, Bool.and_eq_true] at h
  rw [eqAR_eq h.1, eqARs_eq h.2]
 | [], _ :: _, h => by cases h
 | _ :: _, [], h => by cases h
/-- Does a block lie there? -/
noncomputable def lies (t : Tr AB) : List (Nat × AB) → Bool
 | [] => true
 | (b, x) :: l => (match t.get b with | some y => eqACs y.cells x.cells && Nat.beq y.elem x.elem | none => false) && lies t l
theorem lies_get {t : Tr AB} : ∀ {l : List (Nat × AB)}, lies t l = true → ∀ b x, (b, x) ∈ l → t.get b = some x
 | [], _, b, x, h => by cases h
 | (c, y) :: l, h, b, x, hm => by
  rw [lies, Bool.and_eq_true] at h
  rcases List.mem_cons.1 hm with e | e
  · obtain ⟨rfl, rfl⟩ := Prod.mk.inj e
    have h1 := h.1
    split at h1
    · rename_i z hz
      rw [Bool.and_eq_true, Nat.beq_eq] at h1
      rw [hz]
      obtain ⟨zc, ze⟩ := z
      obtain ⟨xc, xe⟩ := x
      dsimp only at h1
      rw [eqACs_eq h1.1, h1.2]
    · cases h1
  · exact lies_get h.2 b x e
noncomputable def lk : List (Nat × AB) → Nat → Option AB
 | [], _ => none
 | (c, x) :: l, b => if b = c then some x else lk l b
noncomputable def putAll : List (Nat × AB) → Tr AB → Tr AB
 | [], t => t
 | (b, x) :: l, t => (putAll l t).set b (some x)
theorem putAll_get (t : Tr AB) (b : Nat) : ∀ l : List (Nat × AB), (putAll l t).get b = match lk l b with | some x => some x | none => t.get b
 | [] => rfl
 | (c, x) :: l => by
  rw [putAll, Tr.get_set, lk]
  by_cases h : b = c
  · rw [if_pos h, if_pos h]
  · rw [if_neg h, if_neg h, putAll_get t b l]
theorem lk_mem {b : Nat} {x : AB} : ∀ {l : List (Nat × AB)}, lk l b = some x → (b, x) ∈ l
 | (c, y) :: l, h => by
  rw [lk] at h
  split at h
  · rename_i e
    subst e
    obtain rfl := Option.some.inj h
    exact List.mem_cons_self
  · exact List.mem_cons_of_mem _ (lk_mem h)
theorem lk_some {b : Nat} : ∀ {l : List (Nat × AB)} {x : AB}, (b, x) ∈ l → ∃ y, lk l b = some y
 | (c, y) :: l, x, h => by
  rw [lk]
  by_cases e : b = c
  · exact ⟨y, if_pos e⟩
  · rw [if_neg e]
    rcases List.mem_cons.1 h with h1 | h1
    · exact absurd (Prod.mk.inj h1).1 e
    · exact lk_some h1
/-- A call that is known: what it reads, and what it leaves. It writes no elder block. -/
structure Memo where
 f : FuncId
 args : List AR
 next : Nat
 pre : List (Nat × AB)
 res : AR
 next' : Nat
 post : List (Nat × AB)
noncomputable def keysIn (lo hi : Nat) : List (Nat × AB) → Bool
 | [] => true
 | (b, _) :: l => Nat.ble lo b && Nat.blt b hi && keysIn lo hi l
theorem keysIn_mem {lo hi : Nat} : ∀ {l : List (Nat × AB)}, keysIn lo hi l = true → ∀ b x, (b, x) ∈ l → lo ≤ b ∧ b < hi
 | [], _, b, x, h => by cases h
 | (c, y) :: l, h, b, x, hm => by
  rw [keysIn, Bool.and_eq_true, Bool.and_eq_true, Nat.ble_eq, Nat.blt_eq] at h
  rcases List.mem_cons.1 hm with e | e
  · obtain ⟨rfl, rfl⟩ := Prod.mk.inj e
    exact h.1
  · exact keysIn_mem h.2 b x e
noncomputable def maskOf : List (Nat × AB) → Nat
 | [] => 0
 | (b, _) :: l => maskOf l ||| 2 ^ b
theorem maskOf_bit {b : Nat} : ∀ {l : List (Nat × AB)}, (maskOf l).testBit b = true → ∃ x, (b, x) ∈ l
 | [], h => by simp [maskOf] at h
 | (c, y) :: l, h => by
  rcases bit_or (show (maskOf l ||| 2 ^ c).testBit b = true from h) with h1 | h1
  · obtain ⟨x, hx⟩ := maskOf_bit h1
    exact ⟨x, List.mem_cons_of_mem _ hx⟩
  · subst h1; exact ⟨y, List.mem_cons_self⟩
theorem maskOf_mem {b : Nat} {x : AB} : ∀ {l : List (Nat × AB)}, (b, x) ∈ l → (maskOf l).testBit b = true
 | (c, y) :: l, h => by
  show (maskOf l ||| 2 ^ c).testBit b = true
  rcases List.mem_cons.1 h with e | e
  · obtain ⟨rfl, rfl⟩ := Prod.mk.inj e
    exact bit_self _ _
  · exact bit_old (maskOf_mem e)
noncomputable def Memo.bounds (m : Memo) : Bool := keysIn 0 m.next m.pre && keysIn m.next m.next' m.post && Nat.ble m.next m.next'
noncomputable def Memo.start (m : Memo) : St := ⟨putAll m.pre .nil, m.next, 0, 0⟩
noncomputable def Memo.checkOf (m : Memo) : Option (AR × St) → Bool
 | none => false
 | some (r, s1) => eqAR r m.res && Nat.beq s1.next m.next' && Nat.beq (s1.wr % 2 ^ m.next) 0 && Nat.beq ((s1.foot % 2 ^ m.next) ||| maskOf m.pre) (maskOf m.pre) && lies s1.mem m.post
noncomputable def Memo.check (P : Program) (nat : CallF) (k n : Nat) (m : Memo) : Bool := m.bounds && m.checkOf (evCallN P nat k n m.f m.args m.start)
/-- What stands behind a known call. -/
noncomputable def Memo.left (m : Memo) (M : Mem) : Mem := fun b => if m.next ≤ b ∧ b < m.next' then lk m.post b else M b
structure Memo.Good (P : Program) (base : Nat) (m : Memo) : Prop where
 body : ∃ fn, P.funcs[m.f]? = some fn ∧ fn.body.isNone = false
 bnd : m.bounds = true
 calls : ∀ (M : Mem) (σ : Nm) (w : World) (vs : List Value), (∀ b x, (b, x) ∈ m.pre → M b = some x) → (∀ b, m.next ≤ b → b < m.next' → M b = none ∧ σ b = none) → MemR base σ M w → argsR σ m.args vs →
  Calls P m.f vs.toArray w fun e w' => ∃ v σ', e = .returned v ∧ Ext σ σ' m.next m.next' ∧ MemR base σ' (m.left M) w' ∧ Below base w w' ∧ (∀ n, n < w.heap.size → ¬ Named M σ n → w'.heap[n]? = w.heap[n]?) ∧ (∀ n, n < w.heap.size → Named (m.left M) σ' n → Named M σ n) ∧ resR σ' m.res v
section
variable {P : Program} {base : Nat} {nat : CallF} {m : Memo}
theorem low_bit {n k b : Nat} (h : Nat.beq (n % 2 ^ k) 0 = true) (hb : b < k) : n.testBit b = false := by
 rw [Nat.beq_eq] at h
 have := congrArg (fun x => Nat.testBit x b) h
 simpa [Nat.testBit_mod_two_pow, hb] using this
/-- What the kernel has seen once. -/
theorem Memo.good (HN : ∀ (f : FuncId) (fn : Func), P.funcs[f]? = some fn → (fn.name == "runtime.NumGoroutine") = false) (hm : P.follows .mixedOrders = true) (hn : CallOK P base nat) {k n : Nat} (h : m.check P nat k n = true) : m.Good P base := by
 unfold Memo.check at h
 rw [Bool.and_eq_true] at h
 obtain ⟨hb, hc⟩ := h
 have hb' := hb
 unfold Memo.bounds at hb'
 rw [Bool.and_eq_true, Bool.and_eq_true, Nat.ble_eq] at hb'
 obtain ⟨⟨hpre, hpost⟩, hle⟩ := hb'
 unfold Memo.checkOf at hc
 split at hc
 · cases hc
 · rename_i r s1 hev
   simp only [Bool.and_eq_true] at hc
   obtain ⟨⟨⟨⟨c1, c2⟩, c3⟩, c4⟩, c5⟩ := hc
   have hr := eqAR_eq c1
   rw [Nat.beq_eq] at c2 c4
   have hwf : WF m.start := ⟨fun b hb2 => by
    show (putAll m.pre .nil).get b = none
    rw [putAll_get]
    cases e : lk m.pre b with
    | none => rfl
    | some x =>
     have := (keysIn_mem hpre b x (lk_mem e)).2
     have : m.next ≤ b := hb2
     omega, fun b hb2 => by simp [Memo.start] at hb2⟩
   obtain ⟨hbody, hmono, hk⟩ := evCallN_ok HN hm hn k n m.f m.args m.start r s1 hev hwf
   refine ⟨hbody, hb, fun M σ w vs hp hf hM ha => ?_⟩
   have hPre : Pre m.start s1 M σ := by
    refine ⟨fun b h1 h2 => ?_, fun b h1 h2 => hf b h1 (by rw [← c2]; exact h2)⟩
    have h1' : b < m.next := h1
    have h3 : (maskOf m.pre).testBit b = true := by
     rw [← c4, Nat.testBit_or, Nat.testBit_mod_two_pow]
     simp [h1', h2]
    obtain ⟨x, hx⟩ := maskOf_bit h3
    obtain ⟨y, hy⟩ := lk_some hx
    show M b = (putAll m.pre .nil).get b
    rw [putAll_get, hy, hp b y (lk_mem hy)]
   refine (hk M σ w vs hPre hM ha).mono fun e w' ⟨v, σ', e1, q, e3⟩ => ?_
   have hsub : ∀ b x, m.left M b = some x → after s1 M b = some x := by
    intro b x hx
    unfold Memo.left at hx
    unfold after
    split at hx
    · rename_i hrange
      rw [if_pos (hmono.made b hrange.1 (by rw [c2]; exact hrange.2))]
      exact lies_get c5 b x (lk_mem hx)
    · rename_i hrange
      rw [if_neg]
      · exact hx
      · intro hw
        by_cases h1 : b < m.next
        · rw [low_bit c3 h1] at hw; cases hw
        · have := (hmono.wf.wr b hw).2
          rw [c2] at this
          exact hrange ⟨by omega, this⟩
   refine ⟨v, σ', e1, ?_, q.mem.sub hsub, q.below, fun n hn hnm => q.keep n hn hnm (fun x => x), fun n hn ⟨b, S, q1, q2⟩ => ?_, by rw [← hr]; exact e3⟩
   · have := q.ext
     rw [c2] at this
     exact this
   · refine (q.src n hn ⟨b, S, ?_, q2⟩).elim (fun x => x) False.elim
     cases hx : m.left M b with
     | none => exact absurd hx q1
     | some x => rw [hsub b x hx]; simp
noncomputable def rangeMask (lo hi : Nat) : Nat := (2 ^ (hi - lo) - 1) <<< lo
theorem rangeMask_bit (lo hi b : Nat) : (rangeMask lo hi).testBit b = true ↔ lo ≤ b ∧ b < hi := by
 unfold rangeMask
 rw [Nat.testBit_shiftLeft, Nat.testBit_two_pow_sub_one]
 simp
 omega
noncomputable def Memo.use (m : Memo) (s : St) : St := { mem := putAll m.post s.mem, next := m.next', foot := s.foot ||| (maskOf m.pre ||| rangeMask m.next m.next'), wr := s.wr ||| rangeMask m.next m.next' }
noncomputable def memoF : List Memo → CallF
 | [], _, _, _ => none
 | m :: ms, f, args, s => bif Nat.beq f m.f && Nat.beq s.next m.next && eqARs args m.args && lies s.mem m.pre then some (m.res, m.use s) else memoF ms f args s
theorem memoF_ok : ∀ {ms : List Memo}, (∀ m ∈ ms, m.Good P base) → CallOK P base (memoF ms)
 | [], _, f, args, s, r, s', h, _ => by cases h
 | m :: ms, hg, f, args, s, r, s', h, hw => by
  rw [memoF, Bool.cond_eq_ite] at h
  split at h
  · rename_i hc
    simp only [Bool.and_eq_true, Nat.beq_eq] at hc
    obtain ⟨⟨⟨c1, c2⟩, c3⟩, c4⟩ := hc
    subst c1
    have c3 := eqARs_eq c3
    subst c3
    simp only [Option.some.injEq, Prod.mk.injEq] at h
    obtain ⟨rfl, rfl⟩ := h
    have hm := hg m List.mem_cons_self
    have hb' := hm.bnd
    unfold Memo.bounds at hb'
    rw [Bool.and_eq_true, Bool.and_eq_true, Nat.ble_eq] at hb'
    obtain ⟨⟨hpre, hpost⟩, hle⟩ := hb'
    have hfoot : ∀ b, (m.use s).foot.testBit b = true ↔ s.foot.testBit b = true ∨ (maskOf m.pre).testBit b = true ∨ (m.next ≤ b ∧ b < m.next') := fun b => by
     show (s.foot ||| (maskOf m.pre ||| rangeMask m.next m.next')).testBit b = true ↔ _
     rw [Nat.testBit_or, Nat.testBit_or, Bool.or_eq_true, Bool.or_eq_true, rangeMask_bit]
    have hwr : ∀ b, (m.use s).wr.testBit b = true ↔ s.wr.testBit b = true ∨ (m.next ≤ b ∧ b < m.next') := fun b => by
     show (s.wr ||| rangeMask m.next m.next').testBit b = true ↔ _
     rw [Nat.testBit_or, Bool.or_eq_true, rangeMask_bit]
    have hget : ∀ b, ¬ (m.next ≤ b ∧ b < m.next') → (m.use s).mem.get b = s.mem.get b := fun b hb => by
     show (putAll m.post s.mem).get b = _
     rw [putAll_get]
     cases e : lk m.post b with
     | none => rfl
     | some x => exact absurd (keysIn_mem hpost b x (lk_mem e)) hb
    have hmono : Mono s (m.use s) := by
     refine ⟨by rw [c2]; exact hle, fun b e => (hfoot b).2 (.inl e), fun b e => (hwr b).2 (.inl e), fun b e => hget b (fun hr => by rw [(hwr b).2 (.inr hr)] at e; cases e), fun b h1 h2 => (hwr b).2 (.inr ⟨by omega, h2⟩), ⟨fun b hb => ?_, fun b hb => ?_⟩⟩
     · have hb1 : m.next' ≤ b := hb
       rw [hget b (by omega)]
       exact hw.free b (by omega)
     · rcases (hwr b).1 hb with h1 | h1
       · exact ⟨(hfoot b).2 (.inl (hw.wr b h1).1), by have := (hw.wr b h1).2; show b < m.next'; omega⟩
       · exact ⟨(hfoot b).2 (.inr (.inr h1)), h1.2⟩
    refine ⟨hm.body, hmono, fun M σ w vs hp hM ha => ?_⟩
    have hleft : after (m.use s) M = m.left M := by
     funext b
     unfold after Memo.left
     by_cases hr : m.next ≤ b ∧ b < m.next'
     · rw [if_pos ((hwr b).2 (.inr hr)), if_pos hr]
       show (putAll m.post s.mem).get b = _
       rw [putAll_get]
       cases e : lk m.post b with
       | none => exact hw.free b (by omega)
       | some x => rfl
     · rw [if_neg hr]
       by_cases h1 : s.wr.testBit b = true
       · rw [if_pos ((hwr b).2 (.inl h1)), hget b hr]
         exact (hp.1 b (hw.wr b h1).2 ((hfoot b).2 (.inl (hw.wr b h1).1))).symm
       · rw [if_neg (fun e => ((hwr b).1 e).elim h1 hr)]
    refine (hm.calls M σ w vs (fun b x hx => ?_) (fun b h1 h2 => hp.2 b (by omega) h2) hM ha).mono fun e w' ⟨v, σ', e1, e2, e3, e4, e5, e6, e7⟩ => ?_
    · rw [hp.1 b (by have := (keysIn_mem hpre b x hx).2; omega) ((hfoot b).2 (.inr (.inl (maskOf_mem hx))))]
      exact lies_get c4 b x hx
    · exact ⟨v, σ', e1, ⟨by rw [c2]; exact e2, by rw [hleft]; exact e3, e4, fun n h1 h2 _ => e5 n h1 h2, fun n h1 h2 => .inl (e6 n h1 (by rw [hleft] at h2; exact h2))⟩, e7⟩
  · exact memoF_ok (fun m' hm' => hg m' (List.mem_cons_of_mem _ hm')) f args s r s' h hw
theorem noneF_ok : CallOK P base (fun _ _ _ => none) := fun f args s r s' h _ => by cases h
end
end Go.Proofs.YtgalkkolbobmbaaGreat.Abs
