/- The evaluator's soundness, 10: code and calls. -/
import Derived.Test.YtgalkkolbobmbaaGreatE9
import Derived.LoopN
import Derived.Scope
namespace Go.Proofs.YtgalkkolbobmbaaGreat.Abs
set_option linter.unusedVariables false
set_option linter.unusedSimpArgs false
open Go Go.RowKit
def exOf : Ex → Exit
  | .normal => .normal
  | .exit id => .exit id
  | .ret => .ret
section
variable {P : Program} {base : Nat} {call : CallF}
/-- What a run of code leaves. -/
def CodeOK (P : Program) (base : Nat) (s : St) (fr : Fr) (ex : Ex) (fr' : Fr) (s' : St) (c : Code) : Prop := Mono s s' ∧ ∀ (M : Mem) (σ : Nm) (w : World) (a : Act), Pre s s' M σ → MemR base σ M w → FrR σ fr a → ∀ (Q : Exit → Act → World → Prop), (∀ a' σ' w', Post base s s' M σ w σ' w' → FrR σ' fr' a' → a'.defers = a.defers → Q (exOf ex) a' w') → c.wp P Q a w
theorem asNormal_some {x : Option (Fr × St)} {ex : Ex} {fr : Fr} {s : St} (h : asNormal x = some (ex, fr, s)) : ex = .normal ∧ x = some (fr, s) := by
  unfold asNormal at h
  split at h
  · cases h
  · simp only [Option.some.injEq, Prod.mk.injEq] at h
    obtain ⟨rfl, rfl, rfl⟩ := h
    exact ⟨rfl, rfl⟩
theorem thenCode_some {k : Fr → St → Out} {x : Out} {ex : Ex} {fr : Fr} {s : St} (h : thenCode k x = some (ex, fr, s)) : (∃ fr1 s1, x = some (.normal, fr1, s1) ∧ k fr1 s1 = some (ex, fr, s)) ∨ (x = some (ex, fr, s) ∧ ex ≠ .normal) := by
  unfold thenCode at h
  split at h
  · cases h
  · exact .inl ⟨_, _, rfl, h⟩
  · simp only [Option.some.injEq, Prod.mk.injEq] at h
    obtain ⟨rfl, rfl, rfl⟩ := h
    exact .inr ⟨rfl, by simp⟩
  · simp only [Option.some.injEq, Prod.mk.injEq] at h
    obtain ⟨rfl, rfl, rfl⟩ := h
    exact .inr ⟨rfl, by simp⟩
theorem thenLoop_some {k : Fr → St → Out} {x : Out} {ex : Ex} {fr : Fr} {s : St} (h : thenLoop k x = some (ex, fr, s)) : (∃ fr1 s1, x = some (.normal, fr1, s1) ∧ k fr1 s1 = some (ex, fr, s)) ∨ (x = some (ex, fr, s) ∧ ex ≠ .normal) := by
  unfold thenLoop at h
  split at h
  · cases h
  · exact .inl ⟨_, _, rfl, h⟩
  · simp only [Option.some.injEq, Prod.mk.injEq] at h
    obtain ⟨rfl, rfl, rfl⟩ := h
    exact .inr ⟨rfl, by simp⟩
  · simp only [Option.some.injEq, Prod.mk.injEq] at h
    obtain ⟨rfl, rfl, rfl⟩ := h
    exact .inr ⟨rfl, by simp⟩
theorem then_ne {next : Act → World → Prop} {Q : Exit → Act → World → Prop} {ex : Ex} (h : ex ≠ .normal) {a : Act} {w : World} (hQ : Q (exOf ex) a w) : Exit.then next Q (exOf ex) a w := by
  cases ex with
  | normal => exact absurd rfl h
  | exit id => exact hQ
  | ret => exact hQ
/-- One run behind another one. -/
theorem chain_ok {c : Code} {s s1 s2 : St} {fr fr1 fr2 : Fr} {ex : Ex} {next : (Exit → Act → World → Prop) → Act → World → Prop} (h1 : CodeOK P base s fr .normal fr1 s1 c) (m2 : Mono s1 s2)
    (h2 : ∀ (M : Mem) (σ : Nm) (w : World) (a : Act), Pre s1 s2 M σ → MemR base σ M w → FrR σ fr1 a → ∀ (Q : Exit → Act → World → Prop), (∀ a' σ' w', Post base s1 s2 M σ w σ' w' → FrR σ' fr2 a' → a'.defers = a.defers → Q (exOf ex) a' w') → next Q a w)
    {M : Mem} {σ : Nm} {w : World} {a : Act} (hp : Pre s s2 M σ) (hM : MemR base σ M w) (hf : FrR σ fr a) {Q : Exit → Act → World → Prop} (hQ : ∀ a' σ' w', Post base s s2 M σ w σ' w' → FrR σ' fr2 a' → a'.defers = a.defers → Q (exOf ex) a' w') : c.wp P (Exit.then (next Q) Q) a w :=
  h1.2 M σ w a (hp.first m2) hM hf _ fun a1 σ1 w1 q1 hf1 hd1 => h2 _ σ1 w1 a1 (hp.second h1.1 m2 q1.ext) q1.mem hf1 Q fun a2 σ2 w2 q2 hf2 hd2 => hQ a2 σ2 w2 (q1.trans q2 h1.1 m2) hf2 (hd2.trans hd1)
theorem loop_ok {c : Code} {run : Fr → St → Out} (hc : ∀ {fr s ex fr' s'}, run fr s = some (ex, fr', s') → WF s → CodeOK P base s fr ex fr' s' c) : ∀ (k : Nat) {fr s ex fr' s'}, evLoop run k fr s = some (ex, fr', s') → WF s →
    Mono s s' ∧ ∀ (M : Mem) (σ : Nm) (w : World) (a : Act), Pre s s' M σ → MemR base σ M w → FrR σ fr a → ∀ (Q : Exit → Act → World → Prop), (∀ a' σ' w', Post base s s' M σ w σ' w' → FrR σ' fr' a' → a'.defers = a.defers → Q (exOf ex) a' w') → Code.rounds P c Q k a w
  | 0, fr, s, ex, fr', s', h, _ => by cases h
  | k + 1, fr, s, ex, fr', s', h, hw => by
    have h' : thenLoop (evLoop run k) (run fr s) = some (ex, fr', s') := h
    rcases thenLoop_some h' with ⟨fr1, s1, e1, e2⟩ | ⟨e1, hne⟩
    · have h1 := hc e1 hw
      obtain ⟨m2, k2⟩ := loop_ok hc k e2 h1.1.wf
      exact ⟨h1.1.trans m2, fun M σ w a hp hM hf Q hQ => chain_ok (next := fun Q => Code.rounds P c Q k) h1 m2 k2 hp hM hf hQ⟩
    · have h1 := hc e1 hw
      exact ⟨h1.1, fun M σ w a hp hM hf Q hQ => h1.2 M σ w a hp hM hf _ fun a' σ' w' q hf' hd => then_ne hne (hQ a' σ' w' q hf' hd)⟩
theorem evCode_ok (HN : ∀ (f : FuncId) (fn : Func), P.funcs[f]? = some fn → (fn.name == "runtime.NumGoroutine") = false) (hm : P.follows .mixedOrders = true) (hcall : CallOK P base call) (k : Nat) (c : Code) :
    ∀ {fr s ex fr' s'}, evCode P call k c fr s = some (ex, fr', s') → WF s → CodeOK P base s fr ex fr' s' c := by
  induction c with
  | skip =>
    intro fr s ex fr' s' h hw
    have h' : some (Ex.normal, fr, s) = some (ex, fr', s') := h
    simp only [Option.some.injEq, Prod.mk.injEq] at h'
    obtain ⟨rfl, rfl, rfl⟩ := h'
    exact ⟨Mono.refl hw, fun M σ w a hp hM hf Q hQ => wp_skip (hQ a σ w (Post.quiet hp hw rfl rfl (fun _ h => h) hM) hf rfl)⟩
  | region id ops draw =>
    intro fr s ex fr' s' h hw
    have h' : asNormal (evRegion P call ops draw fr s) = some (ex, fr', s') := h
    obtain ⟨rfl, h2⟩ := asNormal_some h'
    cases draw with
    | true => exact evDraw_ok HN hm hcall h2 hw
    | false =>
      have h3 : evOps P call ops ops.toList fr s = some (fr', s') := h2
      obtain ⟨m, k⟩ := evOps_ok HN hcall ops.toList h3 hw
      exact ⟨m, fun M σ w a hp hM hf Q hQ => wp_region_list (k M σ w a hp hM hf Q hQ)⟩
  | seq x y ihx ihy =>
    intro fr s ex fr' s' h hw
    have h' : thenCode (evCode P call k y) (evCode P call k x fr s) = some (ex, fr', s') := h
    rcases thenCode_some h' with ⟨fr1, s1, e1, e2⟩ | ⟨e1, hne⟩
    · have h1 := ihx e1 hw
      obtain ⟨m2, k2⟩ := ihy e2 h1.1.wf
      exact ⟨h1.1.trans m2, fun M σ w a hp hM hf Q hQ => wp_seq (chain_ok (next := fun Q => y.wp P Q) h1 m2 k2 hp hM hf hQ)⟩
    · have h1 := ihx e1 hw
      exact ⟨h1.1, fun M σ w a hp hM hf Q hQ => wp_seq (h1.2 M σ w a hp hM hf _ fun a' σ' w' q hf' hd => then_ne hne (hQ a' σ' w' q hf' hd))⟩
  | cond c x y ihx ihy =>
    intro fr s ex fr' s' h hw
    have h' : onBool (fr.bool c) (evCode P call k x) (evCode P call k y) fr s = some (ex, fr', s') := h
    unfold onBool at h'
    split at h'
    · cases h'
    · rename_i hb
      have h1 := ihx h' hw
      exact ⟨h1.1, fun M σ w a hp hM hf Q hQ => wp_cond_true (hf.bool hb) (h1.2 M σ w a hp hM hf Q hQ)⟩
    · rename_i hb
      have h1 := ihy h' hw
      exact ⟨h1.1, fun M σ w a hp hM hf Q hQ => wp_cond_false (hf.bool hb) (h1.2 M σ w a hp hM hf Q hQ)⟩
  | block id c ih =>
    intro fr s ex fr' s' h hw
    have h' : outOf id (evCode P call k c fr s) = some (ex, fr', s') := h
    unfold outOf at h'
    split at h'
    · cases h'
    · rename_i fr1 s1 e1
      simp only [Option.some.injEq, Prod.mk.injEq] at h'
      obtain ⟨rfl, rfl, rfl⟩ := h'
      have h1 := ih e1 hw
      exact ⟨h1.1, fun M σ w a hp hM hf Q hQ => wp_block (h1.2 M σ w a hp hM hf _ fun a' σ' w' q hf' hd => hQ a' σ' w' q hf' hd)⟩
    · rename_i i fr1 s1 e1
      have h1 := ih e1 hw
      rw [Bool.cond_eq_ite] at h'
      split at h'
      · rename_i hi
        have hi' : i = id := by simpa [Nat.beq_eq] using hi
        simp only [Option.some.injEq, Prod.mk.injEq] at h'
        obtain ⟨rfl, rfl, rfl⟩ := h'
        exact ⟨h1.1, fun M σ w a hp hM hf Q hQ => wp_block (h1.2 M σ w a hp hM hf _ fun a' σ' w' q hf' hd => by
          show (if i = id then Q .normal a' w' else Q (.exit i) a' w')
          rw [if_pos hi']
          exact hQ a' σ' w' q hf' hd)⟩
      · rename_i hi
        have hi' : ¬ i = id := by simpa [Nat.beq_eq] using hi
        simp only [Option.some.injEq, Prod.mk.injEq] at h'
        obtain ⟨rfl, rfl, rfl⟩ := h'
        exact ⟨h1.1, fun M σ w a hp hM hf Q hQ => wp_block (h1.2 M σ w a hp hM hf _ fun a' σ' w' q hf' hd => by
          show (if i = id then Q .normal a' w' else Q (.exit i) a' w')
          rw [if_neg hi']
          exact hQ a' σ' w' q hf' hd)⟩
    · rename_i fr1 s1 e1
      simp only [Option.some.injEq, Prod.mk.injEq] at h'
      obtain ⟨rfl, rfl, rfl⟩ := h'
      have h1 := ih e1 hw
      exact ⟨h1.1, fun M σ w a hp hM hf Q hQ => wp_block (h1.2 M σ w a hp hM hf _ fun a' σ' w' q hf' hd => hQ a' σ' w' q hf' hd)⟩
  | loop c ih =>
    intro fr s ex fr' s' h hw
    have h' : evLoop (evCode P call k c) k fr s = some (ex, fr', s') := h
    obtain ⟨m, k2⟩ := loop_ok (fun h hw => ih h hw) k h' hw
    exact ⟨m, fun M σ w a hp hM hf Q hQ => wp_loop_rounds k (k2 M σ w a hp hM hf Q hQ)⟩
  | rangeFunc f ps x y ihx ihy => intro fr s ex fr' s' h hw; cases h
  | exit id =>
    intro fr s ex fr' s' h hw
    have h' : some (Ex.exit id, fr, s) = some (ex, fr', s') := h
    simp only [Option.some.injEq, Prod.mk.injEq] at h'
    obtain ⟨rfl, rfl, rfl⟩ := h'
    exact ⟨Mono.refl hw, fun M σ w a hp hM hf Q hQ => wp_exit (hQ a σ w (Post.quiet hp hw rfl rfl (fun _ h => h) hM) hf rfl)⟩
  | scope c ih =>
    intro fr s ex fr' s' h hw
    have h' : evCode P call k c fr s = some (ex, fr', s') := h
    have h1 := ih h' hw
    refine ⟨h1.1, fun M σ w a hp hM hf Q hQ => wp_scope_straight (h1.2 M σ w a hp hM hf _ fun a' σ' w' q hf' hd => ?_)⟩
    have := hQ a' σ' w' q hf' hd
    cases ex <;> exact this
  | label l =>
    intro fr s ex fr' s' h hw
    have h' : some (Ex.normal, fr, s) = some (ex, fr', s') := h
    simp only [Option.some.injEq, Prod.mk.injEq] at h'
    obtain ⟨rfl, rfl, rfl⟩ := h'
    exact ⟨Mono.refl hw, fun M σ w a hp hM hf Q hQ => wp_label (hQ a σ w (Post.quiet hp hw rfl rfl (fun _ h => h) hM) hf rfl)⟩
  | goto l => intro fr s ex fr' s' h hw; cases h
  | ret =>
    intro fr s ex fr' s' h hw
    have h' : some (Ex.ret, fr, s) = some (ex, fr', s') := h
    simp only [Option.some.injEq, Prod.mk.injEq] at h'
    obtain ⟨rfl, rfl, rfl⟩ := h'
    exact ⟨Mono.refl hw, fun M σ w a hp hM hf Q hQ => wp_ret (hQ a σ w (Post.quiet hp hw rfl rfl (fun _ h => h) hM) hf rfl)⟩
  | refuse why => intro fr s ex fr' s' h hw; cases h
noncomputable def resOne (tmps : Array Value) : ResultVar → Sem Value
  | .tmp t => pure (tmps.getD t Go.undef)
  | .cell a t => do loadVar t (← asAddr (tmps.getD a Go.undef))
theorem results_eq (fn : Func) (tmps : Array Value) : results fn tmps = (do let vs ← fn.results.mapM (resOne tmps); pure (if h : vs.size = 1 then vs[0] else .tuple vs)) := by
  unfold results
  refine congrArg (fun g : ResultVar → Sem Value => (do let vs ← fn.results.mapM g; pure (if h : vs.size = 1 then vs[0] else .tuple vs) : Sem Value)) ?_
  funext x
  cases x <;> rfl
/-- What a function gives back. -/
theorem evResults_ok {fr : Fr} : ∀ {rs : List ResultVar} {s s' : St} {vs : List AV}, evResults P fr rs s = some (vs, s') → WF s →
    Mono s s' ∧ s'.mem = s.mem ∧ s'.wr = s.wr ∧ s'.next = s.next ∧ ∀ (M : Mem) (σ : Nm) (w : World) (tmps : Array Value), (∀ b, b < s.next → s'.foot.testBit b = true → M b = s.mem.get b) → MemR base σ M w → (∀ t, resR σ (fr.get t) (tmps.getD t Go.undef)) →
      ∃ us : List Value, (rs.mapM (resOne tmps)).run P w = .ok us w ∧ valsR σ vs us
  | [], s, s', vs, h, hw => by
    simp only [evResults, Option.some.injEq, Prod.mk.injEq] at h
    obtain ⟨rfl, rfl⟩ := h
    exact ⟨Mono.refl hw, rfl, rfl, rfl, fun M σ w tmps _ _ _ => ⟨[], by simp, trivial⟩⟩
  | .tmp t :: rest, s, s', vs, h, hw => by
    simp only [evResults] at h
    split at h
    · rename_i v vs1 s1 hv h1
      simp only [Option.some.injEq, Prod.mk.injEq] at h
      obtain ⟨rfl, rfl⟩ := h
      obtain ⟨m, e1, e2, e3, k⟩ := evResults_ok h1 hw
      refine ⟨m, e1, e2, e3, fun M σ w tmps hM0 hM hf => ?_⟩
      obtain ⟨us, g1, g2⟩ := k M σ w tmps hM0 hM hf
      have hr := hf t
      rw [hv] at hr
      exact ⟨tmps.getD t Go.undef :: us, by simp only [List.mapM_cons, resOne, Sem.run_bind, Sem.run_pure, Result.andThen_ok, g1], hr, g2⟩
    · cases h
  | .cell c t :: rest, s, s', vs, h, hw => by
    simp only [evResults] at h
    split at h
    · rename_i b off hc
      split at h
      · rename_i v vs1 s1 hv h1
        simp only [Option.some.injEq, Prod.mk.injEq] at h
        obtain ⟨rfl, rfl⟩ := h
        have hml := Mono.look hw b
        obtain ⟨m, e1, e2, e3, k⟩ := evResults_ok h1 hml.wf
        refine ⟨hml.trans m, e1, e2, e3, fun M σ w tmps hM0 hM hf => ?_⟩
        obtain ⟨us, g1, g2⟩ := k M σ w tmps hM0 hM hf
        obtain ⟨x, hx⟩ := load_mem hv
        have hMb : M b = s.mem.get b := hM0 b (hw.lt hx) (m.foot b (bit_self _ _))
        obtain ⟨n, S, q1, u, q2, q3⟩ := run_evLoad hv hMb hM
        have hr := hf c
        rw [Option.some.inj (oneOf_some hc)] at hr
        obtain ⟨n', S', q1', he⟩ := (oneR_inv hr).1
        rw [q1] at q1'
        obtain ⟨rfl, rfl⟩ := Prod.mk.inj (Option.some.inj q1')
        exact ⟨u :: us, by simp only [List.mapM_cons, resOne, Sem.run_bind, he, asAddr, Sem.run_pure, Result.andThen_ok, q2, g1], q3, g2⟩
      · cases h
    · cases h
theorem frameOf_get : ∀ (rs : List AR) (i : Nat) (t : Tr AR) (j : Nat), (frameOf rs i t).get j = if i ≤ j ∧ j < i + rs.length then rs[j - i]? else t.get j
  | [], i, t, j => by rw [frameOf, if_neg (by simp)]
  | r :: rs, i, t, j => by
    rw [frameOf, frameOf_get rs (i + 1), Tr.get_set]
    by_cases h1 : j = i
    · subst h1
      rw [if_neg (by omega), if_pos rfl, if_pos (by simp), Nat.sub_self, List.getElem?_cons_zero]
    · by_cases h2 : i + 1 ≤ j ∧ j < i + 1 + rs.length
      · rw [if_pos h2, if_pos (by simp; omega), show j - i = (j - (i + 1)) + 1 by omega, List.getElem?_cons_succ]
      · rw [if_neg h2, if_neg h1, if_neg (by simp; omega)]
theorem argsR_get {σ : Nm} : ∀ {cs : List AR} {vs : List Value}, argsR σ cs vs → ∀ {i : Nat} {c : AR}, cs[i]? = some c → ∃ v, vs[i]? = some v ∧ resR σ c v
  | [], [], _, i, c, h => by simp at h
  | c :: cs, v :: vs, ⟨a, b⟩, 0, c', h => ⟨v, rfl, by simp at h; subst h; exact a⟩
  | c :: cs, v :: vs, ⟨a, b⟩, i + 1, c', h => by
    obtain ⟨u, h1, h2⟩ := argsR_get b (i := i) (by simpa using h)
    exact ⟨u, by simpa using h1, h2⟩
  | [], _ :: _, e, _, _, _ => e.elim
  | _ :: _, [], e, _, _, _ => e.elim
theorem start_ok {σ : Nm} {args : List AR} {vs : List Value} {n : Nat} (h : argsR σ args vs) (hn : args.length ≤ n) : FrR σ ⟨frameOf args 0 .nil, n⟩ { tmps := vs.toArray ++ Array.replicate (n - vs.toArray.size) Go.undef, defers := [] } := by
  have hl := argsR_length h
  refine ⟨by simp; omega, fun t => ?_⟩
  have hg : (Fr.mk (frameOf args 0 .nil) n).get t = match (if t < args.length then args[t]? else none) with | some r => r | none => .undef := by
    show (match (frameOf args 0 .nil).get t with | some r => r | none => AR.undef) = _
    rw [frameOf_get]
    by_cases ht : t < args.length
    · rw [if_pos ⟨Nat.zero_le _, by omega⟩, if_pos ht, Nat.sub_zero]
    · rw [if_neg (by omega), if_neg ht]
      rfl
  rw [hg]
  by_cases ht : t < args.length
  · rw [if_pos ht, List.getElem?_eq_getElem ht]
    obtain ⟨v, h1, h2⟩ := argsR_get h (List.getElem?_eq_getElem ht)
    have : (vs.toArray ++ Array.replicate (n - vs.toArray.size) Go.undef).getD t Go.undef = v := by
      rw [Array.getD_eq_getD_getElem?, Array.getElem?_append_left (by simp; omega)]
      simp [h1]
    rw [this]
    exact h2
  · rw [if_neg ht]
    have : (vs.toArray ++ Array.replicate (n - vs.toArray.size) Go.undef).getD t Go.undef = Go.undef := by
      rw [Array.getD_eq_getD_getElem?, Array.getElem?_append_right (by simp; omega), Array.getElem?_replicate]
      split <;> rfl
    rw [this]
    exact undefR _
theorem joined_ok {σ : Nm} {vs : List AV} {us : List Value} (h : valsR σ vs us) : resR σ (joined vs) (if h : us.toArray.size = 1 then us.toArray[0] else .tuple us.toArray) := by
  match vs, us, h with
  | [], [], _ => exact ⟨[], rfl, trivial⟩
  | [a], [u], h => exact h.1
  | a :: b :: vs, u :: v :: us, h => exact ⟨u :: v :: us, by simp, h⟩
/-- One call, out of those that it makes. -/
theorem evBody_ok (HN : ∀ (f : FuncId) (fn : Func), P.funcs[f]? = some fn → (fn.name == "runtime.NumGoroutine") = false) (hm : P.follows .mixedOrders = true) (hcall : CallOK P base call) (k : Nat) {f : FuncId} {args : List AR} {s s' : St} {r : AR} (h' : evBody P k call args s P.funcs[f]? = some (r, s')) (hw : WF s) :
    (∃ fn, P.funcs[f]? = some fn ∧ fn.body.isNone = false) ∧ Mono s s' ∧ ∀ (M : Mem) (σ : Nm) (w : World) (vs : List Value), Pre s s' M σ → MemR base σ M w → argsR σ args vs → Calls P f vs.toArray w fun e w' => ∃ v σ', e = .returned v ∧ Post base s s' M σ w σ' w' ∧ resR σ' r v := by
  unfold evBody at h'
  split at h'
  · cases h'
  · rename_i fn hfn
    split at h'
    · cases h'
    · rename_i c hc
      rw [Bool.cond_eq_ite] at h'
      split at h'
      · rename_i hle
        have hle' : args.length ≤ fn.ntmps := by simpa [Nat.ble_eq] using hle
        have key : ∀ (ex : Ex) (fr : Fr) (s1 : St) (vs : List AV), exOf ex = .normal ∨ exOf ex = .ret → evCode P call k c ⟨frameOf args 0 .nil, fn.ntmps⟩ s = some (ex, fr, s1) → evResults P fr fn.results.toList s1 = some (vs, s') → r = joined vs →
            (∃ fn, P.funcs[f]? = some fn ∧ fn.body.isNone = false) ∧ Mono s s' ∧ ∀ (M : Mem) (σ : Nm) (w : World) (vs : List Value), Pre s s' M σ → MemR base σ M w → argsR σ args vs → Calls P f vs.toArray w fun e w' => ∃ v σ', e = .returned v ∧ Post base s s' M σ w σ' w' ∧ resR σ' r v := by
          intro ex fr s1 vs hex h1 h2 hr
          obtain ⟨m1, k1⟩ := evCode_ok HN hm hcall k c h1 hw
          obtain ⟨m2, e1, e2, e3, k2⟩ := evResults_ok (base := base) h2 m1.wf
          refine ⟨⟨fn, hfn, by rw [hc]; rfl⟩, m1.trans m2, fun M σ w args' hp hM ha => ?_⟩
          refine calls_of_wp hfn hc (k1 M σ w _ (hp.first m2) hM (start_ok ha hle') _ fun a' σ1 w1 q1 hf1 hd1 => ?_)
          have hp2 := hp.second m1 m2 q1.ext
          obtain ⟨us, g1, g2⟩ := k2 _ σ1 w1 a'.tmps (fun b h3 h4 => hp2.1 b h3 h4) q1.mem (fun t => hf1.get t)
          have q2 : Post base s1 s' (after s1 M) σ1 w1 σ1 w1 := Post.quiet hp2 m1.wf e1 e2 (fun b hb => m2.foot b hb) q1.mem
          have hres : (results fn a'.tmps).run P w1 = .ok (if h : us.toArray.size = 1 then us.toArray[0] else .tuple us.toArray) w1 := by
            rw [results_eq, Array.mapM_eq_mapM_toList]
            simp only [Sem.run_bind, Sem.run_map, g1, Result.andThen_ok, Sem.run_pure]
          have hfin : a'.defers = [] ∧ ∃ v, (results fn a'.tmps).run P w1 = .ok v w1 ∧ ∃ v' σ', Ending.returned v = .returned v' ∧ Post base s s' M σ w σ' w1 ∧ resR σ' r v' := ⟨hd1, _, hres, _, σ1, rfl, q1.trans q2 m1 m2, by rw [hr]; exact joined_ok g2⟩
          rcases hex with hx | hx <;> (rw [hx]; exact hfin)
        unfold finish at h'
        split at h'
        · cases h'
        · cases h'
        · rename_i ex fr s1 hne h1
          split at h'
          · rename_i vs s2 h2
            simp only [Option.some.injEq, Prod.mk.injEq] at h'
            obtain ⟨rfl, rfl⟩ := h'
            refine key ex fr s1 vs ?_ h1 h2 rfl
            cases ex with
            | normal => exact .inl rfl
            | ret => exact .inr rfl
            | exit id => exact (hne id rfl).elim
          · cases h'
      · cases h'
/-- Every call. -/
theorem evCall_ok (HN : ∀ (f : FuncId) (fn : Func), P.funcs[f]? = some fn → (fn.name == "runtime.NumGoroutine") = false) (hm : P.follows .mixedOrders = true) (k : Nat) : ∀ n, CallOK P base (evCall P k n)
  | 0 => fun f args s r s' h _ => by cases h
  | n + 1 => fun f args s r s' h hw => evBody_ok HN hm (evCall_ok HN hm k n) k (h : evBody P k (evCall P k n) args s P.funcs[f]? = some (r, s')) hw
/-- Calls, of which some are known otherwise. -/
noncomputable def orElseA (x : Option (AR × St)) (y : Option (AR × St)) : Option (AR × St) := match x with
  | some r => some r
  | none => y
noncomputable def evCallN (P : Program) (nat : CallF) (k : Nat) (n : Nat) : CallF :=
  Nat.rec (motive := fun _ => CallF) (fun _ _ _ => none) (fun _ ih f args s => orElseA (nat f args s) (evBody P k ih args s P.funcs[f]?)) n
theorem evCallN_ok (HN : ∀ (f : FuncId) (fn : Func), P.funcs[f]? = some fn → (fn.name == "runtime.NumGoroutine") = false) (hm : P.follows .mixedOrders = true) {nat : CallF} (hn : CallOK P base nat) (k : Nat) : ∀ n, CallOK P base (evCallN P nat k n)
  | 0 => fun f args s r s' h _ => by cases h
  | n + 1 => fun f args s r s' h hw => by
    have h' : orElseA (nat f args s) (evBody P k (evCallN P nat k n) args s P.funcs[f]?) = some (r, s') := h
    unfold orElseA at h'
    split at h'
    · rename_i x hx
      obtain rfl := Option.some.inj h'
      exact hn f args s r s' hx hw
    · exact evBody_ok HN hm (evCallN_ok HN hm hn k n) k h' hw
#print axioms evCallN_ok
#print axioms evCall_ok
end
end Go.Proofs.YtgalkkolbobmbaaGreat.Abs
