/- The evaluator: calls that are known from elsewhere (memos): so that the kernel's work is done in parts. -/
import Derived.Test.YtgalkkolbobmbaaGreatEA
namespace Go.Proofs.YtgalkkolbobmbaaGreat.Abs
set_option linter.unusedVariables false
set_option linter.unusedSimpArgs false
open Go Go.RowKit
/-! Equality, told by the kernel. -/
noncomputable def eqVal : Value → Value → Bool
  | .int k m, .int k' n => decide (k = k') && decide (m = n)
  | .bool a, .bool b => a == b
  | .string a, .string b => bytesEq a.data.toList b.data.toList
  | .pointer none, .pointer none => true
  | .slice none n c, .slice none n' c' => Nat.beq n n' && Nat.beq c c'
  | .nilFunc, .nilFunc => true
  | .nilIface, .nilIface => true
  | _, _ => false
theorem eqVal_eq {a b : Value} (h : eqVal a b = true) : a = b := by
  unfold eqVal at h
  split at h
  · rw [Bool.and_eq_true] at h
    rw [of_decide_eq_true h.1, of_decide_eq_true h.2]
  · rw [beq_iff_eq] at h; rw [h]
  · rw [bytesEq_iff, beq_iff_eq] at h
    congr 1
    rename_i a b
    obtain ⟨⟨a⟩⟩ := a
    obtain ⟨⟨b⟩⟩ := b
    have : a = b := h
    rw [this]
  · rfl
  · rw [Bool.and_eq_true, Nat.beq_eq, Nat.beq_eq] at h; rw [h.1, h.2]
  · rfl
  · rfl
  · cases h
noncomputable def eqPairs : List (Nat × Nat) → List (Nat × Nat) → Bool
  | [], [] => true
  | (a, b) :: l, (c, d) :: m => Nat.beq a c && Nat.beq b d && eqPairs l m
  | _, _ => false
theorem eqPairs_eq : ∀ {a b : List (Nat × Nat)}, eqPairs a b = true → a = b
  | [], [], _ => rfl
  | (a, b) :: l, (c, d) :: m, h => by
    simp only [eqPairs, Bool.and_eq_true, Nat.beq_eq] at h
    rw [h.1.1, h.1.2, eqPairs_eq h.2]
  | [], (_, _) :: _, h => by cases h
  | (_, _) :: _, [], h => by cases h
noncomputable def eqOpt : Option Nat → Option Nat → Bool
  | none, none => true
  | some a, some b => Nat.beq a b
  | _, _ => false
theorem eqOpt_eq {a b : Option Nat} (h : eqOpt a b = true) : a = b := by
  unfold eqOpt at h
  split at h
  · rfl
  · rw [Nat.beq_eq] at h; rw [h]
  · cases h
noncomputable def eqAC : AC → AC → Bool
  | .lit v, .lit u => eqVal v u
  | .ptr b o, .ptr b' o' => Nat.beq b b' && Nat.beq o o'
  | .sl b o n w, .sl b' o' n' w' => Nat.beq b b' && Nat.beq o o' && Nat.beq n n' && eqOpt w w'
  | .clo f c, .clo f' c' => Nat.beq f f' && eqPairs c c'
  | .opq, .opq => true
  | _, _ => false
theorem eqAC_eq {a b : AC} (h : eqAC a b = true) : a = b := by
  unfold eqAC at h
  split at h
  · rw [eqVal_eq h]
  · rw [Bool.and_eq_true, Nat.beq_eq, Nat.beq_eq] at h; rw [h.1, h.2]
  · rw [Bool.and_eq_true, Bool.and_eq_true, Bool.and_eq_true, Nat.beq_eq, Nat.beq_eq, Nat.beq_eq] at h; rw [h.1.1.1, h.1.1.2, h.1.2, eqOpt_eq h.2]
  · rw [Bool.and_eq_true, Nat.beq_eq] at h; rw [h.1, eqPairs_eq h.2]
  · rfl
  · cases h
noncomputable def eqACs : List AC → List AC → Bool
  | [], [] => true
  | a :: l, b :: m => eqAC a b && eqACs l m
  | _, _ => false
theorem eqACs_eq : ∀ {a b : List AC}, eqACs a b = true → a = b
  | [], [], _ => rfl
  | a :: l, b :: m, h => by
    rw [eqACs, Bool.and_eq_true] at h
    rw [eqAC_eq h.1, eqACs_eq h.2]
  | [], _ :: _, h => by cases h
  | _ :: _, [], h => by cases h
noncomputable def eqAV : AV → AV → Bool
  | .one a, .one b => eqAC a b
  | .agg l, .agg m => eqACs l m
  | _, _ => false
theorem eqAV_eq {a b : AV} (h : eqAV a b = true) : a = b := by
  unfold eqAV at h
  split at h
  · rw [eqAC_eq h]
  · rw [eqACs_eq h]
  · cases h
noncomputable def eqAVs : List AV → List AV → Bool
  | [], [] => true
  | a :: l, b :: m => eqAV a b && eqAVs l m
  | _, _ => false
theorem eqAVs_eq : ∀ {a b : List AV}, eqAVs a b = true → a = b
  | [], [], _ => rfl
  | a :: l, b :: m, h => by
    rw [eqAVs, Bool.and_eq_true] at h
    rw [eqAV_eq h.1, eqAVs_eq h.2]
  | [], _ :: _, h => by cases h
  | _ :: _, [], h => by cases h
noncomputable def eqAR : AR → AR → Bool
  | .val a, .val b => eqAV a b
  | .tup l, .tup m => eqAVs l m
  | _, _ => false
theorem eqAR_eq {a b : AR} (h : eqAR a b = true) : a = b := by
  unfold eqAR at h
  split at h
  · rw [eqAV_eq h]
  · rw [eqAVs_eq h]
  · cases h
noncomputable def eqARs : List AR → List AR → Bool
  | [], [] => true
  | a :: l, b :: m => eqAR a b && eqARs l m
  | _, _ => false
theorem eqARs_eq : ∀ {a b : List AR}, eqARs a b = true → a = b
  | [], [], _ => rfl
  | a :: l, b :: m, h => by
    rw [eqARs, Bool.and_eq_true] at h
    rw [eqAR_eq h.1, eqARs_eq h.2]
  | [], _ :: _, h => by cases h
  | _ :: _, [], h => by cases h
/-- Does a block lie there? -/
noncomputable def lies (t : Tr AB) : List (Nat × AB) → Bool
  | [] => true
  | (b, x) :: l => (match t.get b with | some y => eqACs y.cells x.cells && Nat.beq y.elem x.elem | none => false) && lies t l
theorem lies_get {t : Tr AB} : ∀ {l : List (Nat × AB)}, lies t l = true → ∀ b x, (b, x) ∈ l → t.get b = some x
  | [], _, b, x, h => by cases h
  | (c, y) :: l, h, b, x, hm => by
    rw [lies, Bool.and_eq_true] at h
    rcases List.mem_cons.1 hm with e | e
    · obtain ⟨rfl, rfl⟩ := Prod.mk.inj e
      have h1 := h.1
      split at h1
      · rename_i z hz
        rw [Bool.and_eq_true, Nat.beq_eq] at h1
        rw [hz]
        obtain ⟨zc, ze⟩ := z
        obtain ⟨xc, xe⟩ := x
        dsimp only at h1
        rw [eqACs_eq h1.1, h1.2]
      · cases h1
    · exact lies_get h.2 b x e
noncomputable def lk : List (Nat × AB) → Nat → Option AB
  | [], _ => none
  | (c, x) :: l, b => if b = c then some x else lk l b
noncomputable def putAll : List (Nat × AB) → Tr AB → Tr AB
  | [], t => t
  | (b, x) :: l, t => (putAll l t).set b (some x)
theorem putAll_get (t : Tr AB) (b : Nat) : ∀ l : List (Nat × AB), (putAll l t).get b = match lk l b with | some x => some x | none => t.get b
  | [] => rfl
  | (c, x) :: l => by
    rw [putAll, Tr.get_set, lk]
    by_cases h : b = c
    · rw [if_pos h, if_pos h]
    · rw [if_neg h, if_neg h, putAll_get t b l]
theorem lk_mem {b : Nat} {x : AB} : ∀ {l : List (Nat × AB)}, lk l b = some x → (b, x) ∈ l
  | (c, y) :: l, h => by
    rw [lk] at h
    split at h
    · rename_i e
      subst e
      obtain rfl := Option.some.inj h
      exact List.mem_cons_self
    · exact List.mem_cons_of_mem _ (lk_mem h)
theorem lk_some {b : Nat} : ∀ {l : List (Nat × AB)} {x : AB}, (b, x) ∈ l → ∃ y, lk l b = some y
  | (c, y) :: l, x, h => by
    rw [lk]
    by_cases e : b = c
    · exact ⟨y, if_pos e⟩
    · rw [if_neg e]
      rcases List.mem_cons.1 h with h1 | h1
      · exact absurd (Prod.mk.inj h1).1 e
      · exact lk_some h1
/-- A call that is known: what it reads, and what it leaves. It writes no elder block. -/
structure Memo where
  f : FuncId
  args : List AR
  next : Nat
  pre : List (Nat × AB)
  res : AR
  next' : Nat
  post : List (Nat × AB)
noncomputable def keysIn (lo hi : Nat) : List (Nat × AB) → Bool
  | [] => true
  | (b, _) :: l => Nat.ble lo b && Nat.blt b hi && keysIn lo hi l
theorem keysIn_mem {lo hi : Nat} : ∀ {l : List (Nat × AB)}, keysIn lo hi l = true → ∀ b x, (b, x) ∈ l → lo ≤ b ∧ b < hi
  | [], _, b, x, h => by cases h
  | (c, y) :: l, h, b, x, hm => by
    rw [keysIn, Bool.and_eq_true, Bool.and_eq_true, Nat.ble_eq, Nat.blt_eq] at h
    rcases List.mem_cons.1 hm with e | e
    · obtain ⟨rfl, rfl⟩ := Prod.mk.inj e
      exact h.1
    · exact keysIn_mem h.2 b x e
noncomputable def maskOf : List (Nat × AB) → Nat
  | [] => 0
  | (b, _) :: l => maskOf l ||| 2 ^ b
theorem maskOf_bit {b : Nat} : ∀ {l : List (Nat × AB)}, (maskOf l).testBit b = true → ∃ x, (b, x) ∈ l
  | [], h => by simp [maskOf] at h
  | (c, y) :: l, h => by
    rcases bit_or (show (maskOf l ||| 2 ^ c).testBit b = true from h) with h1 | h1
    · obtain ⟨x, hx⟩ := maskOf_bit h1
      exact ⟨x, List.mem_cons_of_mem _ hx⟩
    · subst h1; exact ⟨y, List.mem_cons_self⟩
theorem maskOf_mem {b : Nat} {x : AB} : ∀ {l : List (Nat × AB)}, (b, x) ∈ l → (maskOf l).testBit b = true
  | (c, y) :: l, h => by
    show (maskOf l ||| 2 ^ c).testBit b = true
    rcases List.mem_cons.1 h with e | e
    · obtain ⟨rfl, rfl⟩ := Prod.mk.inj e
      exact bit_self _ _
    · exact bit_old (maskOf_mem e)
noncomputable def Memo.bounds (m : Memo) : Bool := keysIn 0 m.next m.pre && keysIn m.next m.next' m.post && Nat.ble m.next m.next'
noncomputable def Memo.start (m : Memo) : St := ⟨putAll m.pre .nil, m.next, 0, 0⟩
noncomputable def Memo.checkOf (m : Memo) : Option (AR × St) → Bool
  | none => false
  | some (r, s1) => eqAR r m.res && Nat.beq s1.next m.next' && Nat.beq (s1.wr % 2 ^ m.next) 0 && Nat.beq ((s1.foot % 2 ^ m.next) ||| maskOf m.pre) (maskOf m.pre) && lies s1.mem m.post
noncomputable def Memo.check (P : Program) (nat : CallF) (k n : Nat) (m : Memo) : Bool := m.bounds && m.checkOf (evCallN P nat k n m.f m.args m.start)
/-- What stands behind a known call. -/
noncomputable def Memo.left (m : Memo) (M : Mem) : Mem := fun b => if m.next ≤ b ∧ b < m.next' then lk m.post b else M b
structure Memo.Good (P : Program) (base : Nat) (m : Memo) : Prop where
  body : ∃ fn, P.funcs[m.f]? = some fn ∧ fn.body.isNone = false
  bnd : m.bounds = true
  calls : ∀ (M : Mem) (σ : Nm) (w : World) (vs : List Value), (∀ b x, (b, x) ∈ m.pre → M b = some x) → (∀ b, m.next ≤ b → b < m.next' → M b = none ∧ σ b = none) → MemR base σ M w → argsR σ m.args vs →
    Calls P m.f vs.toArray w fun e w' => ∃ v σ', e = .returned v ∧ Ext σ σ' m.next m.next' ∧ MemR base σ' (m.left M) w' ∧ Below base w w' ∧ (∀ n, n < w.heap.size → ¬ Named M σ n → w'.heap[n]? = w.heap[n]?) ∧ (∀ n, n < w.heap.size → Named (m.left M) σ' n → Named M σ n) ∧ resR σ' m.res v
section
variable {P : Program} {base : Nat} {nat : CallF} {m : Memo}
theorem low_bit {n k b : Nat} (h : Nat.beq (n % 2 ^ k) 0 = true) (hb : b < k) : n.testBit b = false := by
  rw [Nat.beq_eq] at h
  have := congrArg (fun x => Nat.testBit x b) h
  simpa [Nat.testBit_mod_two_pow, hb] using this
/-- What the kernel has seen once. -/
theorem Memo.good (HN : ∀ (f : FuncId) (fn : Func), P.funcs[f]? = some fn → (fn.name == "runtime.NumGoroutine") = false) (hm : P.follows .mixedOrders = true) (hn : CallOK P base nat) {k n : Nat} (h : m.check P nat k n = true) : m.Good P base := by
  unfold Memo.check at h
  rw [Bool.and_eq_true] at h
  obtain ⟨hb, hc⟩ := h
  have hb' := hb
  unfold Memo.bounds at hb'
  rw [Bool.and_eq_true, Bool.and_eq_true, Nat.ble_eq] at hb'
  obtain ⟨⟨hpre, hpost⟩, hle⟩ := hb'
  unfold Memo.checkOf at hc
  split at hc
  · cases hc
  · rename_i r s1 hev
    simp only [Bool.and_eq_true] at hc
    obtain ⟨⟨⟨⟨c1, c2⟩, c3⟩, c4⟩, c5⟩ := hc
    have hr := eqAR_eq c1
    rw [Nat.beq_eq] at c2 c4
    have hwf : WF m.start := ⟨fun b hb2 => by
      show (putAll m.pre .nil).get b = none
      rw [putAll_get]
      cases e : lk m.pre b with
      | none => rfl
      | some x =>
        have := (keysIn_mem hpre b x (lk_mem e)).2
        have : m.next ≤ b := hb2
        omega, fun b hb2 => by simp [Memo.start] at hb2⟩
    obtain ⟨hbody, hmono, hk⟩ := evCallN_ok HN hm hn k n m.f m.args m.start r s1 hev hwf
    refine ⟨hbody, hb, fun M σ w vs hp hf hM ha => ?_⟩
    have hPre : Pre m.start s1 M σ := by
      refine ⟨fun b h1 h2 => ?_, fun b h1 h2 => hf b h1 (by rw [← c2]; exact h2)⟩
      have h1' : b < m.next := h1
      have h3 : (maskOf m.pre).testBit b = true := by
        rw [← c4, Nat.testBit_or, Nat.testBit_mod_two_pow]
        simp [h1', h2]
      obtain ⟨x, hx⟩ := maskOf_bit h3
      obtain ⟨y, hy⟩ := lk_some hx
      show M b = (putAll m.pre .nil).get b
      rw [putAll_get, hy, hp b y (lk_mem hy)]
    refine (hk M σ w vs hPre hM ha).mono fun e w' ⟨v, σ', e1, q, e3⟩ => ?_
    have hsub : ∀ b x, m.left M b = some x → after s1 M b = some x := by
      intro b x hx
      unfold Memo.left at hx
      unfold after
      split at hx
      · rename_i hrange
        rw [if_pos (hmono.made b hrange.1 (by rw [c2]; exact hrange.2))]
        exact lies_get c5 b x (lk_mem hx)
      · rename_i hrange
        rw [if_neg]
        · exact hx
        · intro hw
          by_cases h1 : b < m.next
          · rw [low_bit c3 h1] at hw; cases hw
          · have := (hmono.wf.wr b hw).2
            rw [c2] at this
            exact hrange ⟨by omega, this⟩
    refine ⟨v, σ', e1, ?_, q.mem.sub hsub, q.below, fun n hn hnm => q.keep n hn hnm (fun x => x), fun n hn ⟨b, S, q1, q2⟩ => ?_, by rw [← hr]; exact e3⟩
    · have := q.ext
      rw [c2] at this
      exact this
    · refine (q.src n hn ⟨b, S, ?_, q2⟩).elim (fun x => x) False.elim
      cases hx : m.left M b with
      | none => exact absurd hx q1
      | some x => rw [hsub b x hx]; simp
noncomputable def rangeMask (lo hi : Nat) : Nat := (2 ^ (hi - lo) - 1) <<< lo
theorem rangeMask_bit (lo hi b : Nat) : (rangeMask lo hi).testBit b = true ↔ lo ≤ b ∧ b < hi := by
  unfold rangeMask
  rw [Nat.testBit_shiftLeft, Nat.testBit_two_pow_sub_one]
  simp
  omega
noncomputable def Memo.use (m : Memo) (s : St) : St := { mem := putAll m.post s.mem, next := m.next', foot := s.foot ||| (maskOf m.pre ||| rangeMask m.next m.next'), wr := s.wr ||| rangeMask m.next m.next' }
noncomputable def memoF : List Memo → CallF
  | [], _, _, _ => none
  | m :: ms, f, args, s => bif Nat.beq f m.f && Nat.beq s.next m.next && eqARs args m.args && lies s.mem m.pre then some (m.res, m.use s) else memoF ms f args s
theorem memoF_ok : ∀ {ms : List Memo}, (∀ m ∈ ms, m.Good P base) → CallOK P base (memoF ms)
  | [], _, f, args, s, r, s', h, _ => by cases h
  | m :: ms, hg, f, args, s, r, s', h, hw => by
    rw [memoF, Bool.cond_eq_ite] at h
    split at h
    · rename_i hc
      simp only [Bool.and_eq_true, Nat.beq_eq] at hc
      obtain ⟨⟨⟨c1, c2⟩, c3⟩, c4⟩ := hc
      subst c1
      have c3 := eqARs_eq c3
      subst c3
      simp only [Option.some.injEq, Prod.mk.injEq] at h
      obtain ⟨rfl, rfl⟩ := h
      have hm := hg m List.mem_cons_self
      have hb' := hm.bnd
      unfold Memo.bounds at hb'
      rw [Bool.and_eq_true, Bool.and_eq_true, Nat.ble_eq] at hb'
      obtain ⟨⟨hpre, hpost⟩, hle⟩ := hb'
      have hfoot : ∀ b, (m.use s).foot.testBit b = true ↔ s.foot.testBit b = true ∨ (maskOf m.pre).testBit b = true ∨ (m.next ≤ b ∧ b < m.next') := fun b => by
        show (s.foot ||| (maskOf m.pre ||| rangeMask m.next m.next')).testBit b = true ↔ _
        rw [Nat.testBit_or, Nat.testBit_or, Bool.or_eq_true, Bool.or_eq_true, rangeMask_bit]
      have hwr : ∀ b, (m.use s).wr.testBit b = true ↔ s.wr.testBit b = true ∨ (m.next ≤ b ∧ b < m.next') := fun b => by
        show (s.wr ||| rangeMask m.next m.next').testBit b = true ↔ _
        rw [Nat.testBit_or, Bool.or_eq_true, rangeMask_bit]
      have hget : ∀ b, ¬ (m.next ≤ b ∧ b < m.next') → (m.use s).mem.get b = s.mem.get b := fun b hb => by
        show (putAll m.post s.mem).get b = _
        rw [putAll_get]
        cases e : lk m.post b with
        | none => rfl
        | some x => exact absurd (keysIn_mem hpost b x (lk_mem e)) hb
      have hmono : Mono s (m.use s) := by
        refine ⟨by rw [c2]; exact hle, fun b e => (hfoot b).2 (.inl e), fun b e => (hwr b).2 (.inl e), fun b e => hget b (fun hr => by rw [(hwr b).2 (.inr hr)] at e; cases e), fun b h1 h2 => (hwr b).2 (.inr ⟨by omega, h2⟩), ⟨fun b hb => ?_, fun b hb => ?_⟩⟩
        · have hb1 : m.next' ≤ b := hb
          rw [hget b (by omega)]
          exact hw.free b (by omega)
        · rcases (hwr b).1 hb with h1 | h1
          · exact ⟨(hfoot b).2 (.inl (hw.wr b h1).1), by have := (hw.wr b h1).2; show b < m.next'; omega⟩
          · exact ⟨(hfoot b).2 (.inr (.inr h1)), h1.2⟩
      refine ⟨hm.body, hmono, fun M σ w vs hp hM ha => ?_⟩
      have hleft : after (m.use s) M = m.left M := by
        funext b
        unfold after Memo.left
        by_cases hr : m.next ≤ b ∧ b < m.next'
        · rw [if_pos ((hwr b).2 (.inr hr)), if_pos hr]
          show (putAll m.post s.mem).get b = _
          rw [putAll_get]
          cases e : lk m.post b with
          | none => exact hw.free b (by omega)
          | some x => rfl
        · rw [if_neg hr]
          by_cases h1 : s.wr.testBit b = true
          · rw [if_pos ((hwr b).2 (.inl h1)), hget b hr]
            exact (hp.1 b (hw.wr b h1).2 ((hfoot b).2 (.inl (hw.wr b h1).1))).symm
          · rw [if_neg (fun e => ((hwr b).1 e).elim h1 hr)]
      refine (hm.calls M σ w vs (fun b x hx => ?_) (fun b h1 h2 => hp.2 b (by omega) h2) hM ha).mono fun e w' ⟨v, σ', e1, e2, e3, e4, e5, e6, e7⟩ => ?_
      · rw [hp.1 b (by have := (keysIn_mem hpre b x hx).2; omega) ((hfoot b).2 (.inr (.inl (maskOf_mem hx))))]
        exact lies_get c4 b x hx
      · exact ⟨v, σ', e1, ⟨by rw [c2]; exact e2, by rw [hleft]; exact e3, e4, fun n h1 h2 _ => e5 n h1 h2, fun n h1 h2 => .inl (e6 n h1 (by rw [hleft] at h2; exact h2))⟩, e7⟩
    · exact memoF_ok (fun m' hm' => hg m' (List.mem_cons_of_mem _ hm')) f args s r s' h hw
theorem noneF_ok : CallOK P base (fun _ _ _ => none) := fun f args s r s' h _ => by cases h
#print axioms memoF_ok
end
end Go.Proofs.YtgalkkolbobmbaaGreat.Abs
