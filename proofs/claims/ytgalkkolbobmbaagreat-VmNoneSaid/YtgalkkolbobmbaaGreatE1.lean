/- The evaluator's soundness, 1: trees, cells, frames, memory. -/
import Derived.Test.YtgalkkolbobmbaaGreatE0
namespace Go.Proofs.YtgalkkolbobmbaaGreat.Abs
set_option linter.unusedVariables false
set_option linter.unusedSimpArgs false
open Go Go.RowKit
namespace Tr
variable {α : Type}
theorem get_nil (k : Nat) : (Tr.nil : Tr α).get k = none := rfl
theorem sel_succ {β : Type} (n : Nat) (x0 : β) (xa xb xc xd : Nat → β) : sel (n + 1) x0 xa xb xc xd = match n % 4 with | 0 => xa (n / 4) | 1 => xb (n / 4) | 2 => xc (n / 4) | _ => xd (n / 4) := by
  have key : ∀ q r : Nat, (Nat.rec (motive := fun _ => β) (xa q) (fun r1 _ => Nat.rec (motive := fun _ => β) (xb q) (fun r2 _ => Nat.rec (motive := fun _ => β) (xc q) (fun _ _ => xd q) r2) r1) r) = (match r with | 0 => xa q | 1 => xb q | 2 => xc q | _ => xd q) := by
    intro q r
    cases r with
    | zero => rfl
    | succ r => cases r with
      | zero => rfl
      | succ r => cases r with
        | zero => rfl
        | succ r => rfl
  exact key (n / 4) (n % 4)
theorem get_zero (v : Option α) (a b c d : Tr α) : (Tr.node v a b c d).get 0 = v := rfl
theorem get_succ (v : Option α) (a b c d : Tr α) (n : Nat) : (Tr.node v a b c d).get (n + 1) = match n % 4 with | 0 => a.get (n / 4) | 1 => b.get (n / 4) | 2 => c.get (n / 4) | _ => d.get (n / 4) := sel_succ n v a.get b.get c.get d.get
theorem put_zero (m : Nat) (v : Option α) (a b c d : Tr α) (x : Option α) : put (m + 1) (.node v a b c d) 0 x = .node x a b c d := rfl
theorem put_succ (m : Nat) (v : Option α) (a b c d : Tr α) (n : Nat) (x : Option α) : put (m + 1) (.node v a b c d) (n + 1) x = match n % 4 with | 0 => .node v (put m a (n / 4) x) b c d | 1 => .node v a (put m b (n / 4) x) c d | 2 => .node v a b (put m c (n / 4) x) d | _ => .node v a b c (put m d (n / 4) x) :=
  sel_succ n (Tr.node x a b c d) (fun q => .node v (put m a q x) b c d) (fun q => .node v a (put m b q x) c d) (fun q => .node v a b (put m c q x) d) (fun q => .node v a b c (put m d q x))
theorem get_s0 (v : Option α) (a b c d : Tr α) {n : Nat} (h : n % 4 = 0) : (Tr.node v a b c d).get (n + 1) = a.get (n / 4) := by rw [get_succ, h]; rfl
theorem put_s0 (m : Nat) (v : Option α) (a b c d : Tr α) {n : Nat} (x : Option α) (h : n % 4 = 0) : put (m + 1) (.node v a b c d) (n + 1) x = .node v (put m a (n / 4) x) b c d := by rw [put_succ, h]; rfl
theorem get_s1 (v : Option α) (a b c d : Tr α) {n : Nat} (h : n % 4 = 1) : (Tr.node v a b c d).get (n + 1) = b.get (n / 4) := by rw [get_succ, h]; rfl
theorem put_s1 (m : Nat) (v : Option α) (a b c d : Tr α) {n : Nat} (x : Option α) (h : n % 4 = 1) : put (m + 1) (.node v a b c d) (n + 1) x = .node v a (put m b (n / 4) x) c d := by rw [put_succ, h]; rfl
theorem get_s2 (v : Option α) (a b c d : Tr α) {n : Nat} (h : n % 4 = 2) : (Tr.node v a b c d).get (n + 1) = c.get (n / 4) := by rw [get_succ, h]; rfl
theorem put_s2 (m : Nat) (v : Option α) (a b c d : Tr α) {n : Nat} (x : Option α) (h : n % 4 = 2) : put (m + 1) (.node v a b c d) (n + 1) x = .node v a b (put m c (n / 4) x) d := by rw [put_succ, h]; rfl
theorem get_s3 (v : Option α) (a b c d : Tr α) {n : Nat} (h : n % 4 = 3) : (Tr.node v a b c d).get (n + 1) = d.get (n / 4) := by rw [get_succ, h]; rfl
theorem put_s3 (m : Nat) (v : Option α) (a b c d : Tr α) {n : Nat} (x : Option α) (h : n % 4 = 3) : put (m + 1) (.node v a b c d) (n + 1) x = .node v a b c (put m d (n / 4) x) := by rw [put_succ, h]; rfl
theorem get_put : ∀ (f : Nat) (t : Tr α) (k j : Nat) (x : Option α), k < f → (put f t k x).get j = if j = k then x else t.get j := by
  intro f
  induction f with
  | zero => intro t k j x h; omega
  | succ f ih =>
    have hn : ∀ (v : Option α) (a b c d : Tr α) (k j : Nat) (x : Option α), k < f + 1 → (put (f + 1) (.node v a b c d) k x).get j = if j = k then x else (Tr.node v a b c d).get j := by
      intro v a b c d k j x h
      cases k with
      | zero =>
        rw [put_zero]
        cases j with
        | zero => rw [if_pos rfl, get_zero]
        | succ m => rw [if_neg (by omega), get_succ, get_succ]
      | succ n =>
        have h4 : n % 4 = 0 ∨ n % 4 = 1 ∨ n % 4 = 2 ∨ n % 4 = 3 := by omega
        cases j with
        | zero =>
          rw [if_neg (by omega), get_zero]
          rcases h4 with e | e | e | e
          · rw [put_s0 f v a b c d x e, get_zero]
          · rw [put_s1 f v a b c d x e, get_zero]
          · rw [put_s2 f v a b c d x e, get_zero]
          · rw [put_s3 f v a b c d x e, get_zero]
        | succ m =>
          have h5 : m % 4 = 0 ∨ m % 4 = 1 ∨ m % 4 = 2 ∨ m % 4 = 3 := by omega
          rcases h4 with e | e | e | e
          · rw [put_s0 f v a b c d x e]
            rcases h5 with e' | e' | e' | e'
            · rw [get_s0 _ _ _ _ _ e', get_s0 _ _ _ _ _ e', ih _ _ _ _ (by omega)]
              by_cases hj : m = n
              · rw [if_pos (by omega), if_pos (by omega)]
              · rw [if_neg (by omega), if_neg (by omega)]
            · rw [get_s1 _ _ _ _ _ e', get_s1 _ _ _ _ _ e', if_neg (by omega)]
            · rw [get_s2 _ _ _ _ _ e', get_s2 _ _ _ _ _ e', if_neg (by omega)]
            · rw [get_s3 _ _ _ _ _ e', get_s3 _ _ _ _ _ e', if_neg (by omega)]
          · rw [put_s1 f v a b c d x e]
            rcases h5 with e' | e' | e' | e'
            · rw [get_s0 _ _ _ _ _ e', get_s0 _ _ _ _ _ e', if_neg (by omega)]
            · rw [get_s1 _ _ _ _ _ e', get_s1 _ _ _ _ _ e', ih _ _ _ _ (by omega)]
              by_cases hj : m = n
              · rw [if_pos (by omega), if_pos (by omega)]
              · rw [if_neg (by omega), if_neg (by omega)]
            · rw [get_s2 _ _ _ _ _ e', get_s2 _ _ _ _ _ e', if_neg (by omega)]
            · rw [get_s3 _ _ _ _ _ e', get_s3 _ _ _ _ _ e', if_neg (by omega)]
          · rw [put_s2 f v a b c d x e]
            rcases h5 with e' | e' | e' | e'
            · rw [get_s0 _ _ _ _ _ e', get_s0 _ _ _ _ _ e', if_neg (by omega)]
            · rw [get_s1 _ _ _ _ _ e', get_s1 _ _ _ _ _ e', if_neg (by omega)]
            · rw [get_s2 _ _ _ _ _ e', get_s2 _ _ _ _ _ e', ih _ _ _ _ (by omega)]
              by_cases hj : m = n
              · rw [if_pos (by omega), if_pos (by omega)]
              · rw [if_neg (by omega), if_neg (by omega)]
            · rw [get_s3 _ _ _ _ _ e', get_s3 _ _ _ _ _ e', if_neg (by omega)]
          · rw [put_s3 f v a b c d x e]
            rcases h5 with e' | e' | e' | e'
            · rw [get_s0 _ _ _ _ _ e', get_s0 _ _ _ _ _ e', if_neg (by omega)]
            · rw [get_s1 _ _ _ _ _ e', get_s1 _ _ _ _ _ e', if_neg (by omega)]
            · rw [get_s2 _ _ _ _ _ e', get_s2 _ _ _ _ _ e', if_neg (by omega)]
            · rw [get_s3 _ _ _ _ _ e', get_s3 _ _ _ _ _ e', ih _ _ _ _ (by omega)]
              by_cases hj : m = n
              · rw [if_pos (by omega), if_pos (by omega)]
              · rw [if_neg (by omega), if_neg (by omega)]
    intro t k j x h
    cases t with
    | node v a b c d => exact hn v a b c d k j x h
    | nil =>
      have e : put (f + 1) (.nil : Tr α) k x = put (f + 1) (.node none .nil .nil .nil .nil) k x := rfl
      rw [e, hn _ _ _ _ _ _ _ _ h, get_nil]
      by_cases hj : j = k
      · rw [if_pos hj, if_pos hj]
      · rw [if_neg hj, if_neg hj]
        cases j with
        | zero => rfl
        | succ m =>
          have h5 : m % 4 = 0 ∨ m % 4 = 1 ∨ m % 4 = 2 ∨ m % 4 = 3 := by omega
          rcases h5 with e' | e' | e' | e'
          · rw [get_s0 _ _ _ _ _ e', get_nil]
          · rw [get_s1 _ _ _ _ _ e', get_nil]
          · rw [get_s2 _ _ _ _ _ e', get_nil]
          · rw [get_s3 _ _ _ _ _ e', get_nil]
theorem get_set (t : Tr α) (k j : Nat) (x : Option α) : (t.set k x).get j = if j = k then x else t.get j := get_put (k + 1) t k j x (by omega)
end Tr

/-- Where a name's block lies, and how many cells it has. -/
abbrev Nm := Nat → Option (Nat × Nat)
def ptrsR (σ : Nm) : List (Nat × Nat) → List Value → Prop
  | [], [] => True
  | (b, o) :: ps, v :: vs => (∃ n S, σ b = some (n, S) ∧ v = .pointer (some ⟨n, o, none⟩)) ∧ ptrsR σ ps vs
  | _, _ => False
def cellR (σ : Nm) : AC → Value → Prop
  | .lit v, c => c = v ∧ v.oneCell' = true
  | .ptr b o, c => ∃ n S, σ b = some (n, S) ∧ c = .pointer (some ⟨n, o, none⟩)
  | .sl b o len w, c => ∃ n S cap, σ b = some (n, S) ∧ c = .slice (some ⟨n, o, none⟩) len cap ∧ len ≤ cap ∧ ∀ z, w = some z → o = 0 ∧ cap * z = S ∧ cap ≤ maxLen
  | .clo f ps, c => ∃ vs : List Value, c = .func (.func f) #[] vs.toArray ∧ ptrsR σ ps vs
  | .opq, c => c.oneCell' = true
def cellsR (σ : Nm) : List AC → List Value → Prop
  | [], [] => True
  | c :: cs, v :: vs => cellR σ c v ∧ cellsR σ cs vs
  | _, _ => False
def valR (σ : Nm) : AV → Value → Prop
  | .one c, v => cellR σ c v
  | .agg cs, v => ∃ l : List Value, v = .agg l.toArray ∧ cellsR σ cs l
def valsR (σ : Nm) : List AV → List Value → Prop
  | [], [] => True
  | c :: cs, v :: vs => valR σ c v ∧ valsR σ cs vs
  | _, _ => False
def resR (σ : Nm) : AR → Value → Prop
  | .val a, v => valR σ a v
  | .tup as, v => ∃ l, v = .tuple l.toArray ∧ valsR σ as l
def argsR (σ : Nm) : List AR → List Value → Prop
  | [], [] => True
  | c :: cs, v :: vs => resR σ c v ∧ argsR σ cs vs
  | _, _ => False
/-- More names. -/
def Sub (σ σ' : Nm) : Prop := ∀ b x, σ b = some x → σ' b = some x
theorem Sub.refl (σ : Nm) : Sub σ σ := fun _ _ h => h
theorem Sub.trans {a b c : Nm} (h : Sub a b) (k : Sub b c) : Sub a c := fun n x e => k n x (h n x e)
section
variable {σ σ' : Nm}
theorem ptrsR_mono (h : Sub σ σ') : ∀ {ps : List (Nat × Nat)} {vs : List Value}, ptrsR σ ps vs → ptrsR σ' ps vs
  | [], [], _ => trivial
  | (_, _) :: _, _ :: _, ⟨⟨n, S, e, r⟩, b⟩ => ⟨⟨n, S, h _ _ e, r⟩, ptrsR_mono h b⟩
  | [], _ :: _, e => e.elim
  | (_, _) :: _, [], e => e.elim
theorem cellR_mono (h : Sub σ σ') : ∀ {c : AC} {v : Value}, cellR σ c v → cellR σ' c v
  | .lit _, _, e => e
  | .ptr b o, _, ⟨n, S, e, r⟩ => ⟨n, S, h _ _ e, r⟩
  | .sl b o len w, _, ⟨n, S, cap, e, r⟩ => ⟨n, S, cap, h _ _ e, r⟩
  | .clo f ps, _, ⟨vs, e, r⟩ => ⟨vs, e, ptrsR_mono h r⟩
  | .opq, _, e => e
theorem cellsR_mono (h : Sub σ σ') : ∀ {cs : List AC} {vs : List Value}, cellsR σ cs vs → cellsR σ' cs vs
  | [], [], _ => trivial
  | _ :: _, _ :: _, ⟨a, b⟩ => ⟨cellR_mono h a, cellsR_mono h b⟩
  | [], _ :: _, e => e.elim
  | _ :: _, [], e => e.elim
theorem valR_mono (h : Sub σ σ') : ∀ {a : AV} {v : Value}, valR σ a v → valR σ' a v
  | .one c, _, e => cellR_mono h e
  | .agg cs, _, ⟨l, e, r⟩ => ⟨l, e, cellsR_mono h r⟩
theorem valsR_mono (h : Sub σ σ') : ∀ {cs : List AV} {vs : List Value}, valsR σ cs vs → valsR σ' cs vs
  | [], [], _ => trivial
  | _ :: _, _ :: _, ⟨a, b⟩ => ⟨valR_mono h a, valsR_mono h b⟩
  | [], _ :: _, e => e.elim
  | _ :: _, [], e => e.elim
theorem resR_mono (h : Sub σ σ') : ∀ {r : AR} {v : Value}, resR σ r v → resR σ' r v
  | .val a, _, e => valR_mono h e
  | .tup as, _, ⟨l, e, r⟩ => ⟨l, e, valsR_mono h r⟩
theorem argsR_mono (h : Sub σ σ') : ∀ {cs : List AR} {vs : List Value}, argsR σ cs vs → argsR σ' cs vs
  | [], [], _ => trivial
  | _ :: _, _ :: _, ⟨a, b⟩ => ⟨resR_mono h a, argsR_mono h b⟩
  | [], _ :: _, e => e.elim
  | _ :: _, [], e => e.elim
theorem cellsR_length : ∀ {cs : List AC} {vs : List Value}, cellsR σ cs vs → cs.length = vs.length
  | [], [], _ => rfl
  | _ :: _, _ :: _, ⟨_, b⟩ => by rw [List.length_cons, List.length_cons, cellsR_length b]
  | [], _ :: _, e => e.elim
  | _ :: _, [], e => e.elim
theorem cellsR_get : ∀ {cs : List AC} {vs : List Value}, cellsR σ cs vs → ∀ {i : Nat} {c : AC}, cs[i]? = some c → ∃ v, vs[i]? = some v ∧ cellR σ c v
  | [], [], _, i, c, h => by simp at h
  | c :: cs, v :: vs, ⟨a, b⟩, 0, c', h => ⟨v, rfl, by simp at h; subst h; exact a⟩
  | c :: cs, v :: vs, ⟨a, b⟩, i + 1, c', h => by
    obtain ⟨u, h1, h2⟩ := cellsR_get b (i := i) (by simpa using h)
    exact ⟨u, by simpa using h1, h2⟩
  | [], _ :: _, e, _, _, _ => e.elim
  | _ :: _, [], e, _, _, _ => e.elim
theorem cellsR_take : ∀ (n : Nat) {cs : List AC} {vs : List Value}, cellsR σ cs vs → cellsR σ (cs.take n) (vs.take n)
  | 0, _, _, _ => by simp [cellsR]
  | n + 1, [], [], _ => by simp [cellsR]
  | n + 1, _ :: _, _ :: _, ⟨a, b⟩ => ⟨a, cellsR_take n b⟩
  | _ + 1, [], _ :: _, e => e.elim
  | _ + 1, _ :: _, [], e => e.elim
theorem cellsR_drop : ∀ (n : Nat) {cs : List AC} {vs : List Value}, cellsR σ cs vs → cellsR σ (cs.drop n) (vs.drop n)
  | 0, _, _, h => by simpa using h
  | n + 1, [], [], _ => by simp [cellsR]
  | n + 1, _ :: _, _ :: _, ⟨a, b⟩ => by simpa using cellsR_drop n b
  | _ + 1, [], _ :: _, e => e.elim
  | _ + 1, _ :: _, [], e => e.elim
theorem cellsR_append : ∀ {cs : List AC} {vs : List Value}, cellsR σ cs vs → ∀ {ds : List AC} {us : List Value}, cellsR σ ds us → cellsR σ (cs ++ ds) (vs ++ us)
  | [], [], _, _, _, h => h
  | _ :: _, _ :: _, ⟨a, b⟩, _, _, h => ⟨a, cellsR_append b h⟩
  | [], _ :: _, e, _, _, _ => e.elim
  | _ :: _, [], e, _, _, _ => e.elim
theorem argsR_length : ∀ {cs : List AR} {vs : List Value}, argsR σ cs vs → cs.length = vs.length
  | [], [], _ => rfl
  | _ :: _, _ :: _, ⟨_, b⟩ => by rw [List.length_cons, List.length_cons, argsR_length b]
  | [], _ :: _, e => e.elim
  | _ :: _, [], e => e.elim
theorem valsR_get : ∀ {cs : List AV} {vs : List Value}, valsR σ cs vs → ∀ {i : Nat} {c : AV}, cs[i]? = some c → ∃ v, vs[i]? = some v ∧ valR σ c v
  | [], [], _, i, c, h => by simp at h
  | c :: cs, v :: vs, ⟨a, b⟩, 0, c', h => ⟨v, rfl, by simp at h; subst h; exact a⟩
  | c :: cs, v :: vs, ⟨a, b⟩, i + 1, c', h => by
    obtain ⟨u, h1, h2⟩ := valsR_get b (i := i) (by simpa using h)
    exact ⟨u, by simpa using h1, h2⟩
  | [], _ :: _, e, _, _, _ => e.elim
  | _ :: _, [], e, _, _, _ => e.elim
theorem undefR (σ : Nm) : resR σ .undef Go.undef := ⟨[], rfl, trivial⟩
theorem one_cells {v : Value} (h : v.oneCell' = true) : v.cells = #[v] := by cases v <;> first | rfl | cases h
theorem cellR_one : ∀ {c : AC} {v : Value}, cellR σ c v → v.oneCell' = true
  | .lit _, _, ⟨e, h⟩ => by rw [e]; exact h
  | .ptr b o, _, ⟨n, S, e, r⟩ => by rw [r]; rfl
  | .sl b o len w, _, ⟨n, S, cap, e, r, _⟩ => by rw [r]; rfl
  | .clo f ps, _, ⟨vs, e, _⟩ => by rw [e]; rfl
  | .opq, _, e => e
theorem cellsR_one : ∀ {cs : List AC} {vs : List Value}, cellsR σ cs vs → ∀ v ∈ vs, v.oneCell' = true
  | [], [], _, v, h => by cases h
  | _ :: _, _ :: _, ⟨a, b⟩, v, h => by
    rcases List.mem_cons.1 h with e | e
    · rw [e]; exact cellR_one a
    · exact cellsR_one b v e
  | [], _ :: _, e, _, _ => e.elim
  | _ :: _, [], e, _, _ => e.elim
/-- One cell. -/
theorem oneR {c : AC} {v : Value} (h : cellR σ c v) : resR σ (one c) v := h
theorem valR_one {c : AC} {v : Value} (h : cellR σ c v) : valR σ (.one c) v := h
theorem valR_agg {cs : List AC} {l : List Value} (h : cellsR σ cs l) : valR σ (.agg cs) (.agg l.toArray) := ⟨l, rfl, h⟩
theorem valR_cells : ∀ {a : AV} {v : Value}, valR σ a v → cellsR σ a.cs v.cells.toList
  | .one c, v, h => by rw [one_cells (cellR_one h)]; exact ⟨h, trivial⟩
  | .agg cs, _, ⟨l, e, r⟩ => by rw [e]; exact r
theorem valR_agg_inv {cs : List AC} {v : Value} (h : valR σ (.agg cs) v) : ∃ l : List Value, v = .agg l.toArray ∧ cellsR σ cs l := h
theorem oneR_inv {c : AC} {v : Value} (h : resR σ (.val (.one c)) v) : cellR σ c v ∧ v.cells = #[v] := ⟨h, one_cells (cellR_one h)⟩
theorem ptrR {b o n S : Nat} (h : σ b = some (n, S)) : resR σ (one (.ptr b o)) (.pointer (some ⟨n, o, none⟩)) := oneR ⟨n, S, h, rfl⟩
theorem vals_inv : ∀ {cs : List AC} {vs us : List Value}, vals? cs = some vs → cellsR σ cs us → us = vs
  | [], vs, [], h, _ => by simp [vals?] at h; exact h.symm
  | .lit v :: cs, vs, u :: us, h, ⟨a, b⟩ => by
    simp only [vals?] at h
    cases hc : vals? cs with
    | none => rw [hc] at h; simp at h
    | some ws =>
      rw [hc] at h
      simp only [Option.some.injEq] at h
      rw [← h, vals_inv hc b, show u = v from a.1]
  | .ptr _ _ :: _, vs, _, h, _ => by simp [vals?] at h
  | .sl _ _ _ _ :: _, vs, _, h, _ => by simp [vals?] at h
  | .clo _ _ :: _, vs, _, h, _ => by simp [vals?] at h
  | .opq :: _, vs, _, h, _ => by simp [vals?] at h
  | [], _, _ :: _, _, e => e.elim
  | _ :: _, _, [], _, e => e.elim
theorem aval_inv {a : AV} {v u : Value} (h : a.val? = some v) (hu : valR σ a u) : u = v := by
  cases a with
  | one c =>
    cases c with
    | lit x => simp only [AV.val?, AC.val?, Option.some.injEq] at h; rw [← h]; exact hu.1
    | ptr _ _ => cases h
    | sl _ _ _ _ => cases h
    | clo _ _ => cases h
    | opq => cases h
  | agg cs =>
    obtain ⟨l, rfl, hl⟩ := hu
    simp only [AV.val?] at h
    cases hc : vals? cs with
    | none => rw [hc] at h; simp at h
    | some vs =>
      rw [hc] at h
      simp only [Option.some.injEq] at h
      rw [← h, vals_inv hc hl]
theorem avals_inv : ∀ {as : List AV} {vs us : List Value}, avals? as = some vs → valsR σ as us → us = vs
  | [], vs, [], h, _ => by simp [avals?] at h; exact h.symm
  | a :: as, vs, u :: us, h, ⟨x, y⟩ => by
    simp only [avals?] at h
    cases ha : a.val? with
    | none => rw [ha] at h; simp at h
    | some v =>
      cases hc : avals? as with
      | none => rw [ha, hc] at h; simp at h
      | some ws =>
        rw [ha, hc] at h
        simp only [Option.some.injEq] at h
        rw [← h, avals_inv hc y, aval_inv ha x]
  | [], _, _ :: _, _, e => e.elim
  | _ :: _, _, [], _, e => e.elim
theorem val_inv {r : AR} {v u : Value} (h : r.val? = some v) (hu : resR σ r u) : u = v := by
  cases r with
  | val a => exact aval_inv h hu
  | tup as =>
    obtain ⟨l, rfl, hl⟩ := hu
    simp only [AR.val?] at h
    cases hc : avals? as with
    | none => rw [hc] at h; simp at h
    | some ws =>
      rw [hc] at h
      simp only [Option.some.injEq] at h
      rw [← h, avals_inv hc hl]
theorem cells_of : ∀ {vs : List Value} {cs : List AC}, cells? vs = some cs → cellsR σ cs vs
  | [], cs, h => by simp [cells?] at h; subst h; trivial
  | v :: vs, cs, h => by
    unfold cells? at h
    split at h
    · rename_i heq; cases heq
    · cases h
    · cases h
    · rename_i v' vs' n1 n2 heq
      cases heq
      cases hc : cells? vs with
      | none => rw [hc] at h; simp at h
      | some ds =>
        rw [hc] at h
        simp only [Option.some.injEq] at h
        subst h
        exact ⟨⟨rfl, by cases v <;> first | rfl | exact absurd rfl (n1 _) | exact absurd rfl (n2 _)⟩, cells_of hc⟩
theorem aval_of {v : Value} {a : AV} (h : AV.of v = some a) : valR σ a v := by
  unfold AV.of at h
  split at h
  · rename_i cs
    cases hc : cells? cs.toList with
    | none => rw [hc] at h; simp at h
    | some l =>
      rw [hc] at h
      simp only [Option.some.injEq] at h
      subst h
      exact ⟨cs.toList, by simp, cells_of hc⟩
  · cases h
  · rename_i h1 h2
    simp only [Option.some.injEq] at h
    subst h
    exact valR_one ⟨rfl, by cases v <;> first | rfl | exact absurd rfl (h1 _) | exact absurd rfl (h2 _)⟩
theorem avals_of : ∀ {vs : List Value} {as : List AV}, avs? vs = some as → valsR σ as vs
  | [], as, h => by simp [avs?] at h; subst h; trivial
  | v :: vs, as, h => by
    simp only [avs?] at h
    cases ha : AV.of v with
    | none => rw [ha] at h; simp at h
    | some a =>
      cases hc : avs? vs with
      | none => rw [ha, hc] at h; simp at h
      | some bs =>
        rw [ha, hc] at h
        simp only [Option.some.injEq] at h
        subst h
        exact ⟨aval_of ha, avals_of hc⟩
theorem res_of {v : Value} {r : AR} (h : AR.of v = some r) : resR σ r v := by
  unfold AR.of at h
  split at h
  · rename_i vs
    cases hc : avs? vs.toList with
    | none => rw [hc] at h; simp at h
    | some l =>
      rw [hc] at h
      simp only [Option.some.injEq] at h
      subst h
      exact ⟨vs.toList, by simp, avals_of hc⟩
  · cases ha : AV.of v with
    | none => rw [ha] at h; simp at h
    | some a =>
      rw [ha] at h
      simp only [Option.some.injEq] at h
      subst h
      exact aval_of ha
end

/-- A frame. -/
structure FrR (σ : Nm) (fr : Fr) (a : Act) : Prop where
  size : a.tmps.size = fr.n
  get : ∀ t, resR σ (fr.get t) (a.tmps.getD t Go.undef)
section
variable {σ σ' : Nm} {fr fr' : Fr} {a : Act}
theorem FrR.mono (h : FrR σ fr a) (hs : Sub σ σ') : FrR σ' fr a := ⟨h.size, fun t => resR_mono hs (h.get t)⟩
theorem FrR.eval (h : FrR σ fr a) {x : Operand} {r : AR} (hx : fr.eval x = some r) : resR σ r (a.eval x) := by
  cases x with
  | tmp t => simp only [Fr.eval, Option.some.injEq] at hx; subst hx; exact h.get t
  | const v => exact res_of hx
  | global g => simp [Fr.eval] at hx
  | func f => simp only [Fr.eval, Option.some.injEq] at hx; subst hx; exact oneR ⟨rfl, rfl⟩
theorem FrR.closed (h : FrR σ fr a) {x : Operand} {v : Value} (hx : fr.closed x = some v) : a.eval x = v := by
  unfold Fr.closed at hx
  cases hr : fr.eval x with
  | none => rw [hr] at hx; cases hx
  | some r => rw [hr] at hx; exact val_inv hx (h.eval hr)
theorem FrR.int (h : FrR σ fr a) {x : Operand} {n : Int} (hx : fr.int x = some n) : ∃ k, a.eval x = .int k n := by
  unfold Fr.int at hx
  split at hx
  · rename_i k m hc
    cases hx
    exact ⟨k, h.closed hc⟩
  · cases hx
theorem FrR.bool (h : FrR σ fr a) {x : Operand} {b : Bool} (hx : fr.bool x = some b) : a.eval x = .bool b := by
  unfold Fr.bool at hx
  split at hx
  · rename_i m hc
    cases hx
    exact h.closed hc
  · cases hx
theorem FrR.put (h : FrR σ fr a) {dst : Option Tmp} {r : AR} {v : Value} (hp : fr.put dst r = some fr') (hv : resR σ r v) : FrR σ fr' (a.put dst v) := by
  cases dst with
  | none => simp only [Fr.put, Option.some.injEq] at hp; subst hp; exact h
  | some d =>
    simp only [Fr.put] at hp
    rw [Bool.cond_eq_ite] at hp
    split at hp
    · rename_i hd
      have hd' : d < fr.n := by simpa [Nat.blt_eq] using hd
      simp only [Option.some.injEq] at hp
      subst hp
      refine ⟨by simpa [Act.put] using h.size, fun t => ?_⟩
      have hg := h.get t
      unfold Fr.get at hg ⊢
      dsimp only
      rw [Tr.get_set]
      by_cases ht : t = d
      · subst ht
        rw [if_pos rfl]
        have : (a.put (some t) v).tmps.getD t Go.undef = v := by simp [Act.put, Array.getD, h.size, hd']
        rw [this]
        exact hv
      · rw [if_neg ht]
        have : (a.put (some d) v).tmps.getD t Go.undef = a.tmps.getD t Go.undef := by
          simp only [Act.put, Array.getD_eq_getD_getElem?, Array.getElem?_setIfInBounds_ne (Ne.symm ht)]
        rw [this]
        exact hg
    · cases hp
end

abbrev Mem := Nat → Option AB
structure MemR (base : Nat) (σ : Nm) (M : Mem) (w : World) : Prop where
  blk : ∀ b x, M b = some x → ∃ n cur, σ b = some (n, cur.size) ∧ w.heap[n]? = some (.cells cur x.elem (0, 0)) ∧ x.cells.length ≤ cur.size ∧ cellsR σ x.cells (cur.toList.take x.cells.length)
  inj : ∀ b b' n S n' S', M b ≠ none → M b' ≠ none → σ b = some (n, S) → σ b' = some (n', S') → n = n' → b = b'
  rng : ∀ b n S, σ b = some (n, S) → base ≤ n
  bs : base ≤ w.heap.size
noncomputable def St.M (s : St) : Mem := fun b => s.mem.get b
def Ext (σ σ' : Nm) (lo hi : Nat) : Prop := Sub σ σ' ∧ ∀ b, (b < lo ∨ hi ≤ b) → σ' b = σ b
def Pre (s s' : St) (M : Mem) (σ : Nm) : Prop := (∀ b, b < s.next → s'.foot.testBit b = true → M b = s.mem.get b) ∧ (∀ b, s.next ≤ b → b < s'.next → M b = none ∧ σ b = none)
noncomputable def after (s' : St) (M : Mem) : Mem := fun b => if s'.wr.testBit b = true then s'.mem.get b else M b
/-- Is a block one of the named ones? -/
def Named (M : Mem) (σ : Nm) (n : Nat) : Prop := ∃ b S, M b ≠ none ∧ σ b = some (n, S)
structure PostX (base : Nat) (s s' : St) (M : Mem) (σ : Nm) (w : World) (σ' : Nm) (w' : World) (X : Nat → Prop) : Prop where
  ext : Ext σ σ' s.next s'.next
  mem : MemR base σ' (after s' M) w'
  below : Below base w w'
  keep : ∀ n, n < w.heap.size → ¬ Named M σ n → ¬ X n → w'.heap[n]? = w.heap[n]?
  src : ∀ n, n < w.heap.size → Named (after s' M) σ' n → Named M σ n ∨ X n
abbrev Post (base : Nat) (s s' : St) (M : Mem) (σ : Nm) (w : World) (σ' : Nm) (w' : World) : Prop := PostX base s s' M σ w σ' w' (fun _ => False)
/-- No block stands behind the next name; what was written was looked at. -/
structure WF (s : St) : Prop where
  free : ∀ b, s.next ≤ b → s.mem.get b = none
  wr : ∀ b, s.wr.testBit b = true → s.foot.testBit b = true ∧ b < s.next
structure Mono (s s' : St) : Prop where
  next : s.next ≤ s'.next
  foot : ∀ b, s.foot.testBit b = true → s'.foot.testBit b = true
  wr : ∀ b, s.wr.testBit b = true → s'.wr.testBit b = true
  same : ∀ b, s'.wr.testBit b = false → s'.mem.get b = s.mem.get b
  made : ∀ b, s.next ≤ b → b < s'.next → s'.wr.testBit b = true
  wf : WF s'
section
variable {s s1 s2 : St} {M : Mem} {σ σ1 σ2 : Nm} {w w1 w2 : World} {base : Nat}
theorem Mono.refl (h : WF s) : Mono s s := ⟨Nat.le_refl _, fun _ h => h, fun _ h => h, fun _ _ => rfl, fun b h1 h2 => by omega, h⟩
theorem Mono.trans (h : Mono s s1) (k : Mono s1 s2) : Mono s s2 := by
  refine ⟨Nat.le_trans h.next k.next, fun b e => k.foot b (h.foot b e), fun b e => k.wr b (h.wr b e), fun b e => ?_, fun b h1 h2 => ?_, k.wf⟩
  · rw [k.same b e]
    refine h.same b ?_
    cases hw : s1.wr.testBit b with
    | false => rfl
    | true => rw [k.wr b hw] at e; cases e
  · by_cases hb : b < s1.next
    · exact k.wr b (h.made b h1 hb)
    · exact k.made b (by omega) h2
theorem Pre.first (h : Pre s s2 M σ) (k : Mono s1 s2) : Pre s s1 M σ := ⟨fun b h1 h2 => h.1 b h1 (k.foot b h2), fun b h1 h2 => h.2 b h1 (Nat.lt_of_lt_of_le h2 k.next)⟩
theorem Pre.second (h : Pre s s2 M σ) (m : Mono s s1) (k : Mono s1 s2) (he : Ext σ σ1 s.next s1.next) : Pre s1 s2 (after s1 M) σ1 := by
  refine ⟨fun b h1 h2 => ?_, fun b h1 h2 => ?_⟩
  · unfold after
    by_cases hw : s1.wr.testBit b = true
    · rw [if_pos hw]
    · rw [if_neg hw]
      by_cases hb : b < s.next
      · rw [h.1 b hb h2]
        exact (m.same b (by simpa using hw)).symm
      · exact absurd (m.made b (by omega) h1) hw
  · have hn := h.2 b (Nat.le_trans m.next h1) h2
    refine ⟨?_, by rw [he.2 b (.inr h1)]; exact hn.2⟩
    unfold after
    by_cases hw : s1.wr.testBit b = true
    · rw [if_pos hw]
      exact m.wf.free b h1
    · rw [if_neg hw]
      exact hn.1
theorem after_after (k : Mono s1 s2) : after s2 (after s1 M) = after s2 M := by
  funext b
  unfold after
  by_cases h2 : s2.wr.testBit b = true
  · rw [if_pos h2, if_pos h2]
  · rw [if_neg h2, if_neg h2]
    by_cases h1 : s1.wr.testBit b = true
    · exact absurd (k.wr b h1) h2
    · rw [if_neg h1]
theorem Ext.trans (h : Ext σ σ1 s.next s1.next) (k : Ext σ1 σ2 s1.next s2.next) (m : Mono s s1) (m2 : Mono s1 s2) : Ext σ σ2 s.next s2.next :=
  ⟨h.1.trans k.1, fun b hb => by
    have := m.next
    have := m2.next
    rw [k.2 b (by omega), h.2 b (by omega)]⟩
theorem Ext.refl (σ : Nm) (lo hi : Nat) : Ext σ σ lo hi := ⟨Sub.refl _, fun _ _ => rfl⟩
theorem PostX.then_ {X : Nat → Prop} (h : Post base s s1 M σ w σ1 w1) (k : PostX base s1 s2 (after s1 M) σ1 w1 σ2 w2 X) (m : Mono s s1) (m2 : Mono s1 s2) (hX : ∀ n, X n → Named M σ n) : Post base s s2 M σ w σ2 w2 := by
  refine ⟨h.ext.trans k.ext m m2, by rw [← after_after (M := M) m2]; exact k.mem, h.below.trans k.below, fun n hn hnm _ => ?_, fun n hn hnm => .inl ?_⟩
  · have hn1 : n < w1.heap.size := Nat.lt_of_lt_of_le hn h.below.size
    have hnm1 : ¬ Named (after s1 M) σ1 n := fun e => (h.src n hn e).elim hnm id
    rw [k.keep n hn1 hnm1 (fun e => hnm (hX n e)), h.keep n hn hnm id]
  · have hn1 : n < w1.heap.size := Nat.lt_of_lt_of_le hn h.below.size
    rw [← after_after (M := M) m2] at hnm
    rcases k.src n hn1 hnm with e | e
    · exact (h.src n hn e).elim id False.elim
    · exact hX n e
theorem Post.trans (h : Post base s s1 M σ w σ1 w1) (k : Post base s1 s2 (after s1 M) σ1 w1 σ2 w2) (m : Mono s s1) (m2 : Mono s1 s2) : Post base s s2 M σ w σ2 w2 := PostX.then_ h k m m2 (fun _ e => e.elim)
/-- A step that neither writes nor makes. -/
theorem after_quiet (h : Pre s s1 M σ) (hw : WF s) (hm : s1.mem = s.mem) (hr : s1.wr = s.wr) (hf : ∀ b, s.foot.testBit b = true → s1.foot.testBit b = true) : after s1 M = M := by
  funext b
  unfold after
  rw [hm, hr]
  by_cases h1 : s.wr.testBit b = true
  · rw [if_pos h1]
    exact (h.1 b (hw.wr b h1).2 (hf b (hw.wr b h1).1)).symm
  · rw [if_neg h1]
theorem Post.quiet (h : Pre s s1 M σ) (hw : WF s) (hm : s1.mem = s.mem) (hr : s1.wr = s.wr) (hf : ∀ b, s.foot.testBit b = true → s1.foot.testBit b = true) (hM : MemR base σ M w) : Post base s s1 M σ w σ w :=
  ⟨Ext.refl _ _ _, by rw [after_quiet h hw hm hr hf]; exact hM, Below.refl _ _, fun _ _ _ _ => rfl, fun n _ e => by rw [after_quiet h hw hm hr hf] at e; exact .inl e⟩
theorem Mono.quiet (hw : WF s) (hm : s1.mem = s.mem) (hr : s1.wr = s.wr) (hf : ∀ b, s.foot.testBit b = true → s1.foot.testBit b = true) (hn : s1.next = s.next) : Mono s s1 :=
  ⟨by omega, hf, fun b e => by rw [hr]; exact e, fun b _ => by rw [hm], fun b h1 h2 => by omega, ⟨fun b hb => by rw [hm]; exact hw.free b (by omega), fun b hb => by rw [hr] at hb; rw [hn]; exact ⟨hf b (hw.wr b hb).1, (hw.wr b hb).2⟩⟩⟩
theorem bit_self (m b : Nat) : (m ||| 2 ^ b).testBit b = true := by simp [Nat.testBit_or, Nat.testBit_two_pow]
theorem bit_old {m b j : Nat} (h : m.testBit j = true) : (m ||| 2 ^ b).testBit j = true := by simp [Nat.testBit_or, h]
theorem bit_or {m b j : Nat} (h : (m ||| 2 ^ b).testBit j = true) : m.testBit j = true ∨ j = b := by
  rw [Nat.testBit_or, Bool.or_eq_true, Nat.testBit_two_pow] at h
  rcases h with h | h
  · exact .inl h
  · exact .inr (of_decide_eq_true h).symm
theorem bit_ne {m b j : Nat} (h : (m ||| 2 ^ b).testBit j = false) : m.testBit j = false ∧ j ≠ b := by
  rw [Nat.testBit_or, Bool.or_eq_false_iff, Nat.testBit_two_pow] at h
  exact ⟨h.1, fun e => by have := of_decide_eq_false h.2; omega⟩
theorem Mono.look (hw : WF s) (b : Nat) : Mono s (s.look b) := Mono.quiet hw rfl rfl (fun _ h => bit_old h) rfl
theorem WF.lt (hw : WF s) {b : Nat} {x : AB} (h : s.mem.get b = some x) : b < s.next := by
  rcases Nat.lt_or_ge b s.next with h1 | h1
  · exact h1
  · rw [hw.free b h1] at h; cases h
theorem Mono.write (hw : WF s) {b : Nat} (hb : b < s.next) (x : Option AB) : Mono s (s.write b x) := by
  refine ⟨Nat.le_refl _, fun j h => bit_old h, fun j h => bit_old h, fun j h => ?_, fun j h1 h2 => ?_, ⟨fun j hj => ?_, fun j hj => ?_⟩⟩
  · show (s.mem.set b x).get j = _
    rw [Tr.get_set, if_neg (bit_ne h).2]
  · exact absurd h2 (Nat.not_lt.2 h1)
  · have hj' : s.next ≤ j := hj
    show (s.mem.set b x).get j = _
    rw [Tr.get_set, if_neg (by omega)]
    exact hw.free j hj'
  · rcases bit_or hj with h | h
    · exact ⟨bit_old (hw.wr j h).1, (hw.wr j h).2⟩
    · subst h
      exact ⟨bit_self _ _, hb⟩
theorem Mono.new (hw : WF s) (x : AB) : Mono s (s.new x) := by
  refine ⟨Nat.le_succ _, fun j h => bit_old h, fun j h => bit_old h, fun j h => ?_, fun j h1 h2 => ?_, ⟨fun j hj => ?_, fun j hj => ?_⟩⟩
  · show (s.mem.set s.next _).get j = _
    rw [Tr.get_set, if_neg (bit_ne h).2]
  · have h2' : j < s.next + 1 := h2
    have : j = s.next := by omega
    subst this
    exact bit_self _ _
  · have hj' : s.next + 1 ≤ j := hj
    show (s.mem.set s.next _).get j = _
    rw [Tr.get_set, if_neg (by omega)]
    exact hw.free j (by omega)
  · rcases bit_or hj with h | h
    · exact ⟨bit_old (hw.wr j h).1, Nat.lt_succ_of_lt (hw.wr j h).2⟩
    · subst h
      exact ⟨bit_self _ _, Nat.lt_succ_self _⟩
def upM (M : Mem) (b : Nat) (x : Option AB) : Mem := fun j => if j = b then x else M j
def upS (σ : Nm) (b : Nat) (x : Nat × Nat) : Nm := fun j => if j = b then some x else σ j
theorem after_write {b : Nat} {x : Option AB} (h : Pre s (s.write b x) M σ) (hw : WF s) : after (s.write b x) M = upM M b x := by
  funext j
  unfold after upM
  by_cases hj : j = b
  · subst hj
    rw [if_pos (show (s.write j x).wr.testBit j = true from bit_self _ _), if_pos rfl]
    show (s.mem.set j x).get j = _
    rw [Tr.get_set, if_pos rfl]
  · rw [if_neg hj]
    by_cases h1 : (s.write b x).wr.testBit j = true
    · rw [if_pos h1]
      have h2 : s.wr.testBit j = true := (bit_or h1).resolve_right hj
      show (s.mem.set b x).get j = _
      rw [Tr.get_set, if_neg hj]
      exact (h.1 j (hw.wr j h2).2 (bit_old (hw.wr j h2).1)).symm
    · rw [if_neg h1]
theorem after_new {x : AB} (h : Pre s (s.new x) M σ) (hw : WF s) : after (s.new x) M = upM M s.next (some x) := by
  funext j
  unfold after upM
  by_cases hj : j = s.next
  · subst hj
    rw [if_pos (show (s.new x).wr.testBit s.next = true from bit_self _ _), if_pos rfl]
    show (s.mem.set s.next _).get s.next = _
    rw [Tr.get_set, if_pos rfl]
  · rw [if_neg hj]
    by_cases h1 : (s.new x).wr.testBit j = true
    · rw [if_pos h1]
      have h2 : s.wr.testBit j = true := (bit_or h1).resolve_right hj
      show (s.mem.set s.next _).get j = _
      rw [Tr.get_set, if_neg hj]
      exact (h.1 j (hw.wr j h2).2 (bit_old (hw.wr j h2).1)).symm
    · rw [if_neg h1]
theorem MemR.sub (h : MemR base σ M w) {M' : Mem} (hs : ∀ b x, M' b = some x → M b = some x) : MemR base σ M' w := by
  have hn : ∀ b, M' b ≠ none → M b ≠ none := fun b hb e => by
    cases hx : M' b with
    | none => exact hb hx
    | some x => rw [hs b x hx] at e; cases e
  exact ⟨fun b x hx => h.blk b x (hs b x hx), fun b b' n S n' S' h1 h2 h3 h4 h5 => h.inj b b' n S n' S' (hn b h1) (hn b' h2) h3 h4 h5, h.rng, h.bs⟩
/-- A block's cells are other ones. -/
theorem MemR.store (h : MemR base σ M w) {b n : Nat} {x : AB} {cur cur' : Array Value} {ys : List AC} (hx : M b = some x) (hσ : σ b = some (n, cur.size)) (hh : w1.heap[n]? = some (.cells cur' x.elem (0, 0))) (hc : cur'.size = cur.size)
    (hy : ys.length ≤ cur.size) (hr : cellsR σ ys (cur'.toList.take ys.length)) (hz : w.heap.size ≤ w1.heap.size) (ho : ∀ k, k ≠ n → k < w.heap.size → w1.heap[k]? = w.heap[k]?) : MemR base σ (upM M b (some { x with cells := ys })) w1 := by
  have hn : ∀ j, upM M b (some { x with cells := ys }) j ≠ none → M j ≠ none := fun j hj => by
    unfold upM at hj
    split at hj
    · rename_i e; subst e; rw [hx]; simp
    · exact hj
  refine ⟨fun j y hy' => ?_, fun b b' n S n' S' h1 h2 h3 h4 h5 => h.inj b b' n S n' S' (hn b h1) (hn b' h2) h3 h4 h5, h.rng, Nat.le_trans h.bs hz⟩
  unfold upM at hy'
  split at hy'
  · rename_i e
    subst e
    obtain rfl := Option.some.inj hy'
    exact ⟨n, cur', by rw [hc]; exact hσ, hh, by rw [hc]; exact hy, hr⟩
  · rename_i e
    obtain ⟨m, cu, g1, g2, g3, g4⟩ := h.blk j y hy'
    have hne : m ≠ n := fun e2 => e (h.inj j b m cu.size n cur.size (by rw [hy']; simp) (by rw [hx]; simp) g1 hσ e2)
    exact ⟨m, cu, g1, by rw [ho m hne (Array.getElem?_eq_some_iff.1 g2).1]; exact g2, g3, g4⟩
/-- A block under a new name: no living name is of it. -/
theorem MemR.name (h : MemR base σ M w) {c n : Nat} {cur : Array Value} {cs : List AC} {e : TypeId} (hσ : σ c = none) (hM : M c = none) (hb : base ≤ n) (hf : ∀ j x S, M j = some x → σ j ≠ some (n, S))
    (hh : w1.heap[n]? = some (.cells cur e (0, 0))) (hy : cs.length ≤ cur.size) (hr : cellsR σ cs (cur.toList.take cs.length)) (hz : w.heap.size ≤ w1.heap.size) (ho : ∀ j x k S, M j = some x → σ j = some (k, S) → w1.heap[k]? = w.heap[k]?) :
    Sub σ (upS σ c (n, cur.size)) ∧ MemR base (upS σ c (n, cur.size)) (upM M c (some ⟨cs, e⟩)) w1 := by
  have hs : Sub σ (upS σ c (n, cur.size)) := fun j x hx => by
    unfold upS
    by_cases e : j = c
    · subst e; rw [hσ] at hx; cases hx
    · rw [if_neg e]; exact hx
  refine ⟨hs, ⟨fun j y hy' => ?_, fun b b' m S m' S' h1 h2 h3 h4 h5 => ?_, fun j m S hj => ?_, Nat.le_trans h.bs hz⟩⟩
  · unfold upM at hy'
    split at hy'
    · rename_i e
      subst e
      obtain rfl := Option.some.inj hy'
      exact ⟨n, cur, by unfold upS; rw [if_pos rfl], hh, hy, cellsR_mono hs hr⟩
    · rename_i e
      obtain ⟨m, cu, g1, g2, g3, g4⟩ := h.blk j y hy'
      exact ⟨m, cu, hs _ _ g1, by rw [ho j y m _ hy' g1]; exact g2, g3, cellsR_mono hs g4⟩
  · have key : ∀ j m S, j ≠ c → upM M c (some ⟨cs, e⟩) j ≠ none → upS σ c (n, cur.size) j = some (m, S) → σ j = some (m, S) ∧ M j ≠ none ∧ m ≠ n := fun j m S hj h1 h3 => by
      unfold upM at h1
      unfold upS at h3
      rw [if_neg hj] at h1 h3
      refine ⟨h3, h1, fun e2 => ?_⟩
      cases hx : M j with
      | none => exact h1 hx
      | some x => exact hf j x S hx (by rw [h3, e2])
    by_cases e1 : b = c
    · by_cases e2 : b' = c
      · rw [e1, e2]
      · have k2 := key b' m' S' e2 h2 h4
        subst e1
        unfold upS at h3
        rw [if_pos rfl] at h3
        obtain ⟨rfl, rfl⟩ := Prod.mk.inj (Option.some.inj h3)
        exact absurd h5.symm k2.2.2
    · have k1 := key b m S e1 h1 h3
      by_cases e2 : b' = c
      · subst e2
        unfold upS at h4
        rw [if_pos rfl] at h4
        obtain ⟨rfl, rfl⟩ := Prod.mk.inj (Option.some.inj h4)
        exact absurd h5 k1.2.2
      · have k2 := key b' m' S' e2 h2 h4
        exact h.inj b b' m S m' S' k1.2.1 k2.2.1 k1.1 k2.1 h5
  · unfold upS at hj
    split at hj
    · obtain ⟨rfl, rfl⟩ := Prod.mk.inj (Option.some.inj hj)
      exact hb
    · exact h.rng j m S hj
end
end Go.Proofs.YtgalkkolbobmbaaGreat.Abs
