/- What region 7 of code.Object holds, whatever is over. -/
import Derived.Test.YtccolpkjgjjipaaCReg6
namespace Go.Proofs.Ytccolpkjgjjipaa.K
set_option linter.unusedSimpArgs false
open Go.RowKit Go.Proofs.YtccolpkjgjjipaaW.PrintWords Go.Proofs.YtccolpkjgjjipaaW.PrintLast Go.Proofs.YtccolpkjgjjipaaW.PrintMore Go.Proofs.Ytccolpkjgjjipaa.Inv
set_option linter.unusedVariables false
/-- The four lists that were read. -/
structure V4 where
  v0 : Value
  v1 : Value
  v2 : Value
  v3 : Value
  x0 : List Int
  x1 : List Int
  x2 : List Int
  x3 : List Int
def L4 (w : World) (C : V4) (W : World) : Prop :=
  ∃ n0 n1 n2 n3 n4, n0 ≤ n1 ∧ n1 ≤ n2 ∧ n2 ≤ n3 ∧ n3 ≤ n4 ∧ n4 ≤ W.heap.size ∧ Lst (Kd.int .i64) 3 W w.heap.size n0 n1 C.v0 C.x0 ∧ Lst (Kd.int .i64) 3 W w.heap.size n1 n2 C.v1 C.x1 ∧ Lst (Kd.int .i64) 2 W w.heap.size n2 n3 C.v2 C.x2 ∧ Lst (Kd.int .i64) 2 W w.heap.size n3 n4 C.v3 C.x3
theorem L4.move {w W W' : World} {C : V4} (h : L4 w C W) (hL : ∀ (e lo hi : Nat) (v : Value) (xs : List Int), e = 3 ∨ e = 2 → Lst (Kd.int .i64) e W w.heap.size lo hi v xs → Lst (Kd.int .i64) e W' w.heap.size lo hi v xs) (hs : W.heap.size ≤ W'.heap.size) : L4 w C W' := by
  obtain ⟨n0, n1, n2, n3, n4, a, b, c, d, f, L0, L1, L2, L3⟩ := h
  exact ⟨n0, n1, n2, n3, n4, a, b, c, d, by omega, hL _ _ _ _ _ (.inl rfl) L0, hL _ _ _ _ _ (.inl rfl) L1, hL _ _ _ _ _ (.inr rfl) L2, hL _ _ _ _ _ (.inr rfl) L3⟩
theorem L4.below {w W W' : World} {C : V4} (h : L4 w C W) (hb : Below W.heap.size W W') : L4 w C W' := h.move (fun _ _ _ _ _ _ L => L.below hb) hb.size
theorem L4.gr {w wB W W' : World} {C : V4} {o2 gr g6 g7 : Nat} {bs : List Int} {bad : Bool} (h : L4 w C W) (E : Env w wB W o2 gr g6 g7 bs bad) (hk : Kept W W' (only gr)) : L4 w C W' :=
  h.move (fun _ _ _ _ _ he L => lst_gr rfl (by rcases he with rfl | rfl <;> decide) L E hk) hk.1
theorem L4.set {w W W' : World} {C : V4} {g8 : Nat} {cs : Array Value} (h : L4 w C W) (h8 : W.heap[g8]? = some (.cells cs 28 (0, 0))) (hk : Kept W W' (fun k => k = g8)) : L4 w C W' :=
  h.move (fun _ _ _ _ _ he L => L.keep rfl h8 (by rcases he with rfl | rfl <;> decide) hk) hk.1
/-- Behind region 6 or 7: the object's first lists are read. -/
structure Got4 (w wB W : World) (B : Blk) (g8 : Nat) (b3 : List Int) (q3 : Bool) (C : V4) (x y : Int) : Prop where
  env : En w wB W B b3 q3
  k8 : W.heap[g8]? = some (.cells #[C.v0, C.v1, C.v2, C.v3, .int .i64 x, .int .i64 y, .slice none 0 0, .slice none 0 0, .slice none 0 0, .slice none 0 0] 28 (0, 0))
  lB : wB.heap.size ≤ g8
  lw : w.heap.size ≤ g8
  ne2 : B.o2 ≠ g8
  ls : L4 w C W
/-- The reader's bytes ahead of each number, and the numbers. -/
structure D7 where
  b0 : List Int
  q0 : Bool
  x4 : Int
  b1 : List Int
  q1 : Bool
  x5 : Int
  b2 : List Int
  q2 : Bool
def Pg7 (w wB : World) (B : Blk) (D : D7) (l : Nat → Bool) (W : World) : Prop :=
  if l 3 = true then En w wB W B D.b2 D.q2 else if l 1 = true then En w wB W B D.b1 D.q1 else En w wB W B D.b0 D.q0
section
variable {w wB W W' : World} {B : Blk} {D : D7} {l l' : Nat → Bool}
theorem Pg7.move (h : Pg7 w wB B D l W) (h1 : l' 1 = l 1) (h3 : l' 3 = l 3) (hE : ∀ bs bad, En w wB W B bs bad → En w wB W' B bs bad) : Pg7 w wB B D l' W' := by
  unfold Pg7 at h ⊢
  rw [h1, h3]
  split at h
  · rename_i c; rw [if_pos c]; exact hE _ _ h
  rename_i c
  rw [if_neg c]
  split at h
  · rename_i c; rw [if_pos c]; exact hE _ _ h
  rename_i c
  rw [if_neg c]
  exact hE _ _ h
theorem Pg7.env (h : Pg7 w wB B D l W) : ∃ bs bad, En w wB W B bs bad := by
  unfold Pg7 at h
  split at h
  · exact ⟨_, _, h⟩
  split at h
  · exact ⟨_, _, h⟩
  exact ⟨_, _, h⟩
theorem Pg7.c1 (h : Pg7 w wB B D l W) (h1 : l 1 = false) (h3 : l 3 = false) : En w wB W B D.b0 D.q0 := by
  unfold Pg7 at h; rw [h1, h3] at h; exact h
theorem Pg7.c3 (h : Pg7 w wB B D l W) (h1 : l 1 = true) (h3 : l 3 = false) : En w wB W B D.b1 D.q1 := by
  unfold Pg7 at h; rw [h1, h3] at h; exact h
theorem Pg7.fin (h : Pg7 w wB B D l W) (h3 : l 3 = true) : En w wB W B D.b2 D.q2 := by
  unfold Pg7 at h; rw [h3] at h; exact h
theorem Pg7.p1 (h3 : l 3 = false) (h : En w wB W B D.b1 D.q1) : Pg7 w wB B D (don l 1) W := by
  unfold Pg7; rw [don_self, don_ne l (i := 1) (j := 3) (by decide), h3]; exact h
theorem Pg7.p3 (h : En w wB W B D.b2 D.q2) : Pg7 w wB B D (don l 3) W := by
  unfold Pg7; rw [don_self]; exact h
end
abbrev cs7 (C : V4) (x y : Int) : Array Value := #[C.v0, C.v1, C.v2, C.v3, .int .i64 x, .int .i64 y, .slice none 0 0, .slice none 0 0, .slice none 0 0, .slice none 0 0]
structure I7 (w wB : World) (B : Blk) (D : D7) (C : V4) (g8 : Nat) (l : Nat → Bool) (vs : Nat → Value) (W : World) : Prop where
  p : Pg7 w wB B D l W
  k8 : W.heap[g8]? = some (.cells (cs7 C (if l 5 = true then D.x4 else 0) (if l 7 = true then D.x5 else 0)) 28 (0, 0))
  ls : L4 w C W
  a0 : l 0 = true → vs 0 = fSmall B.g6
  a1 : l 1 = true → vs 1 = .int .i64 D.x4
  a2 : l 2 = true → vs 2 = fSmall B.g6
  a3 : l 3 = true → vs 3 = .int .i64 D.x5
  a4 : l 4 = true → vs 4 = .pointer (some ⟨g8, 4, none⟩)
  a6 : l 6 = true → vs 6 = .pointer (some ⟨g8, 5, none⟩)
section
variable {w wB W W' : World} {B : Blk} {D : D7} {C : V4} {g8 : Nat} {l : Nat → Bool} {vs : Nat → Value}
theorem I7.still (h : I7 w wB B D C g8 l vs W) (i : Nat) (v : Value) (hi : i = 0 ∨ i = 2 ∨ i = 4 ∨ i = 6)
    (hv : (i = 0 → v = fSmall B.g6) ∧ (i = 2 → v = fSmall B.g6) ∧ (i = 4 → v = .pointer (some ⟨g8, 4, none⟩)) ∧ (i = 6 → v = .pointer (some ⟨g8, 5, none⟩))) : I7 w wB B D C g8 (don l i) (upd vs i v) W := by
  obtain ⟨v0, v2, v4, v6⟩ := hv
  obtain ⟨i1, i3, i5, i7⟩ : 1 ≠ i ∧ 3 ≠ i ∧ 5 ≠ i ∧ 7 ≠ i := by rcases hi with rfl | rfl | rfl | rfl <;> decide
  have one : ∀ (j : Nat) (x : Value), (i = j → v = x) → (l j = true → vs j = x) → don l i j = true → upd vs i v j = x := by
    intro j x h1 h2 h3
    by_cases e : i = j
    · subst e; rw [upd_self]; exact h1 rfl
    · rw [upd_ne vs v (Ne.symm e)]
      rw [don_ne l (Ne.symm e)] at h3
      exact h2 h3
  refine ⟨h.p.move (don_ne l i1) (don_ne l i3) (fun _ _ h => h), ?_, h.ls, one 0 _ v0 h.a0, one 1 _ (fun e => absurd e.symm i1) h.a1, one 2 _ v2 h.a2, one 3 _ (fun e => absurd e.symm i3) h.a3, one 4 _ v4 h.a4, one 6 _ v6 h.a6⟩
  rw [don_ne l i5, don_ne l i7]
  exact h.k8
theorem I7.call (h : I7 w wB B D C g8 l vs W) (i : Nat) (v : Value) (hi : i = 1 ∨ i = 3) (hp : Pg7 w wB B D (don l i) W') (hk : Kept W W' (only B.gr))
    (hv : (i = 1 → v = .int .i64 D.x4) ∧ (i = 3 → v = .int .i64 D.x5)) : I7 w wB B D C g8 (don l i) (upd vs i v) W' := by
  obtain ⟨v1, v3⟩ := hv
  obtain ⟨i0, i2, i4, i5, i6, i7⟩ : 0 ≠ i ∧ 2 ≠ i ∧ 4 ≠ i ∧ 5 ≠ i ∧ 6 ≠ i ∧ 7 ≠ i := by rcases hi with rfl | rfl <;> decide
  obtain ⟨bs, bad, E⟩ := h.p.env
  have one : ∀ (j : Nat) (x : Value), (i = j → v = x) → (l j = true → vs j = x) → don l i j = true → upd vs i v j = x := by
    intro j x h1 h2 h3
    by_cases e : i = j
    · subst e; rw [upd_self]; exact h1 rfl
    · rw [upd_ne vs v (Ne.symm e)]
      rw [don_ne l (Ne.symm e)] at h3
      exact h2 h3
  refine ⟨hp, ?_, h.ls.gr E hk, one 0 _ (fun e => absurd e.symm i0) h.a0, one 1 _ v1 h.a1, one 2 _ (fun e => absurd e.symm i2) h.a2, one 3 _ v3 h.a3, one 4 _ (fun e => absurd e.symm i4) h.a4, one 6 _ (fun e => absurd e.symm i6) h.a6⟩
  rw [don_ne l i5, don_ne l i7]
  exact blk_kept h.k8 hk (rd_ne h.k8 (by decide) E.r)
theorem I7.store (h : I7 w wB B D C g8 l vs W) (i k : Nat) (x : Int) (v : Value) (hi : (i = 5 ∧ k = 4 ∧ x = D.x4) ∨ (i = 7 ∧ k = 5 ∧ x = D.x5)) (lB : wB.heap.size ≤ g8) (lw : w.heap.size ≤ g8) (ne2 : B.o2 ≠ g8) :
    I7 w wB B D C g8 (don l i) (upd vs i v) (W.setCell ⟨g8, k, none⟩ (.int .i64 x)) := by
  obtain ⟨bs, bad, E⟩ := h.p.env
  have hk : Kept W (W.setCell ⟨g8, k, none⟩ (.int .i64 x)) (fun k => k = g8) := (Kept.refl W (fun k => k = g8)).setCell (p := ⟨g8, k, none⟩) (.inl rfl) _
  have hb : Below w.heap.size w (W.setCell ⟨g8, k, none⟩ (.int .i64 x)) := E.b.setCell lw _
  have hs := set_heap (i := k) (.int .i64 x) h.k8
  have h8 := h.k8
  have u : ∀ j, j ≠ i → upd vs i v j = vs j := fun j hj => upd_ne vs _ hj
  have d : ∀ j, j ≠ i → don l i j = l j := fun j hj => don_ne l hj
  obtain ⟨i0, i1, i2, i3, i4, i6⟩ : 0 ≠ i ∧ 1 ≠ i ∧ 2 ≠ i ∧ 3 ≠ i ∧ 4 ≠ i ∧ 6 ≠ i := by rcases hi with ⟨rfl, _⟩ | ⟨rfl, _⟩ <;> decide
  refine ⟨h.p.move (d 1 i1) (d 3 i3) (fun _ _ E => E.set h8 lB lw ne2 hk hb), ?_, h.ls.set h8 hk, fun hl => (u 0 i0).trans (h.a0 ((d 0 i0).symm.trans hl)), fun hl => (u 1 i1).trans (h.a1 ((d 1 i1).symm.trans hl)), fun hl => (u 2 i2).trans (h.a2 ((d 2 i2).symm.trans hl)), fun hl => (u 3 i3).trans (h.a3 ((d 3 i3).symm.trans hl)), fun hl => (u 4 i4).trans (h.a4 ((d 4 i4).symm.trans hl)), fun hl => (u 6 i6).trans (h.a6 ((d 6 i6).symm.trans hl))⟩
  rcases hi with ⟨rfl, rfl, rfl⟩ | ⟨rfl, rfl, rfl⟩
  · rw [don_self, d 7 (by decide)]
    exact hs
  · rw [don_self, d 5 (by decide)]
    exact hs
end
end Go.Proofs.Ytccolpkjgjjipaa.K
