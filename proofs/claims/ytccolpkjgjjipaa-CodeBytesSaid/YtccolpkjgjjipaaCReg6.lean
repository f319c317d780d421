/- What region 6 of code.Object holds, whatever is over. -/
import Derived.Test.YtccolpkjgjjipaaCEnv
import Derived.Test.YtccolpkjgjjipaaCInv
namespace Go.Proofs.Ytccolpkjgjjipaa.K
set_option linter.unusedSimpArgs false
open Go.RowKit Go.Proofs.YtccolpkjgjjipaaW.PrintWords Go.Proofs.YtccolpkjgjjipaaW.PrintLast Go.Proofs.YtccolpkjgjjipaaW.PrintMore Go.Proofs.Ytccolpkjgjjipaa.Inv
set_option linter.unusedVariables false
abbrev ptr (g : Nat) : Value := .pointer (some ⟨g, 0, none⟩)
abbrev fNum (gr : Nat) : Value := .func (.func 30) #[.pointer (some ⟨gr, 0, none⟩)] #[]
/-- The reader's bytes ahead of each list, and the lists. -/
structure D6 where
  b0 : List Int
  q0 : Bool
  x0 : List Int
  b1 : List Int
  q1 : Bool
  x1 : List Int
  b2 : List Int
  q2 : Bool
  x2 : List Int
  b3 : List Int
  q3 : Bool
  x3 : List Int
  b4 : List Int
  q4 : Bool
structure Blk where
  o2 : Nat
  gr : Nat
  g6 : Nat
  g7 : Nat
abbrev En (w wB W : World) (B : Blk) (bs : List Int) (bad : Bool) : Prop := Env w wB W B.o2 B.gr B.g6 B.g7 bs bad
/-- How far the calls have come. -/
def Pg (w wB : World) (B : Blk) (D : D6) (l : Nat → Bool) (vs : Nat → Value) (W : World) : Prop :=
  if l 13 = true then En w wB W B D.b4 D.q4 ∧ ∃ n0 n1 n2 n3 n4, n0 ≤ n1 ∧ n1 ≤ n2 ∧ n2 ≤ n3 ∧ n3 ≤ n4 ∧ n4 ≤ W.heap.size ∧ Lst (Kd.int .i64) 3 W w.heap.size n0 n1 (vs 2) D.x0 ∧ Lst (Kd.int .i64) 3 W w.heap.size n1 n2 (vs 5) D.x1 ∧ Lst (Kd.int .i64) 2 W w.heap.size n2 n3 (vs 9) D.x2 ∧ Lst (Kd.int .i64) 2 W w.heap.size n3 n4 (vs 13) D.x3
  else if l 9 = true then En w wB W B D.b3 D.q3 ∧ ∃ n0 n1 n2 n3, n0 ≤ n1 ∧ n1 ≤ n2 ∧ n2 ≤ n3 ∧ n3 ≤ W.heap.size ∧ Lst (Kd.int .i64) 3 W w.heap.size n0 n1 (vs 2) D.x0 ∧ Lst (Kd.int .i64) 3 W w.heap.size n1 n2 (vs 5) D.x1 ∧ Lst (Kd.int .i64) 2 W w.heap.size n2 n3 (vs 9) D.x2
  else if l 5 = true then En w wB W B D.b2 D.q2 ∧ ∃ n0 n1 n2, n0 ≤ n1 ∧ n1 ≤ n2 ∧ n2 ≤ W.heap.size ∧ Lst (Kd.int .i64) 3 W w.heap.size n0 n1 (vs 2) D.x0 ∧ Lst (Kd.int .i64) 3 W w.heap.size n1 n2 (vs 5) D.x1
  else if l 2 = true then En w wB W B D.b1 D.q1 ∧ ∃ n0 n1, n0 ≤ n1 ∧ n1 ≤ W.heap.size ∧ Lst (Kd.int .i64) 3 W w.heap.size n0 n1 (vs 2) D.x0
  else En w wB W B D.b0 D.q0
section
variable {w wB W W' : World} {B : Blk} {D : D6} {l l' : Nat → Bool} {vs vs' : Nat → Value}
theorem Pg.move (h : Pg w wB B D l vs W) (hl2 : l' 2 = l 2) (hl5 : l' 5 = l 5) (hl9 : l' 9 = l 9) (hl13 : l' 13 = l 13) (hv2 : vs' 2 = vs 2) (hv5 : vs' 5 = vs 5) (hv9 : vs' 9 = vs 9) (hv13 : vs' 13 = vs 13)
    (hE : ∀ bs bad, En w wB W B bs bad → En w wB W' B bs bad) (hL : ∀ (e lo hi : Nat) (v : Value) (xs : List Int), e = 3 ∨ e = 2 → Lst (Kd.int .i64) e W w.heap.size lo hi v xs → Lst (Kd.int .i64) e W' w.heap.size lo hi v xs) (hs : W.heap.size ≤ W'.heap.size) : Pg w wB B D l' vs' W' := by
  unfold Pg at h ⊢
  rw [hl2, hl5, hl9, hl13, hv2, hv5, hv9, hv13]
  split at h
  · rename_i c
    rw [if_pos c]
    obtain ⟨e, n0, n1, n2, n3, n4, a, b, c, d, f, L0, L1, L2, L3⟩ := h
    exact ⟨hE _ _ e, n0, n1, n2, n3, n4, a, b, c, d, by omega, hL _ _ _ _ _ (.inl rfl) L0, hL _ _ _ _ _ (.inl rfl) L1, hL _ _ _ _ _ (.inr rfl) L2, hL _ _ _ _ _ (.inr rfl) L3⟩
  rename_i c
  rw [if_neg c]
  split at h
  · rename_i c
    rw [if_pos c]
    obtain ⟨e, n0, n1, n2, n3, a, b, c, f, L0, L1, L2⟩ := h
    exact ⟨hE _ _ e, n0, n1, n2, n3, a, b, c, by omega, hL _ _ _ _ _ (.inl rfl) L0, hL _ _ _ _ _ (.inl rfl) L1, hL _ _ _ _ _ (.inr rfl) L2⟩
  rename_i c
  rw [if_neg c]
  split at h
  · rename_i c
    rw [if_pos c]
    obtain ⟨e, n0, n1, n2, a, b, f, L0, L1⟩ := h
    exact ⟨hE _ _ e, n0, n1, n2, a, b, by omega, hL _ _ _ _ _ (.inl rfl) L0, hL _ _ _ _ _ (.inl rfl) L1⟩
  rename_i c
  rw [if_neg c]
  split at h
  · rename_i c
    rw [if_pos c]
    obtain ⟨e, n0, n1, a, f, L0⟩ := h
    exact ⟨hE _ _ e, n0, n1, a, by omega, hL _ _ _ _ _ (.inl rfl) L0⟩
  rename_i c
  rw [if_neg c]
  exact hE _ _ h
theorem Pg.env (h : Pg w wB B D l vs W) : ∃ bs bad, En w wB W B bs bad := by
  unfold Pg at h
  split at h
  · exact ⟨_, _, h.1⟩
  split at h
  · exact ⟨_, _, h.1⟩
  split at h
  · exact ⟨_, _, h.1⟩
  split at h
  · exact ⟨_, _, h.1⟩
  exact ⟨_, _, h⟩
end
/-- What the array's block holds. -/
def has8 (w wB : World) (B : Blk) (l : Nat → Bool) (vs : Nat → Value) (W : World) : Prop :=
  ∃ g8, vs 15 = ptr g8 ∧ wB.heap.size ≤ g8 ∧ w.heap.size ≤ g8 ∧ B.o2 ≠ g8 ∧ W.heap[g8]? = some (.cells (if l 16 = true then #[vs 2, vs 5, vs 9, vs 13, .int .i64 0, .int .i64 0, .slice none 0 0, .slice none 0 0, .slice none 0 0, .slice none 0 0] else zero28) 28 (0, 0))
structure I6 (w wB : World) (B : Blk) (D : D6) (l : Nat → Bool) (vs : Nat → Value) (W : World) : Prop where
  p : Pg w wB B D l vs W
  a0 : l 0 = true → vs 0 = ptr B.gr
  a1 : l 1 = true → vs 1 = fSmall B.g6
  a3 : l 3 = true → vs 3 = ptr B.gr
  a4 : l 4 = true → vs 4 = fSmall B.g6
  a6 : l 6 = true → vs 6 = ptr B.gr
  a7 : l 7 = true → vs 7 = ptr B.gr
  a8 : l 8 = true → vs 8 = fNum B.gr
  a10 : l 10 = true → vs 10 = ptr B.gr
  a11 : l 11 = true → vs 11 = ptr B.gr
  a12 : l 12 = true → vs 12 = fNum B.gr
  a14 : l 14 = true → vs 14 = .agg #[vs 2, vs 5, vs 9, vs 13, .int .i64 0, .int .i64 0, .slice none 0 0, .slice none 0 0, .slice none 0 0, .slice none 0 0]
  a15 : l 15 = true → has8 w wB B l vs W
section
variable {w wB W W' : World} {B : Blk} {D : D6} {l : Nat → Bool} {vs : Nat → Value}
theorem six_ne {i : Nat} (hi : i = 0 ∨ i = 1 ∨ i = 3 ∨ i = 4 ∨ i = 6 ∨ i = 7 ∨ i = 8 ∨ i = 10 ∨ i = 11 ∨ i = 12 ∨ i = 14) : 2 ≠ i ∧ 5 ≠ i ∧ 9 ≠ i ∧ 13 ≠ i ∧ 15 ≠ i ∧ 16 ≠ i := by
  rcases hi with rfl | rfl | rfl | rfl | rfl | rfl | rfl | rfl | rfl | rfl | rfl <;> decide
/-- An operation that leaves the world alone, and is none of those that the others lean on by value. -/
theorem I6.still (h : I6 w wB B D l vs W) (i : Nat) (v : Value) (hi : i = 0 ∨ i = 1 ∨ i = 3 ∨ i = 4 ∨ i = 6 ∨ i = 7 ∨ i = 8 ∨ i = 10 ∨ i = 11 ∨ i = 12 ∨ i = 14)
    (hv : (i = 0 → v = ptr B.gr) ∧ (i = 1 → v = fSmall B.g6) ∧ (i = 3 → v = ptr B.gr) ∧ (i = 4 → v = fSmall B.g6) ∧ (i = 6 → v = ptr B.gr) ∧ (i = 7 → v = ptr B.gr) ∧ (i = 8 → v = fNum B.gr) ∧ (i = 10 → v = ptr B.gr) ∧ (i = 11 → v = ptr B.gr) ∧ (i = 12 → v = fNum B.gr) ∧ (i = 14 → v = .agg #[vs 2, vs 5, vs 9, vs 13, .int .i64 0, .int .i64 0, .slice none 0 0, .slice none 0 0, .slice none 0 0, .slice none 0 0])) : I6 w wB B D (don l i) (upd vs i v) W := by
  obtain ⟨v0, v1, v3, v4, v6, v7, v8, v10, v11, v12, v14⟩ := hv
  obtain ⟨i2, i5, i9, i13, i15, i16⟩ := six_ne hi
  have e2 : upd vs i v 2 = vs 2 := upd_ne vs v i2
  have e5 : upd vs i v 5 = vs 5 := upd_ne vs v i5
  have e9 : upd vs i v 9 = vs 9 := upd_ne vs v i9
  have e13 : upd vs i v 13 = vs 13 := upd_ne vs v i13
  have e15 : upd vs i v 15 = vs 15 := upd_ne vs v i15
  have d2 : don l i 2 = l 2 := don_ne l i2
  have d5 : don l i 5 = l 5 := don_ne l i5
  have d9 : don l i 9 = l 9 := don_ne l i9
  have d13 : don l i 13 = l 13 := don_ne l i13
  have d15 : don l i 15 = l 15 := don_ne l i15
  have d16 : don l i 16 = l 16 := don_ne l i16
  have one : ∀ (j : Nat) (x : Value), (i = j → v = x) → (l j = true → vs j = x) → don l i j = true → upd vs i v j = x := by
    intro j x h1 h2 h3
    by_cases e : i = j
    · subst e; rw [upd_self]; exact h1 rfl
    · rw [upd_ne vs v (Ne.symm e)]
      rw [don_ne l (Ne.symm e)] at h3
      exact h2 h3
  have hp : Pg w wB B D (don l i) (upd vs i v) W := h.p.move d2 d5 d9 d13 e2 e5 e9 e13 (fun _ _ h => h) (fun _ _ _ _ _ _ h => h) (Nat.le_refl _)
  have h14 : don l i 14 = true → upd vs i v 14 = .agg #[upd vs i v 2, upd vs i v 5, upd vs i v 9, upd vs i v 13, .int .i64 0, .int .i64 0, .slice none 0 0, .slice none 0 0, .slice none 0 0, .slice none 0 0] := by
    rw [e2, e5, e9, e13]
    exact one 14 _ v14 h.a14
  have h15 : don l i 15 = true → has8 w wB B (don l i) (upd vs i v) W := by
    intro hl
    rw [d15] at hl
    obtain ⟨g8, a, b, c, d, f⟩ := h.a15 hl
    refine ⟨g8, e15.trans a, b, c, d, ?_⟩
    rw [d16, e2, e5, e9, e13]
    exact f
  exact ⟨hp, one 0 _ v0 h.a0, one 1 _ v1 h.a1, one 3 _ v3 h.a3, one 4 _ v4 h.a4, one 6 _ v6 h.a6, one 7 _ v7 h.a7, one 8 _ v8 h.a8, one 10 _ v10 h.a10, one 11 _ v11 h.a11, one 12 _ v12 h.a12, h14, h15⟩
/-- The alloc. -/
theorem I6.alloc (h : I6 w wB B D l vs W) (h16 : l 16 = false) : I6 w wB B D (don l 15) (upd vs 15 (ptr W.heap.size)) (W.alloc (Obj.cells zero28 28)) := by
  obtain ⟨bs, bad, E⟩ := h.p.env
  have hb : Below W.heap.size W (W.alloc (Obj.cells zero28 28)) := (Below.refl _ _).alloc (Nat.le_refl _) _
  have u : ∀ j, j ≠ 15 → upd vs 15 (ptr W.heap.size) j = vs j := fun j hj => upd_ne vs _ hj
  have d : ∀ j, j ≠ 15 → don l 15 j = l j := fun j hj => don_ne l hj
  have one : ∀ (j : Nat) (x : Value), j ≠ 15 → (l j = true → vs j = x) → don l 15 j = true → upd vs 15 (ptr W.heap.size) j = x := fun j x hj h2 h3 => (u j hj).trans (h2 ((d j hj).symm.trans h3))
  have h14 : don l 15 14 = true → upd vs 15 (ptr W.heap.size) 14 = .agg #[upd vs 15 (ptr W.heap.size) 2, upd vs 15 (ptr W.heap.size) 5, upd vs 15 (ptr W.heap.size) 9, upd vs 15 (ptr W.heap.size) 13, .int .i64 0, .int .i64 0, .slice none 0 0, .slice none 0 0, .slice none 0 0, .slice none 0 0] := by
    rw [u 2 (by decide), u 5 (by decide), u 9 (by decide), u 13 (by decide)]
    exact one 14 _ (by decide) h.a14
  refine ⟨h.p.move (d 2 (by decide)) (d 5 (by decide)) (d 9 (by decide)) (d 13 (by decide)) (u 2 (by decide)) (u 5 (by decide)) (u 9 (by decide)) (u 13 (by decide)) (fun _ _ h => h.below hb) (fun _ _ _ _ _ _ h => h.below hb) hb.size, one 0 _ (by decide) h.a0, one 1 _ (by decide) h.a1, one 3 _ (by decide) h.a3, one 4 _ (by decide) h.a4, one 6 _ (by decide) h.a6, one 7 _ (by decide) h.a7, one 8 _ (by decide) h.a8, one 10 _ (by decide) h.a10, one 11 _ (by decide) h.a11, one 12 _ (by decide) h.a12, h14, fun _ => ⟨W.heap.size, upd_self _ _ _, E.sizeB, E.b.size, ?_, ?_⟩⟩
  · exact Nat.ne_of_lt (blk_lt E.k2)
  · rw [d 16 (by decide), h16]
    exact blk_new W _
/-- A call. -/
theorem I6.call (h : I6 w wB B D l vs W) (i : Nat) (v : Value) (hi : i = 2 ∨ i = 5 ∨ i = 9 ∨ i = 13) (hp : Pg w wB B D (don l i) (upd vs i v) W') (hk : Kept W W' (only B.gr)) (h14 : l 14 = false) (h16 : l 16 = false) : I6 w wB B D (don l i) (upd vs i v) W' := by
  obtain ⟨bs, bad, E⟩ := h.p.env
  have one : ∀ (j : Nat) (x : Value), j ≠ i → (l j = true → vs j = x) → don l i j = true → upd vs i v j = x := fun j x hj h2 h3 => (upd_ne vs v hj).trans (h2 ((don_ne l hj).symm.trans h3))
  obtain ⟨n0, n1, n3, n4, n6, n7, n8, n10, n11, n12, n14, n15, n16⟩ : 0 ≠ i ∧ 1 ≠ i ∧ 3 ≠ i ∧ 4 ≠ i ∧ 6 ≠ i ∧ 7 ≠ i ∧ 8 ≠ i ∧ 10 ≠ i ∧ 11 ≠ i ∧ 12 ≠ i ∧ 14 ≠ i ∧ 15 ≠ i ∧ 16 ≠ i := by
    rcases hi with rfl | rfl | rfl | rfl <;> decide
  refine ⟨hp, one 0 _ n0 h.a0, one 1 _ n1 h.a1, one 3 _ n3 h.a3, one 4 _ n4 h.a4, one 6 _ n6 h.a6, one 7 _ n7 h.a7, one 8 _ n8 h.a8, one 10 _ n10 h.a10, one 11 _ n11 h.a11, one 12 _ n12 h.a12, fun hl => ?_, fun hl => ?_⟩
  · rw [don_ne l n14, h14] at hl
    cases hl
  · rw [don_ne l n15] at hl
    obtain ⟨g8, a, b, c, d, f⟩ := h.a15 hl
    rw [h16] at f
    refine ⟨g8, (upd_ne vs v n15).trans a, b, c, d, ?_⟩
    rw [don_ne l n16, h16]
    exact blk_kept f hk (rd_ne f (by decide) E.r)
theorem Pg.c2 (h : Pg w wB B D l vs W) (h2 : l 2 = false) (h5 : l 5 = false) (h9 : l 9 = false) (h13 : l 13 = false) : En w wB W B D.b0 D.q0 := by
  unfold Pg at h
  rw [h2, h5, h9, h13] at h
  exact h
theorem Pg.c5 (h : Pg w wB B D l vs W) (h2 : l 2 = true) (h5 : l 5 = false) (h9 : l 9 = false) (h13 : l 13 = false) : En w wB W B D.b1 D.q1 ∧ ∃ n0 n1, n0 ≤ n1 ∧ n1 ≤ W.heap.size ∧ Lst (Kd.int .i64) 3 W w.heap.size n0 n1 (vs 2) D.x0 := by
  unfold Pg at h
  rw [h2, h5, h9, h13] at h
  exact h
theorem Pg.c9 (h : Pg w wB B D l vs W) (h5 : l 5 = true) (h9 : l 9 = false) (h13 : l 13 = false) : En w wB W B D.b2 D.q2 ∧ ∃ n0 n1 n2, n0 ≤ n1 ∧ n1 ≤ n2 ∧ n2 ≤ W.heap.size ∧ Lst (Kd.int .i64) 3 W w.heap.size n0 n1 (vs 2) D.x0 ∧ Lst (Kd.int .i64) 3 W w.heap.size n1 n2 (vs 5) D.x1 := by
  unfold Pg at h
  rw [h5, h9, h13] at h
  exact h
theorem Pg.c13 (h : Pg w wB B D l vs W) (h9 : l 9 = true) (h13 : l 13 = false) : En w wB W B D.b3 D.q3 ∧ ∃ n0 n1 n2 n3, n0 ≤ n1 ∧ n1 ≤ n2 ∧ n2 ≤ n3 ∧ n3 ≤ W.heap.size ∧ Lst (Kd.int .i64) 3 W w.heap.size n0 n1 (vs 2) D.x0 ∧ Lst (Kd.int .i64) 3 W w.heap.size n1 n2 (vs 5) D.x1 ∧ Lst (Kd.int .i64) 2 W w.heap.size n2 n3 (vs 9) D.x2 := by
  unfold Pg at h
  rw [h9, h13] at h
  exact h
theorem Pg.fin (h : Pg w wB B D l vs W) (h13 : l 13 = true) : En w wB W B D.b4 D.q4 ∧ ∃ n0 n1 n2 n3 n4, n0 ≤ n1 ∧ n1 ≤ n2 ∧ n2 ≤ n3 ∧ n3 ≤ n4 ∧ n4 ≤ W.heap.size ∧ Lst (Kd.int .i64) 3 W w.heap.size n0 n1 (vs 2) D.x0 ∧ Lst (Kd.int .i64) 3 W w.heap.size n1 n2 (vs 5) D.x1 ∧ Lst (Kd.int .i64) 2 W w.heap.size n2 n3 (vs 9) D.x2 ∧ Lst (Kd.int .i64) 2 W w.heap.size n3 n4 (vs 13) D.x3 := by
  unfold Pg at h
  rw [h13] at h
  exact h
variable {v : Value}
theorem Pg.p2 (h5 : l 5 = false) (h9 : l 9 = false) (h13 : l 13 = false) (hE : En w wB W' B D.b1 D.q1) (hk : Kept W W' (only B.gr)) (L : Lst (Kd.int .i64) 3 W' w.heap.size W.heap.size W'.heap.size v D.x0) : Pg w wB B D (don l 2) (upd vs 2 v) W' := by
  have e : Pg w wB B D (don l 2) (upd vs 2 v) W' ↔ (En w wB W' B D.b1 D.q1 ∧ ∃ n0 n1, n0 ≤ n1 ∧ n1 ≤ W'.heap.size ∧ Lst (Kd.int .i64) 3 W' w.heap.size n0 n1 v D.x0) := by
    unfold Pg
    rw [don_self, don_ne l (i := 2) (j := 5) (by decide), don_ne l (i := 2) (j := 9) (by decide), don_ne l (i := 2) (j := 13) (by decide), h5, h9, h13]
    exact Iff.rfl
  exact e.2 ⟨hE, _, _, hk.1, Nat.le_refl _, L⟩
theorem Pg.p5 (h : Pg w wB B D l vs W) (h2 : l 2 = true) (h5 : l 5 = false) (h9 : l 9 = false) (h13 : l 13 = false) (hE : En w wB W' B D.b2 D.q2) (hk : Kept W W' (only B.gr)) (L : Lst (Kd.int .i64) 3 W' w.heap.size W.heap.size W'.heap.size v D.x1) : Pg w wB B D (don l 5) (upd vs 5 v) W' := by
  obtain ⟨E, n0, n1, a, b, L0⟩ := h.c5 h2 h5 h9 h13
  have e : Pg w wB B D (don l 5) (upd vs 5 v) W' ↔ (En w wB W' B D.b2 D.q2 ∧ ∃ n0 n1 n2, n0 ≤ n1 ∧ n1 ≤ n2 ∧ n2 ≤ W'.heap.size ∧ Lst (Kd.int .i64) 3 W' w.heap.size n0 n1 (vs 2) D.x0 ∧ Lst (Kd.int .i64) 3 W' w.heap.size n1 n2 v D.x1) := by
    unfold Pg
    rw [don_self, don_ne l (i := 5) (j := 2) (by decide), don_ne l (i := 5) (j := 9) (by decide), don_ne l (i := 5) (j := 13) (by decide), h2, h9, h13]
    exact Iff.rfl
  exact e.2 ⟨hE, n0, W.heap.size, W'.heap.size, Nat.le_trans a b, hk.1, Nat.le_refl _, Kd.R_mono (lst_gr rfl (by decide) L0 E hk) (fun k hk => ⟨hk.1, Nat.lt_of_lt_of_le hk.2 b⟩), L⟩
theorem Pg.p9 (h : Pg w wB B D l vs W) (h5 : l 5 = true) (h9 : l 9 = false) (h13 : l 13 = false) (hE : En w wB W' B D.b3 D.q3) (hk : Kept W W' (only B.gr)) (L : Lst (Kd.int .i64) 2 W' w.heap.size W.heap.size W'.heap.size v D.x2) : Pg w wB B D (don l 9) (upd vs 9 v) W' := by
  obtain ⟨E, n0, n1, n2, a, b, c, L0, L1⟩ := h.c9 h5 h9 h13
  have e : Pg w wB B D (don l 9) (upd vs 9 v) W' ↔ (En w wB W' B D.b3 D.q3 ∧ ∃ n0 n1 n2 n3, n0 ≤ n1 ∧ n1 ≤ n2 ∧ n2 ≤ n3 ∧ n3 ≤ W'.heap.size ∧ Lst (Kd.int .i64) 3 W' w.heap.size n0 n1 (vs 2) D.x0 ∧ Lst (Kd.int .i64) 3 W' w.heap.size n1 n2 (vs 5) D.x1 ∧ Lst (Kd.int .i64) 2 W' w.heap.size n2 n3 v D.x2) := by
    unfold Pg
    rw [don_self, don_ne l (i := 9) (j := 5) (by decide), don_ne l (i := 9) (j := 2) (by decide), don_ne l (i := 9) (j := 13) (by decide), h5, h13]
    exact Iff.rfl
  exact e.2 ⟨hE, n0, n1, W.heap.size, W'.heap.size, a, Nat.le_trans b c, hk.1, Nat.le_refl _, lst_gr rfl (by decide) L0 E hk, Kd.R_mono (lst_gr rfl (by decide) L1 E hk) (fun k hk => ⟨hk.1, Nat.lt_of_lt_of_le hk.2 c⟩), L⟩
theorem Pg.p13 (h : Pg w wB B D l vs W) (h9 : l 9 = true) (h13 : l 13 = false) (hE : En w wB W' B D.b4 D.q4) (hk : Kept W W' (only B.gr)) (L : Lst (Kd.int .i64) 2 W' w.heap.size W.heap.size W'.heap.size v D.x3) : Pg w wB B D (don l 13) (upd vs 13 v) W' := by
  obtain ⟨E, n0, n1, n2, n3, a, b, c, d, L0, L1, L2⟩ := h.c13 h9 h13
  have e : Pg w wB B D (don l 13) (upd vs 13 v) W' ↔ (En w wB W' B D.b4 D.q4 ∧ ∃ n0 n1 n2 n3 n4, n0 ≤ n1 ∧ n1 ≤ n2 ∧ n2 ≤ n3 ∧ n3 ≤ n4 ∧ n4 ≤ W'.heap.size ∧ Lst (Kd.int .i64) 3 W' w.heap.size n0 n1 (vs 2) D.x0 ∧ Lst (Kd.int .i64) 3 W' w.heap.size n1 n2 (vs 5) D.x1 ∧ Lst (Kd.int .i64) 2 W' w.heap.size n2 n3 (vs 9) D.x2 ∧ Lst (Kd.int .i64) 2 W' w.heap.size n3 n4 v D.x3) := by
    unfold Pg
    rw [don_self]
    exact Iff.rfl
  exact e.2 ⟨hE, n0, n1, n2, W.heap.size, W'.heap.size, a, b, Nat.le_trans c d, hk.1, Nat.le_refl _, lst_gr rfl (by decide) L0 E hk, lst_gr rfl (by decide) L1 E hk, Kd.R_mono (lst_gr rfl (by decide) L2 E hk) (fun k hk => ⟨hk.1, Nat.lt_of_lt_of_le hk.2 d⟩), L⟩
/-- The store. -/
theorem I6.store (h : I6 w wB B D l vs W) (h15 : l 15 = true) (h16 : l 16 = false) {W' : World} {v : Value}
    (hW : ∀ g8, vs 15 = ptr g8 → Kept W W' (fun k => k = g8) ∧ Below w.heap.size w W' ∧ W'.heap[g8]? = some (.cells #[vs 2, vs 5, vs 9, vs 13, .int .i64 0, .int .i64 0, .slice none 0 0, .slice none 0 0, .slice none 0 0, .slice none 0 0] 28 (0, 0))) : I6 w wB B D (don l 16) (upd vs 16 v) W' := by
  obtain ⟨g8, a, b, c, d, f⟩ := h.a15 h15
  rw [h16] at f
  obtain ⟨hk, hb, hn⟩ := hW g8 a
  have u : ∀ j, j ≠ 16 → upd vs 16 v j = vs j := fun j hj => upd_ne vs _ hj
  have dd : ∀ j, j ≠ 16 → don l 16 j = l j := fun j hj => don_ne l hj
  have one : ∀ (j : Nat) (x : Value), j ≠ 16 → (l j = true → vs j = x) → don l 16 j = true → upd vs 16 v j = x := fun j x hj h2 h3 => (u j hj).trans (h2 ((dd j hj).symm.trans h3))
  have h14 : don l 16 14 = true → upd vs 16 v 14 = .agg #[upd vs 16 v 2, upd vs 16 v 5, upd vs 16 v 9, upd vs 16 v 13, .int .i64 0, .int .i64 0, .slice none 0 0, .slice none 0 0, .slice none 0 0, .slice none 0 0] := by
    rw [u 2 (by decide), u 5 (by decide), u 9 (by decide), u 13 (by decide)]
    exact one 14 _ (by decide) h.a14
  have f' : W.heap[g8]? = some (.cells zero28 28 (0, 0)) := f
  refine ⟨h.p.move (dd 2 (by decide)) (dd 5 (by decide)) (dd 9 (by decide)) (dd 13 (by decide)) (u 2 (by decide)) (u 5 (by decide)) (u 9 (by decide)) (u 13 (by decide)) (fun _ _ E => E.set f' b c d hk hb) (fun e _ _ _ _ he L => L.keep rfl f' (by rcases he with rfl | rfl <;> decide) hk) hk.1, one 0 _ (by decide) h.a0, one 1 _ (by decide) h.a1, one 3 _ (by decide) h.a3, one 4 _ (by decide) h.a4, one 6 _ (by decide) h.a6, one 7 _ (by decide) h.a7, one 8 _ (by decide) h.a8, one 10 _ (by decide) h.a10, one 11 _ (by decide) h.a11, one 12 _ (by decide) h.a12, h14, fun _ => ⟨g8, (u 15 (by decide)).trans a, b, c, d, ?_⟩⟩
  rw [don_self, u 2 (by decide), u 5 (by decide), u 9 (by decide), u 13 (by decide)]
  exact hn
end
end Go.Proofs.Ytccolpkjgjjipaa.K
