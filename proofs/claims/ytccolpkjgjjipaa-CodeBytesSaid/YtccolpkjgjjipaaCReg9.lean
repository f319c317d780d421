/- What the loop over the four pieces holds in code.Object. -/
import Derived.Test.YtccolpkjgjjipaaCReg7
namespace Go.Proofs.Ytccolpkjgjjipaa.K
set_option linter.unusedSimpArgs false
open Go.RowKit Go.Proofs.YtccolpkjgjjipaaW.PrintWords Go.Proofs.YtccolpkjgjjipaaW.PrintLast Go.Proofs.YtccolpkjgjjipaaW.PrintMore Go.Proofs.Ytccolpkjgjjipaa.Inv
set_option linter.unusedVariables false
/-- What the reader holds behind k pieces, and the pieces. -/
def pS (b : List Int) (q : Bool) : Nat → List Int × Bool
  | 0 => (b, q)
  | k + 1 => (readF insF (pS b q k).1 (pS b q k).2).2
def pX (b : List Int) (q : Bool) (k : Nat) : List S47 := (readF insF (pS b q k).1 (pS b q k).2).1
theorem pS_le (b : List Int) (q : Bool) : ∀ k, (pS b q k).1.length ≤ b.length
  | 0 => Nat.le_refl _
  | k + 1 => Nat.le_trans (readF_le ins_le (rfl : readF insF (pS b q k).1 (pS b q k).2 = (_, _, _))).1 (pS_le b q k)
def pc (pv : Nat → Value) (k j : Nat) : Value := if j < k then pv j else .slice none 0 0
def Ps (w : World) (b : List Int) (q : Bool) (k : Nat) (pv : Nat → Value) (W : World) : Prop :=
  ∃ lo hi : Nat → Nat, (∀ j, j < k → hi j ≤ W.heap.size ∧ Lst k47 47 W w.heap.size (lo j) (hi j) (pv j) (pX b q j)) ∧ ∀ i j, i < j → j < k → hi i ≤ lo j
structure G9 (w wB W : World) (B : Blk) (g8 : Nat) (C : V4) (x y : Int) (b : List Int) (q : Bool) (k : Nat) : Prop where
  env : En w wB W B (pS b q k).1 (pS b q k).2
  lB : wB.heap.size ≤ g8
  lw : w.heap.size ≤ g8
  ne2 : B.o2 ≠ g8
  ls : L4 w C W
  ps : ∃ pv, W.heap[g8]? = some (.cells #[C.v0, C.v1, C.v2, C.v3, .int .i64 x, .int .i64 y, pc pv k 0, pc pv k 1, pc pv k 2, pc pv k 3] 28 (0, 0)) ∧ Ps w b q k pv W
theorem G9.start {w wB W : World} {B : Blk} {g8 : Nat} {C : V4} {x y : Int} {b : List Int} {q : Bool} (h : Got4 w wB W B g8 b q C x y) : G9 w wB W B g8 C x y b q 0 :=
  ⟨h.env, h.lB, h.lw, h.ne2, h.ls, fun _ => .slice none 0 0, h.k8, fun _ => 0, fun _ => 0, fun j h => absurd h (by omega), fun i j _ h => absurd h (by omega)⟩
theorem G9.below {w wB W W' : World} {B : Blk} {g8 : Nat} {C : V4} {x y : Int} {b : List Int} {q : Bool} {k : Nat} (h : G9 w wB W B g8 C x y b q k) (hb : Below W.heap.size W W') : G9 w wB W' B g8 C x y b q k := by
  obtain ⟨pv, h8, lo, hi, hp, ha⟩ := h.ps
  exact ⟨h.env.below hb, h.lB, h.lw, h.ne2, h.ls.below hb, pv, blk_below h8 hb, lo, hi, fun j hj => ⟨Nat.le_trans (hp j hj).1 hb.size, (hp j hj).2.below hb⟩, ha⟩
/-- A piece is read, and stored. -/
theorem G9.next {w wB W W' : World} {B : Blk} {g8 : Nat} {C : V4} {x y : Int} {b : List Int} {q : Bool} {k : Nat} (h : G9 w wB W B g8 C x y b q k) (hk4 : k < 4) {v : Value}
    (L : Lst k47 47 W' w.heap.size W.heap.size W'.heap.size v (pX b q k)) (hE : En w wB W' B (pS b q (k + 1)).1 (pS b q (k + 1)).2) (hk : Kept W W' (only B.gr)) :
    (∃ u, W'.cell? ⟨g8, 6 + k, none⟩ = some u) ∧ W'.frozen? ⟨g8, 6 + k, none⟩ = false ∧ G9 w wB (W'.setCell ⟨g8, 6 + k, none⟩ v) B g8 C x y b q (k + 1) := by
  obtain ⟨pv, h8, lo, hi, hp, ha⟩ := h.ps
  have h8' := blk_kept h8 hk (rd_ne h8 (by decide) h.env.r)
  have kS : Kept W' (W'.setCell ⟨g8, 6 + k, none⟩ v) (fun k => k = g8) := (Kept.refl W' (fun k => k = g8)).setCell (p := ⟨g8, 6 + k, none⟩) (.inl rfl) _
  refine ⟨?_, blk_frozen h8' _, hE.set h8' h.lB h.lw h.ne2 kS (hE.b.setCell h.lw _), h.lB, h.lw, h.ne2, (h.ls.gr h.env hk).set h8' kS, fun j => if j = k then v else pv j, ?_, fun j => if j = k then W.heap.size else lo j, fun j => if j = k then W'.heap.size else hi j, ?_, ?_⟩
  · rcases (by omega : k = 0 ∨ k = 1 ∨ k = 2 ∨ k = 3) with rfl | rfl | rfl | rfl <;> exact ⟨_, (blk_cell h8' _).trans rfl⟩
  · rw [set_heap v h8']
    rcases (by omega : k = 0 ∨ k = 1 ∨ k = 2 ∨ k = 3) with rfl | rfl | rfl | rfl <;> simp [pc]
  · intro j hj
    by_cases e : j = k
    · subst e
      simp only [if_pos]
      exact ⟨by simp, L.keep rfl h8' (by decide) kS⟩
    · simp only [if_neg e]
      have := hp j (by omega)
      exact ⟨by have := hk.1; simp; omega, (lst_gr rfl (by decide) this.2 h.env hk).keep rfl h8' (by decide) kS⟩
  · intro i j hij hj
    by_cases e : j = k
    · subst e
      dsimp only
      rw [if_pos rfl, if_neg (by omega)]
      exact (hp i hij).1
    · dsimp only
      rw [if_neg e, if_neg (by omega)]
      exact ha i j hij (by omega)
end Go.Proofs.Ytccolpkjgjjipaa.K
