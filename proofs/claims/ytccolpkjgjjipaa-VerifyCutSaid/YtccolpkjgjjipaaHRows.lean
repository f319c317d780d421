/- The Go function verify.rows hands back the table of all Ops' fields. -/
import Derived.Test.YtccolpkjgjjipaaQ0
import Derived.LoopN
import Derived.Laws.Tables
import Derived.Laws.Rows
import Derived.Outline
namespace Go.Proofs.Ytccolpkjgjjipaa.Q
open Go.RowKit Go.Proofs.YtccolpkjgjjipaaW.PrintWords Go.Proofs.YtccolpkjgjjipaaW.PrintLast Go.Proofs.YtccolpkjgjjipaaW.PrintMore

/-- The table's row of an Op: which of its fields D, A, B, C are registers. -/
noncomputable def rowOf (op : Nat) : List Value := [.bool (decide (1 ≤ op) && decide (op ≤ 18)), .bool (decide (6 ≤ op)), .bool (decide (9 ≤ op) && decide (op ≤ 18)), .bool (decide (op = 18))]
noncomputable def rowsVal : Array Value := ((List.range 23).flatMap rowOf).toArray
/-- The array behind k rounds. -/
noncomputable def rowsTo : Nat → Array Value
  | 0 => Try.zeroCells84
  | k + 1 => ((((rowsTo k).setIfInBounds (k * 4) (.bool (decide (1 ≤ k) && decide (k ≤ 18)))).setIfInBounds (k * 4 + 1) (.bool (decide (6 ≤ k)))).setIfInBounds (k * 4 + 2) (.bool (decide (9 ≤ k) && decide (k ≤ 18)))).setIfInBounds (k * 4 + 3) (.bool (decide (k = 18)))
theorem rowsTo_all : rowsTo 23 = rowsVal := by kernel_rfl
theorem below_setRow {B : Nat} {w W : World} (h : Below B w W) (g : Nat) (cs : Array Value) (hg : B ≤ g) : Below B w (W.setRow g cs) :=
  ⟨h.os, h.tape, h.output, by simpa [World.setRow] using h.size, fun i hi => by
    rw [← h.block i hi]
    simp [World.setRow, Array.getElem?_modify, show ¬ g = i by omega]⟩
theorem rowsTo_size (k : Nat) : (rowsTo k).size = 92 := by
  induction k with
  | zero => kernel_rfl
  | succ k ih => simp [rowsTo, ih]
theorem rowsTo_eq (k : Nat) {b1 b2 b3 b4 b5 : Bool} (h1 : decide (1 ≤ (k : Int)) = b1) (h2 : decide ((k : Int) ≤ 18) = b2) (h3 : decide (6 ≤ (k : Int)) = b3) (h4 : decide (9 ≤ (k : Int)) = b4) (h5 : ((k : Int) == 18) = b5) :
    rowsTo (k + 1) = ((((rowsTo k).setIfInBounds (k * 4) (.bool (b1 && b2))).setIfInBounds (k * 4 + 1) (.bool b3)).setIfInBounds (k * 4 + 2) (.bool (b4 && b2))).setIfInBounds (k * 4 + 3) (.bool b5) := by
  have e1 : decide (1 ≤ k) = b1 := by rw [← h1]; exact decide_eq_decide.2 (by omega)
  have e2 : decide (k ≤ 18) = b2 := by rw [← h2]; exact decide_eq_decide.2 (by omega)
  have e3 : decide (6 ≤ k) = b3 := by rw [← h3]; exact decide_eq_decide.2 (by omega)
  have e4 : decide (9 ≤ k) = b4 := by rw [← h4]; exact decide_eq_decide.2 (by omega)
  have e5 : decide (k = 18) = b5 := by
    rw [← h5]
    by_cases h : k = 18
    · subst h; rfl
    · rw [decide_eq_false h]; exact (beq_eq_false_iff_ne.2 (by omega)).symm
  rw [rowsTo, e1, e2, e3, e4, e5]
theorem rowsTo_get (k i : Nat) (h : i < 92) : ∃ v, (rowsTo k)[i]? = some v := by
  rw [Array.getElem?_eq_getElem (by rw [rowsTo_size]; exact h)]
  exact ⟨_, rfl⟩
set_option maxHeartbeats 2000000 in
set_option maxRecDepth 100000 in
theorem rows_any (w : World) :
    Calls Try.prog 52 #[] w fun e w' => e = .returned (.agg rowsVal) ∧ Below w.heap.size w w' := by
  go_enter Try.func52, Try.ntmps52
  go_wp2
  go_loopw [2, 3] (fun _ i wr => ∃ k : Nat, k ≤ 23 ∧ i = .int .i64 k ∧ Aside0 (wr = (w.alloc (Obj.cells Try.zeroCells84 84)).alloc (Obj.cells (rowsTo k) 84))) (fun _ i _ => 23 - (intOf i).toNat)
  case atStart => exact ⟨0, by omega, rfl, ⟨rfl⟩⟩
  case round =>
    obtain ⟨k, hk, rfl, HR⟩ := hrel
    by_cases hlt : k < 23
    · have HR := HR.out
      subst HR
      obtain ⟨v0, g0⟩ := rowsTo_get k (k * 4) (by omega)
      obtain ⟨v1, g1⟩ := rowsTo_get k (k * 4 + 1) (by omega)
      obtain ⟨v2, g2⟩ := rowsTo_get k (k * 4 + 2) (by omega)
      obtain ⟨v3, g3⟩ := rowsTo_get k (k * 4 + 3) (by omega)
      have hlt' : (k : Int) < 23 := by omega
      obtain ⟨b1, h1⟩ : ∃ b, decide (1 ≤ (k : Int)) = b := ⟨_, rfl⟩
      obtain ⟨b2, h2⟩ : ∃ b, decide ((k : Int) ≤ 18) = b := ⟨_, rfl⟩
      obtain ⟨b3, h3⟩ : ∃ b, decide (6 ≤ (k : Int)) = b := ⟨_, rfl⟩
      obtain ⟨b4, h4⟩ : ∃ b, decide (9 ≤ (k : Int)) = b := ⟨_, rfl⟩
      obtain ⟨b5, h5⟩ : ∃ b, ((k : Int) == 18) = b := ⟨_, rfl⟩
      have H1 := Aside0.mk h1
      have H2 := Aside0.mk h2
      have H3 := Aside0.mk h3
      have H4 := Aside0.mk h4
      have H5 := Aside0.mk h5
      cases b1 <;> cases b4
      all_goals
        have E := Aside0.mk (rowsTo_eq k H1.out H2.out H3.out H4.out H5.out)
        simp only [Bool.true_and, Bool.false_and] at E
        go_wp2
        go_roundw
        case rel => exact ⟨k + 1, by omega, by go_num, ⟨by rw [E.out]⟩⟩
        case measure => simp [intOf]; omega
    · obtain rfl : k = 23 := by omega
      have HR := HR.out
      subst HR
      rw [rowsTo_all]
      have hb1 : ((w.alloc (Obj.cells Try.zeroCells84 84)).alloc (Obj.cells rowsVal 84)).heap[w.heap.size + 1]? = some (.cells rowsVal 84 (0, 0)) := by
        have := heap_alloc_new (w.alloc (Obj.cells Try.zeroCells84 84)) (Obj.cells rowsVal 84)
        simpa using this
      have hb0 : ((w.alloc (Obj.cells Try.zeroCells84 84)).alloc (Obj.cells rowsVal 84)).heap[w.heap.size]? = some (.cells Try.zeroCells84 84 (0, 0)) := heap_alloc2_old w _ _
      obtain ⟨w2, hw2⟩ : ∃ w2, w2 = (w.alloc (Obj.cells Try.zeroCells84 84)).alloc (Obj.cells rowsVal 84) := ⟨_, rfl⟩
      have HB := Aside0.mk (show Below w.heap.size w w2 by rw [hw2]; exact ((Below.refl _ _).alloc (Nat.le_refl _) _).alloc (by simp) _)
      rw [← hw2] at hb0 hb1 ⊢
      have HB0 := Aside0.mk hb0
      have HB1 := Aside0.mk hb1
      clear hb0 hb1 hw2
      go_wp2_with (first | (refine wpList_load_row rfl 84 _ rfl (w.heap.size + 1) rfl 84 rowsVal (0, 0) _ HB1.out Try.underlying84 rfl (by kernel_rfl) ?_) | (refine wpList_store_row rfl 84 _ _ rfl w.heap.size rowsVal rfl rfl 84 _ HB0.out (by kernel_rfl) (by kernel_rfl) (by kernel_rfl) ?_))
      refine bodyPost_ret (results_cell_row rfl _ _ w.heap.size 84 rowsVal (0, 0) _ rfl (setRow_heap _ _ _ _ _ _ HB0.out) Try.underlying84 rfl (by kernel_rfl)) rfl ⟨rfl, below_setRow HB.out _ _ (Nat.le_refl _)⟩
end Go.Proofs.Ytccolpkjgjjipaa.Q
