/- A machine's operators: the table, as the call makes it. -/
import Derived.Test.YtgalkkolbobmbaaGreatVVm
import Derived.Laws.EntriesVeiled
namespace Go.Proofs.YtgalkkolbobmbaaGreat.V
open Go.RowKit Go.Proofs.YtgalkkolbobmbaaGreatW.PrintWords Go.Proofs.YtgalkkolbobmbaaGreatW.PrintLast Go.Proofs.YtgalkkolbobmbaaGreatW.PrintMore
set_option linter.unusedVariables false
set_option linter.unusedSimpArgs false
set_option maxHeartbeats 1000000 in
set_option maxRecDepth 100000 in
theorem op_one (g : Nat) (cs : Array Value) (op : Nat) (F : FuncId) (w : World) (hop : op < 23) (hb : w.heap[g]? = some (.cells cs 109 (0, 0))) (hs : cs.size = 23) :
    Calls Tryz.prog 109 #[.int .i64 (op : Int), .func (.func F) #[] #[], .pointer (some ⟨g, 0, none⟩)] w fun e w' => e = .returned (.tuple #[]) ∧ ∃ b, w.heap.size ≤ b ∧ w'.heap[g]? = some (.cells (cs.setIfInBounds op (.func (.func 110) #[] #[.pointer (some ⟨b, 0, none⟩)])) 109 (0, 0)) ∧
      w'.heap[b]? = some (.cells #[.func (.func F) #[] #[]] 197 (0, 0)) ∧ Chg (fun k => k = g) w w' := by
  have hmf : ∀ (fn : Fn) (first cap : Array Value) (w : World), (Instr.makeFunc fn first cap).run Tryz.prog w = .ok (.func fn first cap) w := fun _ _ _ _ => rfl
  have hlt := lt_of_block hb
  have hc : ∀ o, (w.alloc o).cell? ⟨g, op, none⟩ = some (cs.getD op .nilFunc) := fun o => by
    rw [cell_of_row _ g op _ _ _ (blk_alloc hb o)]
    simp [hs, hop]
  have hf : ∀ o, (w.alloc o).frozen? ⟨g, op, none⟩ = false := fun o => blk_frozen (blk_alloc hb o) op
  go_enter Tryz.func109, Tryz.ntmps109
  go_wp2
  go_end0
  have hz : (w.setCell ⟨g, op, none⟩ (.func (.func 110) #[] #[.pointer (some ⟨w.heap.size, 0, none⟩)])).heap.size = w.heap.size := by simp
  have hn := blk_new (w.setCell ⟨g, op, none⟩ (.func (.func 110) #[] #[.pointer (some ⟨w.heap.size, 0, none⟩)])) (Obj.cells #[.func (.func F) #[] #[]] 197)
  rw [hz] at hn
  exact ⟨rfl, w.heap.size, Nat.le_refl _, blk_alloc (heap_setCell_same w g op cs 109 _ hb) _, hn, (Chg.setCell (S := fun k => k = g) (p := ⟨g, op, none⟩) (Chg.refl _ w) (.inl rfl) _).alloc _⟩
set_option maxHeartbeats 1000000 in
set_option maxRecDepth 100000 in
theorem op_two (g : Nat) (cs : Array Value) (op : Nat) (F : FuncId) (w : World) (hop : op < 23) (hb : w.heap[g]? = some (.cells cs 109 (0, 0))) (hs : cs.size = 23) :
    Calls Tryz.prog 111 #[.int .i64 (op : Int), .func (.func F) #[] #[], .pointer (some ⟨g, 0, none⟩)] w fun e w' => e = .returned (.tuple #[]) ∧ ∃ b, w.heap.size ≤ b ∧ w'.heap[g]? = some (.cells (cs.setIfInBounds op (.func (.func 112) #[] #[.pointer (some ⟨b, 0, none⟩)])) 109 (0, 0)) ∧
      w'.heap[b]? = some (.cells #[.func (.func F) #[] #[]] 130 (0, 0)) ∧ Chg (fun k => k = g) w w' := by
  have hmf : ∀ (fn : Fn) (first cap : Array Value) (w : World), (Instr.makeFunc fn first cap).run Tryz.prog w = .ok (.func fn first cap) w := fun _ _ _ _ => rfl
  have hlt := lt_of_block hb
  have hc : ∀ o, (w.alloc o).cell? ⟨g, op, none⟩ = some (cs.getD op .nilFunc) := fun o => by
    rw [cell_of_row _ g op _ _ _ (blk_alloc hb o)]
    simp [hs, hop]
  have hf : ∀ o, (w.alloc o).frozen? ⟨g, op, none⟩ = false := fun o => blk_frozen (blk_alloc hb o) op
  go_enter Tryz.func111, Tryz.ntmps111
  go_wp2
  go_end0
  have hz : (w.setCell ⟨g, op, none⟩ (.func (.func 112) #[] #[.pointer (some ⟨w.heap.size, 0, none⟩)])).heap.size = w.heap.size := by simp
  have hn := blk_new (w.setCell ⟨g, op, none⟩ (.func (.func 112) #[] #[.pointer (some ⟨w.heap.size, 0, none⟩)])) (Obj.cells #[.func (.func F) #[] #[]] 130)
  rw [hz] at hn
  exact ⟨rfl, w.heap.size, Nat.le_refl _, blk_alloc (heap_setCell_same w g op cs 109 _ hb) _, hn, (Chg.setCell (S := fun k => k = g) (p := ⟨g, op, none⟩) (Chg.refl _ w) (.inl rfl) _).alloc _⟩
set_option maxHeartbeats 1000000 in
set_option maxRecDepth 100000 in
theorem op_is (g : Nat) (cs : Array Value) (op : Nat) (F : FuncId) (w : World) (hop : op < 23) (hb : w.heap[g]? = some (.cells cs 109 (0, 0))) (hs : cs.size = 23) :
    Calls Tryz.prog 113 #[.int .i64 (op : Int), .func (.func F) #[] #[], .pointer (some ⟨g, 0, none⟩)] w fun e w' => e = .returned (.tuple #[]) ∧ ∃ b, w.heap.size ≤ b ∧ w'.heap[g]? = some (.cells (cs.setIfInBounds op (.func (.func 114) #[] #[.pointer (some ⟨b, 0, none⟩)])) 109 (0, 0)) ∧
      w'.heap[b]? = some (.cells #[.func (.func F) #[] #[]] 200 (0, 0)) ∧ Chg (fun k => k = g) w w' := by
  have hmf : ∀ (fn : Fn) (first cap : Array Value) (w : World), (Instr.makeFunc fn first cap).run Tryz.prog w = .ok (.func fn first cap) w := fun _ _ _ _ => rfl
  have hlt := lt_of_block hb
  have hc : ∀ o, (w.alloc o).cell? ⟨g, op, none⟩ = some (cs.getD op .nilFunc) := fun o => by
    rw [cell_of_row _ g op _ _ _ (blk_alloc hb o)]
    simp [hs, hop]
  have hf : ∀ o, (w.alloc o).frozen? ⟨g, op, none⟩ = false := fun o => blk_frozen (blk_alloc hb o) op
  go_enter Tryz.func113, Tryz.ntmps113
  go_wp2
  go_end0
  have hz : (w.setCell ⟨g, op, none⟩ (.func (.func 114) #[] #[.pointer (some ⟨w.heap.size, 0, none⟩)])).heap.size = w.heap.size := by simp
  have hn := blk_new (w.setCell ⟨g, op, none⟩ (.func (.func 114) #[] #[.pointer (some ⟨w.heap.size, 0, none⟩)])) (Obj.cells #[.func (.func F) #[] #[]] 200)
  rw [hz] at hn
  exact ⟨rfl, w.heap.size, Nat.le_refl _, blk_alloc (heap_setCell_same w g op cs 109 _ hb) _, hn, (Chg.setCell (S := fun k => k = g) (p := ⟨g, op, none⟩) (Chg.refl _ w) (.inl rfl) _).alloc _⟩
/-- Which closure stands at an operator's place, and what it holds. -/
def opOuter (op : Nat) : FuncId := if op = 6 ∨ op = 8 then 110 else if op = 9 ∨ op = 10 ∨ op = 11 ∨ op = 12 then 112 else 114
def opType (op : Nat) : Nat := if op = 6 ∨ op = 8 then 197 else if op = 9 ∨ op = 10 ∨ op = 11 ∨ op = 12 then 130 else 200
def opInner (op : Nat) : FuncId := if op = 6 then 116 else if op = 8 then 117 else if op = 9 then 78 else if op = 10 then 118 else if op = 11 then 119 else if op = 12 then 120 else if op = 7 then 121 else if op = 13 then 122 else if op = 14 then 123 else if op = 15 then 124 else if op = 16 then 125 else 126
/-- One place of the table, in a world: the closure's box is no elder block. -/
def OpAt (n : Nat) (w : World) (cs : Array Value) (op : Nat) : Prop := ∃ b, n ≤ b ∧ cs[op]? = some (.func (.func (opOuter op)) #[] #[.pointer (some ⟨b, 0, none⟩)]) ∧ w.heap[b]? = some (.cells #[.func (.func (opInner op)) #[] #[]] (opType op) (0, 0))
theorem OpAt.chg {n : Nat} {w w' : World} {cs : Array Value} {op g i : Nat} {v : Value} (h : OpAt n w cs op) (hc : Chg (fun k => k = g) w w') (hg : g < n) (hi : i ≠ op) : OpAt n w' (cs.setIfInBounds i v) op := by
  obtain ⟨b, h1, h2, h3⟩ := h
  exact ⟨b, h1, by rw [Array.getElem?_setIfInBounds_ne hi]; exact h2, (hc.block b (lt_of_block h3) (fun e => by omega)).trans h3⟩
theorem OpAt.mk {n : Nat} {w' : World} {cs : Array Value} {op b : Nat} (hn : n ≤ b) (hs : op < cs.size) (hb : w'.heap[b]? = some (.cells #[.func (.func (opInner op)) #[] #[]] (opType op) (0, 0))) : OpAt n w' (cs.setIfInBounds op (.func (.func (opOuter op)) #[] #[.pointer (some ⟨b, 0, none⟩)])) op :=
  ⟨b, hn, by rw [Array.getElem?_setIfInBounds_self_of_lt hs], hb⟩
/-- The table so far: an array's block g, of n elder blocks; the places of l stand. -/
structure OpTab (n g : Nat) (w0 : World) (l : List Nat) (cs : Array Value) (w : World) : Prop where
  blk : w.heap[g]? = some (.cells cs 109 (0, 0))
  sz : cs.size = 23
  lt : g < n
  le : n ≤ w.heap.size
  bel : Chg (fun k => k = g) w0 w
  ops : ∀ op, op ∈ l → OpAt n w cs op
  one : ∀ (i : Nat) (v : Value), cs[i]? = some v → v.oneCell' = true
theorem one_set {cs : Array Value} {op : Nat} {u : Value} (h : ∀ (i : Nat) (v : Value), cs[i]? = some v → v.oneCell' = true) (hu : u.oneCell' = true) : ∀ (i : Nat) (v : Value), (cs.setIfInBounds op u)[i]? = some v → v.oneCell' = true := fun i v hv => by
  by_cases e : op = i
  · subst e
    rcases Nat.lt_or_ge op cs.size with hl | hl
    · rw [Array.getElem?_setIfInBounds_self_of_lt hl] at hv
      injection hv with hv
      rw [← hv]
      exact hu
    · rw [Array.getElem?_eq_none (by rw [Array.size_setIfInBounds]; exact hl)] at hv
      cases hv
  · rw [Array.getElem?_setIfInBounds_ne e] at hv
    exact h i v hv
theorem OpTab.step {n g : Nat} {w0 w w' : World} {l : List Nat} {cs : Array Value} (h : OpTab n g w0 l cs w) (op b : Nat) (hop : op < 23) (hnl : op ∉ l) (hb : w.heap.size ≤ b) (h1 : w'.heap[g]? = some (.cells (cs.setIfInBounds op (.func (.func (opOuter op)) #[] #[.pointer (some ⟨b, 0, none⟩)])) 109 (0, 0)))
    (h2 : w'.heap[b]? = some (.cells #[.func (.func (opInner op)) #[] #[]] (opType op) (0, 0))) (h3 : Chg (fun k => k = g) w w') : OpTab n g w0 (op :: l) (cs.setIfInBounds op (.func (.func (opOuter op)) #[] #[.pointer (some ⟨b, 0, none⟩)])) w' := by
  refine ⟨h1, by rw [Array.size_setIfInBounds]; exact h.sz, h.lt, Nat.le_trans h.le h3.size, h.bel.then_ h3 (fun _ hi => .inl hi), fun o ho => ?_, one_set h.one rfl⟩
  rcases List.mem_cons.1 ho with rfl | ho
  · exact OpAt.mk (Nat.le_trans h.le hb) (by rw [h.sz]; exact hop) h2
  · exact (h.ops o ho).chg h3 h.lt (fun e => hnl (e ▸ ho))
theorem setRow_below {B : Nat} {w W : World} (h : Below B w W) (g : Nat) (cs : Array Value) (hg : B ≤ g) : Below B w (W.setRow g cs) :=
  ⟨h.os, h.tape, h.output, by simpa [World.setRow] using h.size, fun i hi => by
    rw [← h.block i hi]
    simp [World.setRow, Array.getElem?_modify, show ¬ g = i by omega]⟩
def Z23 : Array Value := #[.nilFunc, .nilFunc, .nilFunc, .nilFunc, .nilFunc, .nilFunc, .nilFunc, .nilFunc, .nilFunc, .nilFunc, .nilFunc, .nilFunc, .nilFunc, .nilFunc, .nilFunc, .nilFunc, .nilFunc, .nilFunc, .nilFunc, .nilFunc, .nilFunc, .nilFunc, .nilFunc]
set_option maxHeartbeats 8000000 in
set_option maxRecDepth 100000 in
theorem operators_any (w : World) : Calls Tryz.prog 65 #[] w fun e w' => ∃ cs, e = .returned (.agg cs) ∧ cs.size = 23 ∧ Below w.heap.size w w' ∧ (∀ op, op ∈ [17, 16, 15, 14, 13, 7, 12, 11, 10, 9, 8, 6] → OpAt w.heap.size w' cs op) ∧ cs[18]? = some (.func (.func 127) #[] #[]) := by
  have hmf : ∀ (fn : Fn) (first cap : Array Value) (w : World), (Instr.makeFunc fn first cap).run Tryz.prog w = .ok (.func fn first cap) w := fun _ _ _ _ => rfl
  go_enter Tryz.func65, Tryz.ntmps65
  go_wp2_with (fail)
  obtain ⟨w1, hw1⟩ : ∃ z, ((w.alloc (Obj.cells Z23 109)).alloc (Obj.cells Z23 109)) = z := ⟨_, rfl⟩
  have T0 : OpTab (w.heap.size + 2) (w.heap.size + 1) w1 [] Z23 w1 := by
    subst hw1
    refine ⟨?_, rfl, by omega, by simp, Chg.refl _ _, fun _ h => absurd h (by simp), fun i v hv => ?_⟩
    · have := blk_new (w.alloc (Obj.cells Z23 109)) (Obj.cells Z23 109)
      simpa using this
    · have hall : Z23.toList.all (fun v => v.oneCell') = true := rfl
      exact List.all_eq_true.1 hall v (by have h1 := Array.mem_of_getElem? hv; exact Array.mem_def.1 h1 |> fun h => h)
  have HB0 := Aside0.mk (show Below w.heap.size w w1 by rw [← hw1]; exact ((Below.refl _ _).alloc (Nat.le_refl _) _).alloc (by simp) _)
  have HA0 := Aside0.mk (show w1.heap[w.heap.size]? = some (.cells Z23 109 (0, 0)) by rw [← hw1]; exact blk_alloc (blk_new w _) _)
  have HT := Aside0.mk T0
  clear T0
  unfold Z23 at hw1
  rw [hw1]
  clear hw1
  refine (op_one (w.heap.size + 1) _ 6 116 _ (by decide) HT.out.blk HT.out.sz).mono ?_
  rintro e w_6 ⟨rfl, b_6, hb1, hb2, hb3, hb4⟩
  have H_6 := Aside0.mk (HT.out.step 6 b_6 (by decide) (by decide) hb1 hb2 hb3 hb4)
  clear hb1 hb2 hb3 hb4 HT

  go_wp2_with (fail)
  refine (op_one (w.heap.size + 1) _ 8 117 _ (by decide) H_6.out.blk H_6.out.sz).mono ?_
  rintro e w_8 ⟨rfl, b_8, hb1, hb2, hb3, hb4⟩
  have H_8 := Aside0.mk (H_6.out.step 8 b_8 (by decide) (by decide) hb1 hb2 hb3 hb4)
  clear hb1 hb2 hb3 hb4 H_6

  go_wp2_with (fail)
  refine (op_two (w.heap.size + 1) _ 9 78 _ (by decide) H_8.out.blk H_8.out.sz).mono ?_
  rintro e w_9 ⟨rfl, b_9, hb1, hb2, hb3, hb4⟩
  have H_9 := Aside0.mk (H_8.out.step 9 b_9 (by decide) (by decide) hb1 hb2 hb3 hb4)
  clear hb1 hb2 hb3 hb4 H_8

  go_wp2_with (fail)
  refine (op_two (w.heap.size + 1) _ 10 118 _ (by decide) H_9.out.blk H_9.out.sz).mono ?_
  rintro e w_10 ⟨rfl, b_10, hb1, hb2, hb3, hb4⟩
  have H_10 := Aside0.mk (H_9.out.step 10 b_10 (by decide) (by decide) hb1 hb2 hb3 hb4)
  clear hb1 hb2 hb3 hb4 H_9

  go_wp2_with (fail)
  refine (op_two (w.heap.size + 1) _ 11 119 _ (by decide) H_10.out.blk H_10.out.sz).mono ?_
  rintro e w_11 ⟨rfl, b_11, hb1, hb2, hb3, hb4⟩
  have H_11 := Aside0.mk (H_10.out.step 11 b_11 (by decide) (by decide) hb1 hb2 hb3 hb4)
  clear hb1 hb2 hb3 hb4 H_10

  go_wp2_with (fail)
  refine (op_two (w.heap.size + 1) _ 12 120 _ (by decide) H_11.out.blk H_11.out.sz).mono ?_
  rintro e w_12 ⟨rfl, b_12, hb1, hb2, hb3, hb4⟩
  have H_12 := Aside0.mk (H_11.out.step 12 b_12 (by decide) (by decide) hb1 hb2 hb3 hb4)
  clear hb1 hb2 hb3 hb4 H_11

  go_wp2_with (fail)
  refine (op_is (w.heap.size + 1) _ 7 121 _ (by decide) H_12.out.blk H_12.out.sz).mono ?_
  rintro e w_7 ⟨rfl, b_7, hb1, hb2, hb3, hb4⟩
  have H_7 := Aside0.mk (H_12.out.step 7 b_7 (by decide) (by decide) hb1 hb2 hb3 hb4)
  clear hb1 hb2 hb3 hb4 H_12

  go_wp2_with (fail)
  refine (op_is (w.heap.size + 1) _ 13 122 _ (by decide) H_7.out.blk H_7.out.sz).mono ?_
  rintro e w_13 ⟨rfl, b_13, hb1, hb2, hb3, hb4⟩
  have H_13 := Aside0.mk (H_7.out.step 13 b_13 (by decide) (by decide) hb1 hb2 hb3 hb4)
  clear hb1 hb2 hb3 hb4 H_7

  go_wp2_with (fail)
  refine (op_is (w.heap.size + 1) _ 14 123 _ (by decide) H_13.out.blk H_13.out.sz).mono ?_
  rintro e w_14 ⟨rfl, b_14, hb1, hb2, hb3, hb4⟩
  have H_14 := Aside0.mk (H_13.out.step 14 b_14 (by decide) (by decide) hb1 hb2 hb3 hb4)
  clear hb1 hb2 hb3 hb4 H_13

  go_wp2_with (fail)
  refine (op_is (w.heap.size + 1) _ 15 124 _ (by decide) H_14.out.blk H_14.out.sz).mono ?_
  rintro e w_15 ⟨rfl, b_15, hb1, hb2, hb3, hb4⟩
  have H_15 := Aside0.mk (H_14.out.step 15 b_15 (by decide) (by decide) hb1 hb2 hb3 hb4)
  clear hb1 hb2 hb3 hb4 H_14

  go_wp2_with (fail)
  refine (op_is (w.heap.size + 1) _ 16 125 _ (by decide) H_15.out.blk H_15.out.sz).mono ?_
  rintro e w_16 ⟨rfl, b_16, hb1, hb2, hb3, hb4⟩
  have H_16 := Aside0.mk (H_15.out.step 16 b_16 (by decide) (by decide) hb1 hb2 hb3 hb4)
  clear hb1 hb2 hb3 hb4 H_15

  go_wp2_with (fail)
  refine (op_is (w.heap.size + 1) _ 17 126 _ (by decide) H_16.out.blk H_16.out.sz).mono ?_
  rintro e w_17 ⟨rfl, b_17, hb1, hb2, hb3, hb4⟩
  have H_17 := Aside0.mk (H_16.out.step 17 b_17 (by decide) (by decide) hb1 hb2 hb3 hb4)
  clear hb1 hb2 hb3 hb4 H_16

  have T := H_17.out
  obtain ⟨v18, k18⟩ : ∃ v, w_17.cell? ⟨w.heap.size + 1, 18, none⟩ = some v := ⟨_, (cell_of_row _ (w.heap.size + 1) 18 _ _ _ T.blk).trans (Array.getElem?_eq_getElem (by rw [T.sz]; decide))⟩
  have f18 : w_17.frozen? ⟨w.heap.size + 1, 18, none⟩ = false := blk_frozen T.blk 18
  have HT := Aside0.mk T
  clear T H_17
  go_upto_region 18 with (fail)
  generalize hcs : Array.setIfInBounds _ 17 _ = cs at HT
  clear hcs
  obtain ⟨w18, hw18⟩ : ∃ z, (w_17.setCell ⟨w.heap.size + 1, 18, none⟩ (.func (.func 127) #[] #[])) = z := ⟨_, rfl⟩
  have HC := Aside0.mk (show Chg (fun k => k = w.heap.size + 1) w_17 w18 by rw [← hw18]; exact Chg.setCell (S := fun k => k = w.heap.size + 1) (p := ⟨w.heap.size + 1, 18, none⟩) (Chg.refl _ _) (.inl rfl) _)
  have H18 := Aside0.mk (show w18.heap[w.heap.size + 1]? = some (.cells (cs.setIfInBounds 18 (.func (.func 127) #[] #[])) 109 (0, 0)) by rw [← hw18]; exact heap_setCell_same w_17 _ 18 cs 109 _ HT.out.blk)
  rw [hw18]
  clear hw18 k18 f18
  have hA : w18.heap[w.heap.size]? = some (.cells Z23 109 (0, 0)) := by
    have h1 := (HT.out.bel.block w.heap.size (lt_of_block HA0.out) (by omega)).trans HA0.out
    exact (HC.out.block w.heap.size (lt_of_block h1) (by omega)).trans h1
  have HA := Aside0.mk hA
  clear hA HA0
  have hsz : (cs.setIfInBounds 18 (.func (.func 127) #[] #[])).size = 23 := by rw [Array.size_setIfInBounds]; exact HT.out.sz
  have hone := one_set (op := 18) (u := .func (.func 127) #[] #[]) HT.out.one rfl
  have hops : ∀ op, op ∈ [17, 16, 15, 14, 13, 7, 12, 11, 10, 9, 8, 6] → OpAt (w.heap.size + 2) w18 (cs.setIfInBounds 18 (.func (.func 127) #[] #[])) op := fun op ho => (HT.out.ops op ho).chg HC.out (by omega) (by rintro rfl; simp at ho)
  have h127 : (cs.setIfInBounds 18 (.func (.func 127) #[] #[]))[18]? = some (.func (.func 127) #[] #[]) := Array.getElem?_setIfInBounds_self_of_lt (by rw [HT.out.sz]; decide)
  generalize cs.setIfInBounds 18 (.func (.func 127) #[] #[]) = cF at H18 hsz hone hops h127
  have HF := Aside0.mk (And.intro hsz (And.intro hone (And.intro hops h127)))
  have hall : cF.all (fun v => v.oneCell') = true := Array.all_eq_true'.2 (fun v hv => by obtain ⟨i, hi⟩ := Array.mem_iff_getElem?.1 hv; exact hone i v hi)
  have HL := Aside0.mk hall
  have HB := Aside0.mk (show Below w.heap.size w w18 from HC.out.to_below (by have := HT.out.le; omega) (fun k hk => by omega) (HT.out.bel.to_below (n := w.heap.size) (by have := HB0.out.size; omega) (fun k hk => by omega) HB0.out))
  clear hsz hone hops h127 hall HT HC HB0
  go_wp2_with (first | (refine wpList_load_row rfl 109 _ rfl (w.heap.size + 1) rfl 109 cF (0, 0) _ H18.out Tryz.underlying109 rfl (by rw [HF.out.1]; kernel_rfl) ?_) | (refine wpList_store_row rfl 109 _ _ rfl w.heap.size cF rfl rfl 109 Z23 HA.out (by rw [HF.out.1]; kernel_rfl) (by rw [HF.out.1]; rfl) HL.out ?_))
  refine bodyPost_ret (results_cell_row rfl _ _ w.heap.size 109 cF (0, 0) _ rfl (setRow_heap _ _ _ _ _ _ HA.out) Tryz.underlying109 rfl (by rw [HF.out.1]; kernel_rfl)) rfl ⟨_, rfl, HF.out.1, setRow_below HB.out _ _ (Nat.le_refl _), fun op ho => ?_, HF.out.2.2.2⟩
  obtain ⟨b, hb1, hb2, hb3⟩ := HF.out.2.2.1 op ho
  exact ⟨b, by omega, hb2, (setRow_other w18 w.heap.size b _ (by omega)).trans hb3⟩
end Go.Proofs.YtgalkkolbobmbaaGreat.V
