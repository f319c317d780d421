/- vm.copied: an object's banks and pieces in rows of one's own. -/
import Derived.Test.YtgalkkolbobmbaaGreatVClone

namespace Go.Proofs.YtgalkkolbobmbaaGreat.V
open Go.RowKit Go.Proofs.YtgalkkolbobmbaaGreatW.PrintWords Go.Proofs.YtgalkkolbobmbaaGreatW.PrintLast Go.Proofs.YtgalkkolbobmbaaGreatW.PrintMore
set_option linter.unusedVariables false
set_option linter.unusedSimpArgs false
def cpa_T : Bool × List (List Nat × List Nat) := (true, [([], []), ([0], [0]), ([1], [1]), ([], []), ([3], [3]), ([4, 2], [4]), ([], []), ([6], [6]), ([7, 5], [7]), ([], []), ([9], [9]), ([10, 8], [10]), ([0, 1, 2, 3, 4, 6, 7, 9, 10], []), ([12, 2, 11, 0, 1, 2, 3, 4, 6, 7, 9, 10], [2, 12]), ([0, 1, 2, 3, 4, 5, 6, 7, 9, 10, 12, 13], []), ([14, 5, 13, 0, 1, 2, 3, 4, 5, 6, 7, 9, 10, 12, 13], [5, 14]), ([0, 1, 2, 3, 4, 5, 6, 7, 8, 9, 10, 12, 13, 14, 15], []), ([16, 8, 15, 0, 1, 2, 3, 4, 5, 6, 7, 8, 9, 10, 12, 13, 14, 15], [8, 16]), ([0, 1, 2, 3, 4, 5, 6, 7, 8, 9, 10, 11, 12, 13, 14, 15, 16, 17], []), ([18, 11, 17, 0, 1, 2, 3, 4, 5, 6, 7, 8, 9, 10, 11, 12, 13, 14, 15, 16, 17], [11, 18])])
def cpa_B : List Nat := [0, 1, 3, 0, 8, 31, 0, 64, 255, 0, 512, 2047, 1759, 8191, 16383, 32767, 65535, 131071, 262143, 524287]
theorem cpa_tab : rtab .any (opsOf Tryz.f64 1) = cpa_T := by kernel_rfl
theorem cpa_bits : waitsOk cpa_T.2 cpa_B = true := by kernel_rfl
def cpb_T : Bool × List (List Nat × List Nat) := (true, [([], []), ([0], [0]), ([1], [1]), ([], []), ([3], [3]), ([4, 2], [4]), ([], []), ([6], [6]), ([7, 5], [7]), ([], []), ([9], [9]), ([10, 8], [10]), ([0, 1, 2, 3, 4, 6, 7, 9, 10], []), ([12, 2, 11, 0, 1, 2, 3, 4, 6, 7, 9, 10], [2, 12]), ([0, 1, 2, 3, 4, 5, 6, 7, 9, 10, 12, 13], []), ([14, 5, 13, 0, 1, 2, 3, 4, 5, 6, 7, 9, 10, 12, 13], [5, 14]), ([0, 1, 2, 3, 4, 5, 6, 7, 8, 9, 10, 12, 13, 14, 15], []), ([16, 8, 15, 0, 1, 2, 3, 4, 5, 6, 7, 8, 9, 10, 12, 13, 14, 15], [8, 16]), ([0, 1, 2, 3, 4, 5, 6, 7, 8, 9, 10, 11, 12, 13, 14, 15, 16, 17], []), ([18, 11, 17, 0, 1, 2, 3, 4, 5, 6, 7, 8, 9, 10, 11, 12, 13, 14, 15, 16, 17], [11, 18])])
def cpb_B : List Nat := [0, 1, 3, 0, 8, 31, 0, 64, 255, 0, 512, 2047, 1759, 8191, 16383, 32767, 65535, 131071, 262143, 524287]
theorem cpb_tab : rtab .any (opsOf Tryz.f64 2) = cpb_T := by kernel_rfl
theorem cpb_bits : waitsOk cpb_T.2 cpb_B = true := by kernel_rfl

theorem setRow_below' {B : Nat} {w W : World} (h : Below B w W) (g : Nat) (cs : Array Value) (hg : B ≤ g) : Below B w (W.setRow g cs) :=
 ⟨h.os, h.tape, h.output, by simpa [World.setRow] using h.size, fun i hi => by
  rw [← h.block i hi]
  simp [World.setRow, Array.getElem?_modify, show ¬ g = i by omega]⟩
def Z26 : Array Value := #[.slice none 0 0, .slice none 0 0, .slice none 0 0, .slice none 0 0, .int .i64 0, .int .i64 0, .slice none 0 0, .slice none 0 0, .slice none 0 0, .slice none 0 0]
set_option maxHeartbeats 4000000 in
set_option maxRecDepth 100000 in
theorem copied_any (A0 A1 A2 A3 A6 A7 A8 A9 : Option Addr) (c0 c1 c2 c3 c6 c7 c8 c9 : Nat) (l0 l1 l2 l3 : List Int) (a4 a5 : Int) (l6 l7 l8 l9 : List S49) (w : World) (hr0 : Kd.C (Kd.int .i64) w A0 l0.length l0) (hl0 : l0.length * 8 ≤ 140737488355328) (hr1 : Kd.C (Kd.int .i64) w A1 l1.length l1) (hl1 : l1.length * 8 ≤ 140737488355328) (hr2 : Kd.C (Kd.int .i64) w A2 l2.length l2) (hl2 : l2.length * 8 ≤ 140737488355328) (hr3 : Kd.C (Kd.int .i64) w A3 l3.length l3) (hl3 : l3.length * 8 ≤ 140737488355328) (hr6 : Kd.C k49 w A6 l6.length l6) (hl6 : l6.length * 48 ≤ 140737488355328) (hr7 : Kd.C k49 w A7 l7.length l7) (hl7 : l7.length * 48 ≤ 140737488355328) (hr8 : Kd.C k49 w A8 l8.length l8) (hl8 : l8.length * 48 ≤ 140737488355328) (hr9 : Kd.C k49 w A9 l9.length l9) (hl9 : l9.length * 48 ≤ 140737488355328) :
 Calls Tryz.prog 64 #[.agg #[.slice A0 l0.length c0, .slice A1 l1.length c1, .slice A2 l2.length c2, .slice A3 l3.length c3, .int .i64 a4, .int .i64 a5, .slice A6 l6.length c6, .slice A7 l7.length c7, .slice A8 l8.length c8, .slice A9 l9.length c9]] w fun e w' => ∃ v0 v1 v2 v3 v6 v7 v8 v9, e = .returned (.agg #[v0, v1, v2, v3, .int .i64 a4, .int .i64 a5, v6, v7, v8, v9]) ∧ Kd.R (Kd.int .i64) 3 w' w.heap.size (fun _ => True) v0 l0 ∧ Kd.R (Kd.int .i64) 3 w' w.heap.size (fun _ => True) v1 l1 ∧ Kd.R (Kd.int .i64) 2 w' w.heap.size (fun _ => True) v2 l2 ∧ Kd.R (Kd.int .i64) 2 w' w.heap.size (fun _ => True) v3 l3 ∧ Kd.R k49 49 w' w.heap.size (fun _ => True) v6 l6 ∧ Kd.R k49 49 w' w.heap.size (fun _ => True) v7 l7 ∧ Kd.R k49 49 w' w.heap.size (fun _ => True) v8 l8 ∧ Kd.R k49 49 w' w.heap.size (fun _ => True) v9 l9 ∧ Below w.heap.size w w' := by
 have HR0 := Aside0.mk hr0
 have HR1 := Aside0.mk hr1
 have HR2 := Aside0.mk hr2
 have HR3 := Aside0.mk hr3
 have HR6 := Aside0.mk hr6
 have HR7 := Aside0.mk hr7
 have HR8 := Aside0.mk hr8
 have HR9 := Aside0.mk hr9
 clear hr0 hr1 hr2 hr3 hr6 hr7 hr8 hr9
 go_enter Tryz.func64, Tryz.ntmps64
 go_wp2_with (fail)
 obtain ⟨w1, hw1⟩ : ∃ z, ((w.alloc (Obj.cells #[.slice A0 l0.length c0, .slice A1 l1.length c1, .slice A2 l2.length c2, .slice A3 l3.length c3, .int .i64 a4, .int .i64 a5, .slice A6 l6.length c6, .slice A7 l7.length c7, .slice A8 l8.length c8, .slice A9 l9.length c9] 26)).alloc (Obj.cells Z26 26)) = z := ⟨_, rfl⟩
 have HB := Aside0.mk (show Below w.heap.size w w1 by rw [← hw1]; exact ((Below.refl _ _).alloc (Nat.le_refl _) _).alloc (by simp) _)
 have HG := Aside0.mk (show w1.heap[w.heap.size]? = some (.cells #[.slice A0 l0.length c0, .slice A1 l1.length c1, .slice A2 l2.length c2, .slice A3 l3.length c3, .int .i64 a4, .int .i64 a5, .slice A6 l6.length c6, .slice A7 l7.length c7, .slice A8 l8.length c8, .slice A9 l9.length c9] 26 (0, 0)) by rw [← hw1]; exact blk_alloc (blk_new w _) _)
 have HZ := Aside0.mk (show w1.heap[w.heap.size + 1]? = some (.cells Z26 26 (0, 0)) by
  rw [← hw1]
  have := blk_new (w.alloc (Obj.cells #[.slice A0 l0.length c0, .slice A1 l1.length c1, .slice A2 l2.length c2, .slice A3 l3.length c3, .int .i64 a4, .int .i64 a5, .slice A6 l6.length c6, .slice A7 l7.length c7, .slice A8 l8.length c8, .slice A9 l9.length c9] 26)) (Obj.cells Z26 26)
  simpa using this)
 unfold Z26 at hw1
 rw [hw1]
 clear hw1
 have HB := Aside0.mk (below_drew1 HB.out)
 have HG := Aside0.mk (show w1.drew.heap[w.heap.size]? = _ from HG.out)
 have HZ := Aside0.mk (show w1.drew.heap[w.heap.size + 1]? = _ from HZ.out)
 refine start_ (n := 20) (S := fun w' => w'.cell? ⟨w.heap.size, 0, none⟩ = some (.slice A0 l0.length c0) ∧ w'.cell? ⟨w.heap.size, 1, none⟩ = some (.slice A1 l1.length c1) ∧ w'.cell? ⟨w.heap.size, 2, none⟩ = some (.slice A2 l2.length c2) ∧ w'.cell? ⟨w.heap.size, 3, none⟩ = some (.slice A3 l3.length c3)) (ds := [13, 15, 17, 19]) #[false, false, false, false, false, false, false, false, false, false, false, false, false, false, false, false, false, false, false, false] (by kernel_rfl) rfl rfl ⟨(blk_cell HG.out 0).trans rfl, (blk_cell HG.out 1).trans rfl, (blk_cell HG.out 2).trans rfl, (blk_cell HG.out 3).trans rfl⟩ (fun hHeld => ?_); refine with_tabW cpa_tab cpa_bits (fun HT_ HW_ => ?_)
 refine pure_ (i := 0) (N := some 3) (v := ?_) (a' := ?_) #[true, false, false, false, false, false, false, false, false, false, false, false, false, false, false, false, false, false, false, false] rfl rfl (any_of HT_.out (by kernel_rfl)) (fun _ _ _ h => h) (Or.inl ⟨by rfl, ?_⟩) ?_ ?_
 rotate_left
 · intro w'
   go_simp
   with_reducible rfl
 rotate_left
 · simp only [Act.put, List.setIfInBounds_toArray, List.set_cons_zero, List.set_cons_succ, i64_w, i32_w]
   rfl
 refine pure_ (i := 3) (N := some 6) (v := ?_) (a' := ?_) #[true, false, false, true, false, false, false, false, false, false, false, false, false, false, false, false, false, false, false, false] rfl rfl (any_of HT_.out (by kernel_rfl)) (fun _ _ _ h => h) (Or.inl ⟨by rfl, ?_⟩) ?_ ?_
 rotate_left
 · intro w'
   go_simp
   with_reducible rfl
 rotate_left
 · simp only [Act.put, List.setIfInBounds_toArray, List.set_cons_zero, List.set_cons_succ, i64_w, i32_w]
   rfl
 refine pure_ (i := 6) (N := some 9) (v := ?_) (a' := ?_) #[true, false, false, true, false, false, true, false, false, false, false, false, false, false, false, false, false, false, false, false] rfl rfl (any_of HT_.out (by kernel_rfl)) (fun _ _ _ h => h) (Or.inl ⟨by rfl, ?_⟩) ?_ ?_
 rotate_left
 · intro w'
   go_simp
   with_reducible rfl
 rotate_left
 · simp only [Act.put, List.setIfInBounds_toArray, List.set_cons_zero, List.set_cons_succ, i64_w, i32_w]
   rfl
 refine pure_ (i := 9) (N := some 12) (v := ?_) (a' := ?_) #[true, false, false, true, false, false, true, false, false, true, false, false, false, false, false, false, false, false, false, false] rfl rfl (any_of HT_.out (by kernel_rfl)) (fun _ _ _ h => h) (Or.inl ⟨by rfl, ?_⟩) ?_ ?_
 rotate_left
 · intro w'
   go_simp
   with_reducible rfl
 rotate_left
 · simp only [Act.put, List.setIfInBounds_toArray, List.set_cons_zero, List.set_cons_succ, i64_w, i32_w]
   rfl
 refine take_ (i := 1) (N := some 4) (v := ?_) (a' := ?_) #[true, true, false, true, false, false, true, false, false, true, false, false, false, false, false, false, false, false, false, false] rfl rfl (take_ofW HT_.out HW_.out (by kernel_rfl)) (fun _ _ _ h => h) (Or.inl ⟨by rfl, ?_⟩) hHeld ?_ ?_
 rotate_left
 · rintro w' ⟨s0, s1, s2, s3⟩
   go_simp
   with_reducible rfl
 rotate_left
 · simp only [Act.put, List.setIfInBounds_toArray, List.set_cons_zero, List.set_cons_succ, i64_w, i32_w]
   rfl
 refine take_ (i := 4) (N := some 7) (v := ?_) (a' := ?_) #[true, true, false, true, true, false, true, false, false, true, false, false, false, false, false, false, false, false, false, false] rfl rfl (take_ofW HT_.out HW_.out (by kernel_rfl)) (fun _ _ _ h => h) (Or.inl ⟨by rfl, ?_⟩) hHeld ?_ ?_
 rotate_left
 · rintro w' ⟨s0, s1, s2, s3⟩
   go_simp
   with_reducible rfl
 rotate_left
 · simp only [Act.put, List.setIfInBounds_toArray, List.set_cons_zero, List.set_cons_succ, i64_w, i32_w]
   rfl
 refine take_ (i := 7) (N := some 10) (v := ?_) (a' := ?_) #[true, true, false, true, true, false, true, true, false, true, false, false, false, false, false, false, false, false, false, false] rfl rfl (take_ofW HT_.out HW_.out (by kernel_rfl)) (fun _ _ _ h => h) (Or.inl ⟨by rfl, ?_⟩) hHeld ?_ ?_
 rotate_left
 · rintro w' ⟨s0, s1, s2, s3⟩
   go_simp
   with_reducible rfl
 rotate_left
 · simp only [Act.put, List.setIfInBounds_toArray, List.set_cons_zero, List.set_cons_succ, i64_w, i32_w]
   rfl
 refine take_ (i := 10) (N := some 13) (v := ?_) (a' := ?_) #[true, true, false, true, true, false, true, true, false, true, true, false, false, false, false, false, false, false, false, false] rfl rfl (take_ofW HT_.out HW_.out (by kernel_rfl)) (fun _ _ _ h => h) (Or.inl ⟨by rfl, ?_⟩) hHeld ?_ ?_
 rotate_left
 · rintro w' ⟨s0, s1, s2, s3⟩
   go_simp
   with_reducible rfl
 rotate_left
 · simp only [Act.put, List.setIfInBounds_toArray, List.set_cons_zero, List.set_cons_succ, i64_w, i32_w]
   rfl
 refine one_ (i := 2) (N := some 5) #[true, true, true, true, true, false, true, true, false, true, true, false, false, false, false, false, false, false, false, false] rfl rfl (one_of HT_.out (by kernel_rfl)) (by decide) (fun K hK => ?_)
 refine goes_ Tryz.func107 (by kernel_rfl) rfl #[.slice A0 l0.length c0] (by rfl) rfl rfl (by (try simp only [List.map_toArray, List.map_cons, List.map_nil]); first | done | rfl) ?_
 refine (clone22 A0 c0 l0 _ (Kd.C_below HR0.out HB.out) hl0).mono ?_
 rintro e w3_0 ⟨v0, rfl, hR, hb⟩
 obtain ⟨B0, d0, rfl⟩ := Kd.R_slice hR
 refine ⟨_, rfl, ?_⟩
 have R0 := Aside0.mk (Kd.R_lower hR HB.out.size)
 have HG := Aside0.mk ((hb.block _ (blk_lt HG.out)).trans HG.out)
 have HZ := Aside0.mk ((hb.block _ (blk_lt HZ.out)).trans HZ.out)
 have HB := Aside0.mk (below_step HB.out hb)
 clear hR hb
 refine hK.out _ _ ⟨(blk_cell HG.out 0).trans rfl, (blk_cell HG.out 1).trans rfl, (blk_cell HG.out 2).trans rfl, (blk_cell HG.out 3).trans rfl⟩ (fun hHeld => ?_)
 clear hK K
 refine norm_ (a' := ?_) ?_ ?_
 rotate_left
 · show Act.put _ (some 5) _ = _
   simp only [Act.put, List.setIfInBounds_toArray, List.set_cons_zero, List.set_cons_succ, i64_w, i32_w]
   rfl
 refine pure_ (i := 12) (N := some 15) (v := ?_) (a' := ?_) #[true, true, true, true, true, false, true, true, false, true, true, false, true, false, false, false, false, false, false, false] rfl rfl (any_of HT_.out (by kernel_rfl)) (fun _ _ _ h => h) (Or.inl ⟨by rfl, ?_⟩) ?_ ?_
 rotate_left
 · intro w'
   go_simp
   with_reducible rfl
 rotate_left
 · simp only [Act.put, List.setIfInBounds_toArray, List.set_cons_zero, List.set_cons_succ, i64_w, i32_w]
   rfl
 refine one_ (i := 5) (N := some 8) #[true, true, true, true, true, true, true, true, false, true, true, false, true, false, false, false, false, false, false, false] rfl rfl (one_of HT_.out (by kernel_rfl)) (by decide) (fun K hK => ?_)
 refine goes_ Tryz.func107 (by kernel_rfl) rfl #[.slice A1 l1.length c1] (by rfl) rfl rfl (by (try simp only [List.map_toArray, List.map_cons, List.map_nil]); first | done | rfl) ?_
 refine (clone22 A1 c1 l1 _ (Kd.C_below HR1.out HB.out) hl1).mono ?_
 rintro e w3_1 ⟨v1, rfl, hR, hb⟩
 obtain ⟨B1, d1, rfl⟩ := Kd.R_slice hR
 refine ⟨_, rfl, ?_⟩
 have R1 := Aside0.mk (Kd.R_lower hR HB.out.size)
 have R0 := Aside0.mk (Kd.R_below R0.out hb)
 have HG := Aside0.mk ((hb.block _ (blk_lt HG.out)).trans HG.out)
 have HZ := Aside0.mk ((hb.block _ (blk_lt HZ.out)).trans HZ.out)
 have HB := Aside0.mk (below_step HB.out hb)
 clear hR hb
 refine hK.out _ _ ⟨(blk_cell HG.out 0).trans rfl, (blk_cell HG.out 1).trans rfl, (blk_cell HG.out 2).trans rfl, (blk_cell HG.out 3).trans rfl⟩ (fun hHeld => ?_)
 clear hK K
 refine norm_ (a' := ?_) ?_ ?_
 rotate_left
 · show Act.put _ (some 8) _ = _
   simp only [Act.put, List.setIfInBounds_toArray, List.set_cons_zero, List.set_cons_succ, i64_w, i32_w]
   rfl
 refine one_ (i := 8) (N := some 11) #[true, true, true, true, true, true, true, true, true, true, true, false, true, false, false, false, false, false, false, false] rfl rfl (one_of HT_.out (by kernel_rfl)) (by decide) (fun K hK => ?_)
 refine goes_ Tryz.func71 (by kernel_rfl) rfl #[.slice A2 l2.length c2] (by rfl) rfl rfl (by (try simp only [List.map_toArray, List.map_cons, List.map_nil]); first | done | rfl) ?_
 refine (clone23 A2 c2 l2 _ (Kd.C_below HR2.out HB.out) hl2).mono ?_
 rintro e w3_2 ⟨v2, rfl, hR, hb⟩
 obtain ⟨B2, d2, rfl⟩ := Kd.R_slice hR
 refine ⟨_, rfl, ?_⟩
 have R2 := Aside0.mk (Kd.R_lower hR HB.out.size)
 have R0 := Aside0.mk (Kd.R_below R0.out hb)
 have R1 := Aside0.mk (Kd.R_below R1.out hb)
 have HG := Aside0.mk ((hb.block _ (blk_lt HG.out)).trans HG.out)
 have HZ := Aside0.mk ((hb.block _ (blk_lt HZ.out)).trans HZ.out)
 have HB := Aside0.mk (below_step HB.out hb)
 clear hR hb
 refine hK.out _ _ ⟨(blk_cell HG.out 0).trans rfl, (blk_cell HG.out 1).trans rfl, (blk_cell HG.out 2).trans rfl, (blk_cell HG.out 3).trans rfl⟩ (fun hHeld => ?_)
 clear hK K
 refine norm_ (a' := ?_) ?_ ?_
 rotate_left
 · show Act.put _ (some 11) _ = _
   simp only [Act.put, List.setIfInBounds_toArray, List.set_cons_zero, List.set_cons_succ, i64_w, i32_w]
   rfl
 refine one_ (i := 11) (N := some 14) #[true, true, true, true, true, true, true, true, true, true, true, true, true, false, false, false, false, false, false, false] rfl rfl (one_of HT_.out (by kernel_rfl)) (by decide) (fun K hK => ?_)
 refine goes_ Tryz.func71 (by kernel_rfl) rfl #[.slice A3 l3.length c3] (by rfl) rfl rfl (by (try simp only [List.map_toArray, List.map_cons, List.map_nil]); first | done | rfl) ?_
 refine (clone23 A3 c3 l3 _ (Kd.C_below HR3.out HB.out) hl3).mono ?_
 rintro e w3_3 ⟨v3, rfl, hR, hb⟩
 obtain ⟨B3, d3, rfl⟩ := Kd.R_slice hR
 refine ⟨_, rfl, ?_⟩
 have R3 := Aside0.mk (Kd.R_lower hR HB.out.size)
 have R0 := Aside0.mk (Kd.R_below R0.out hb)
 have R1 := Aside0.mk (Kd.R_below R1.out hb)
 have R2 := Aside0.mk (Kd.R_below R2.out hb)
 have HG := Aside0.mk ((hb.block _ (blk_lt HG.out)).trans HG.out)
 have HZ := Aside0.mk ((hb.block _ (blk_lt HZ.out)).trans HZ.out)
 have HB := Aside0.mk (below_step HB.out hb)
 clear hR hb
 refine hK.out _ _ ⟨(blk_cell HG.out 0).trans rfl, (blk_cell HG.out 1).trans rfl, (blk_cell HG.out 2).trans rfl, (blk_cell HG.out 3).trans rfl⟩ (fun hHeld => ?_)
 clear hK K
 refine norm_ (a' := ?_) ?_ ?_
 rotate_left
 · show Act.put _ (some 14) _ = _
   simp only [Act.put, List.setIfInBounds_toArray, List.set_cons_zero, List.set_cons_succ, i64_w, i32_w]
   rfl
 have hcl : World.cell? _ ⟨w.heap.size, 0, none⟩ = some (.slice A0 l0.length c0) := (blk_cell HG.out 0).trans rfl
 have hfr := blk_frozen HG.out 0
 refine last_ (i := 13) (N := none) #[true, true, true, true, true, true, true, true, true, true, true, true, true, true, false, false, false, false, false, false] rfl rfl (one_of HT_.out (by kernel_rfl)) (by decide) (fun K hK => ?_)
 refine skip_ (w1 := ?_) (by rfl) rfl ?_ ?_
 rotate_left
 · go_simp
   rfl
 have R0 := Aside0.mk (Kd.R_set R0.out HG.out (by decide) 0 (.slice B0 l0.length d0))
 have R1 := Aside0.mk (Kd.R_set R1.out HG.out (by decide) 0 (.slice B0 l0.length d0))
 have R2 := Aside0.mk (Kd.R_set R2.out HG.out (by decide) 0 (.slice B0 l0.length d0))
 have R3 := Aside0.mk (Kd.R_set R3.out HG.out (by decide) 0 (.slice B0 l0.length d0))
 have HZ := Aside0.mk ((heap_setCell_other _ ⟨w.heap.size, 0, none⟩ (w.heap.size + 1) (.slice B0 l0.length d0) (by show ¬ (w.heap.size + 1 = w.heap.size); omega)).trans HZ.out)
 have HB := Aside0.mk (below_set (g := w.heap.size) (j := 0) (v := (.slice B0 l0.length d0)) HB.out (Nat.le_refl _))
 have HG := Aside0.mk (blk_put (cs' := #[.slice B0 l0.length d0, .slice A1 l1.length c1, .slice A2 l2.length c2, .slice A3 l3.length c3, .int .i64 a4, .int .i64 a5, .slice A6 l6.length c6, .slice A7 l7.length c7, .slice A8 l8.length c8, .slice A9 l9.length c9]) HG.out 0 (.slice B0 l0.length d0) rfl)
 refine hK.out _ _ ?_
 clear hK K
 clear hcl hfr
 refine pure_ (i := 14) (N := some 16) (v := ?_) (a' := ?_) #[true, true, true, true, true, true, true, true, true, true, true, true, true, true, true, false, false, false, false, false] rfl rfl (any_of HT_.out (by kernel_rfl)) (fun _ _ _ h => h) (Or.inl ⟨by rfl, ?_⟩) ?_ ?_
 rotate_left
 · intro w'
   go_simp
   with_reducible rfl
 rotate_left
 · simp only [Act.put, List.setIfInBounds_toArray, List.set_cons_zero, List.set_cons_succ, i64_w, i32_w]
   rfl
 have hcl : World.cell? _ ⟨w.heap.size, 1, none⟩ = some (.slice A1 l1.length c1) := (blk_cell HG.out 1).trans rfl
 have hfr := blk_frozen HG.out 1
 refine last_ (i := 15) (N := none) #[true, true, true, true, true, true, true, true, true, true, true, true, true, true, true, true, false, false, false, false] rfl rfl (one_of HT_.out (by kernel_rfl)) (by decide) (fun K hK => ?_)
 refine skip_ (w1 := ?_) (by rfl) rfl ?_ ?_
 rotate_left
 · go_simp
   rfl
 have R0 := Aside0.mk (Kd.R_set R0.out HG.out (by decide) 1 (.slice B1 l1.length d1))
 have R1 := Aside0.mk (Kd.R_set R1.out HG.out (by decide) 1 (.slice B1 l1.length d1))
 have R2 := Aside0.mk (Kd.R_set R2.out HG.out (by decide) 1 (.slice B1 l1.length d1))
 have R3 := Aside0.mk (Kd.R_set R3.out HG.out (by decide) 1 (.slice B1 l1.length d1))
 have HZ := Aside0.mk ((heap_setCell_other _ ⟨w.heap.size, 1, none⟩ (w.heap.size + 1) (.slice B1 l1.length d1) (by show ¬ (w.heap.size + 1 = w.heap.size); omega)).trans HZ.out)
 have HB := Aside0.mk (below_set (g := w.heap.size) (j := 1) (v := (.slice B1 l1.length d1)) HB.out (Nat.le_refl _))
 have HG := Aside0.mk (blk_put (cs' := #[.slice B0 l0.length d0, .slice B1 l1.length d1, .slice A2 l2.length c2, .slice A3 l3.length c3, .int .i64 a4, .int .i64 a5, .slice A6 l6.length c6, .slice A7 l7.length c7, .slice A8 l8.length c8, .slice A9 l9.length c9]) HG.out 1 (.slice B1 l1.length d1) rfl)
 refine hK.out _ _ ?_
 clear hK K
 clear hcl hfr
 refine pure_ (i := 16) (N := some 17) (v := ?_) (a' := ?_) #[true, true, true, true, true, true, true, true, true, true, true, true, true, true, true, true, true, false, false, false] rfl rfl (any_of HT_.out (by kernel_rfl)) (fun _ _ _ h => h) (Or.inl ⟨by rfl, ?_⟩) ?_ ?_
 rotate_left
 · intro w'
   go_simp
   with_reducible rfl
 rotate_left
 · simp only [Act.put, List.setIfInBounds_toArray, List.set_cons_zero, List.set_cons_succ, i64_w, i32_w]
   rfl
 have hcl : World.cell? _ ⟨w.heap.size, 2, none⟩ = some (.slice A2 l2.length c2) := (blk_cell HG.out 2).trans rfl
 have hfr := blk_frozen HG.out 2
 refine last_ (i := 17) (N := none) #[true, true, true, true, true, true, true, true, true, true, true, true, true, true, true, true, true, true, false, false] rfl rfl (one_of HT_.out (by kernel_rfl)) (by decide) (fun K hK => ?_)
 refine skip_ (w1 := ?_) (by rfl) rfl ?_ ?_
 rotate_left
 · go_simp
   rfl
 have R0 := Aside0.mk (Kd.R_set R0.out HG.out (by decide) 2 (.slice B2 l2.length d2))
 have R1 := Aside0.mk (Kd.R_set R1.out HG.out (by decide) 2 (.slice B2 l2.length d2))
 have R2 := Aside0.mk (Kd.R_set R2.out HG.out (by decide) 2 (.slice B2 l2.length d2))
 have R3 := Aside0.mk (Kd.R_set R3.out HG.out (by decide) 2 (.slice B2 l2.length d2))
 have HZ := Aside0.mk ((heap_setCell_other _ ⟨w.heap.size, 2, none⟩ (w.heap.size + 1) (.slice B2 l2.length d2) (by show ¬ (w.heap.size + 1 = w.heap.size); omega)).trans HZ.out)
 have HB := Aside0.mk (below_set (g := w.heap.size) (j := 2) (v := (.slice B2 l2.length d2)) HB.out (Nat.le_refl _))
 have HG := Aside0.mk (blk_put (cs' := #[.slice B0 l0.length d0, .slice B1 l1.length d1, .slice B2 l2.length d2, .slice A3 l3.length c3, .int .i64 a4, .int .i64 a5, .slice A6 l6.length c6, .slice A7 l7.length c7, .slice A8 l8.length c8, .slice A9 l9.length c9]) HG.out 2 (.slice B2 l2.length d2) rfl)
 refine hK.out _ _ ?_
 clear hK K
 clear hcl hfr
 refine pure_ (i := 18) (N := some 18) (v := ?_) (a' := ?_) #[true, true, true, true, true, true, true, true, true, true, true, true, true, true, true, true, true, true, true, false] rfl rfl (any_of HT_.out (by kernel_rfl)) (fun _ _ _ h => h) (Or.inl ⟨by rfl, ?_⟩) ?_ ?_
 rotate_left
 · intro w'
   go_simp
   with_reducible rfl
 rotate_left
 · simp only [Act.put, List.setIfInBounds_toArray, List.set_cons_zero, List.set_cons_succ, i64_w, i32_w]
   rfl
 have hcl : World.cell? _ ⟨w.heap.size, 3, none⟩ = some (.slice A3 l3.length c3) := (blk_cell HG.out 3).trans rfl
 have hfr := blk_frozen HG.out 3
 refine last_ (i := 19) (N := none) #[true, true, true, true, true, true, true, true, true, true, true, true, true, true, true, true, true, true, true, true] rfl rfl (one_of HT_.out (by kernel_rfl)) (by decide) (fun K hK => ?_)
 refine skip_ (w1 := ?_) (by rfl) rfl ?_ ?_
 rotate_left
 · go_simp
   rfl
 have R0 := Aside0.mk (Kd.R_set R0.out HG.out (by decide) 3 (.slice B3 l3.length d3))
 have R1 := Aside0.mk (Kd.R_set R1.out HG.out (by decide) 3 (.slice B3 l3.length d3))
 have R2 := Aside0.mk (Kd.R_set R2.out HG.out (by decide) 3 (.slice B3 l3.length d3))
 have R3 := Aside0.mk (Kd.R_set R3.out HG.out (by decide) 3 (.slice B3 l3.length d3))
 have HZ := Aside0.mk ((heap_setCell_other _ ⟨w.heap.size, 3, none⟩ (w.heap.size + 1) (.slice B3 l3.length d3) (by show ¬ (w.heap.size + 1 = w.heap.size); omega)).trans HZ.out)
 have HB := Aside0.mk (below_set (g := w.heap.size) (j := 3) (v := (.slice B3 l3.length d3)) HB.out (Nat.le_refl _))
 have HG := Aside0.mk (blk_put (cs' := #[.slice B0 l0.length d0, .slice B1 l1.length d1, .slice B2 l2.length d2, .slice B3 l3.length d3, .int .i64 a4, .int .i64 a5, .slice A6 l6.length c6, .slice A7 l7.length c7, .slice A8 l8.length c8, .slice A9 l9.length c9]) HG.out 3 (.slice B3 l3.length d3) rfl)
 refine hK.out _ _ ?_
 clear hK K
 clear hcl hfr
 refine done_ (done_of HT_.out (by kernel_rfl)) ?_
 go_wp2
 generalize hw3 : World.setCell _ _ _ = w3 at HB HG HZ R0 R1 R2 R3 ⊢
 clear hw3
 have HB := Aside0.mk (below_drew1 HB.out)
 have HG := Aside0.mk (show w3.drew.heap[w.heap.size]? = _ from HG.out)
 have HZ := Aside0.mk (show w3.drew.heap[w.heap.size + 1]? = _ from HZ.out)
 have R0 := Aside0.mk (Kd.R_drew R0.out)
 have R1 := Aside0.mk (Kd.R_drew R1.out)
 have R2 := Aside0.mk (Kd.R_drew R2.out)
 have R3 := Aside0.mk (Kd.R_drew R3.out)
 refine start_ (n := 20) (S := fun w' => w'.cell? ⟨w.heap.size, 6, none⟩ = some (.slice A6 l6.length c6) ∧ w'.cell? ⟨w.heap.size, 7, none⟩ = some (.slice A7 l7.length c7) ∧ w'.cell? ⟨w.heap.size, 8, none⟩ = some (.slice A8 l8.length c8) ∧ w'.cell? ⟨w.heap.size, 9, none⟩ = some (.slice A9 l9.length c9)) (ds := [13, 15, 17, 19]) #[false, false, false, false, false, false, false, false, false, false, false, false, false, false, false, false, false, false, false, false] (by kernel_rfl) rfl rfl ⟨(blk_cell HG.out 6).trans rfl, (blk_cell HG.out 7).trans rfl, (blk_cell HG.out 8).trans rfl, (blk_cell HG.out 9).trans rfl⟩ (fun hHeld => ?_); refine with_tabW cpb_tab cpb_bits (fun HT_ HW_ => ?_)
 refine pure_ (i := 0) (N := some 19) (v := ?_) (a' := ?_) #[true, false, false, false, false, false, false, false, false, false, false, false, false, false, false, false, false, false, false, false] rfl rfl (any_of HT_.out (by kernel_rfl)) (fun _ _ _ h => h) (Or.inl ⟨by rfl, ?_⟩) ?_ ?_
 rotate_left
 · intro w'
   go_simp
   with_reducible rfl
 rotate_left
 · simp only [Act.put, List.setIfInBounds_toArray, List.set_cons_zero, List.set_cons_succ, i64_w, i32_w]
   rfl
 refine pure_ (i := 3) (N := some 22) (v := ?_) (a' := ?_) #[true, false, false, true, false, false, false, false, false, false, false, false, false, false, false, false, false, false, false, false] rfl rfl (any_of HT_.out (by kernel_rfl)) (fun _ _ _ h => h) (Or.inl ⟨by rfl, ?_⟩) ?_ ?_
 rotate_left
 · intro w'
   go_simp
   with_reducible rfl
 rotate_left
 · simp only [Act.put, List.setIfInBounds_toArray, List.set_cons_zero, List.set_cons_succ, i64_w, i32_w]
   rfl
 refine pure_ (i := 6) (N := some 25) (v := ?_) (a' := ?_) #[true, false, false, true, false, false, true, false, false, false, false, false, false, false, false, false, false, false, false, false] rfl rfl (any_of HT_.out (by kernel_rfl)) (fun _ _ _ h => h) (Or.inl ⟨by rfl, ?_⟩) ?_ ?_
 rotate_left
 · intro w'
   go_simp
   with_reducible rfl
 rotate_left
 · simp only [Act.put, List.setIfInBounds_toArray, List.set_cons_zero, List.set_cons_succ, i64_w, i32_w]
   rfl
 refine pure_ (i := 9) (N := some 28) (v := ?_) (a' := ?_) #[true, false, false, true, false, false, true, false, false, true, false, false, false, false, false, false, false, false, false, false] rfl rfl (any_of HT_.out (by kernel_rfl)) (fun _ _ _ h => h) (Or.inl ⟨by rfl, ?_⟩) ?_ ?_
 rotate_left
 · intro w'
   go_simp
   with_reducible rfl
 rotate_left
 · simp only [Act.put, List.setIfInBounds_toArray, List.set_cons_zero, List.set_cons_succ, i64_w, i32_w]
   rfl
 refine take_ (i := 1) (N := some 20) (v := ?_) (a' := ?_) #[true, true, false, true, false, false, true, false, false, true, false, false, false, false, false, false, false, false, false, false] rfl rfl (take_ofW HT_.out HW_.out (by kernel_rfl)) (fun _ _ _ h => h) (Or.inl ⟨by rfl, ?_⟩) hHeld ?_ ?_
 rotate_left
 · rintro w' ⟨s0, s1, s2, s3⟩
   go_simp
   with_reducible rfl
 rotate_left
 · simp only [Act.put, List.setIfInBounds_toArray, List.set_cons_zero, List.set_cons_succ, i64_w, i32_w]
   rfl
 refine take_ (i := 4) (N := some 23) (v := ?_) (a' := ?_) #[true, true, false, true, true, false, true, false, false, true, false, false, false, false, false, false, false, false, false, false] rfl rfl (take_ofW HT_.out HW_.out (by kernel_rfl)) (fun _ _ _ h => h) (Or.inl ⟨by rfl, ?_⟩) hHeld ?_ ?_
 rotate_left
 · rintro w' ⟨s0, s1, s2, s3⟩
   go_simp
   with_reducible rfl
 rotate_left
 · simp only [Act.put, List.setIfInBounds_toArray, List.set_cons_zero, List.set_cons_succ, i64_w, i32_w]
   rfl
 refine take_ (i := 7) (N := some 26) (v := ?_) (a' := ?_) #[true, true, false, true, true, false, true, true, false, true, false, false, false, false, false, false, false, false, false, false] rfl rfl (take_ofW HT_.out HW_.out (by kernel_rfl)) (fun _ _ _ h => h) (Or.inl ⟨by rfl, ?_⟩) hHeld ?_ ?_
 rotate_left
 · rintro w' ⟨s0, s1, s2, s3⟩
   go_simp
   with_reducible rfl
 rotate_left
 · simp only [Act.put, List.setIfInBounds_toArray, List.set_cons_zero, List.set_cons_succ, i64_w, i32_w]
   rfl
 refine take_ (i := 10) (N := some 29) (v := ?_) (a' := ?_) #[true, true, false, true, true, false, true, true, false, true, true, false, false, false, false, false, false, false, false, false] rfl rfl (take_ofW HT_.out HW_.out (by kernel_rfl)) (fun _ _ _ h => h) (Or.inl ⟨by rfl, ?_⟩) hHeld ?_ ?_
 rotate_left
 · rintro w' ⟨s0, s1, s2, s3⟩
   go_simp
   with_reducible rfl
 rotate_left
 · simp only [Act.put, List.setIfInBounds_toArray, List.set_cons_zero, List.set_cons_succ, i64_w, i32_w]
   rfl
 refine one_ (i := 2) (N := some 21) #[true, true, true, true, true, false, true, true, false, true, true, false, false, false, false, false, false, false, false, false] rfl rfl (one_of HT_.out (by kernel_rfl)) (by decide) (fun K hK => ?_)
 refine goes_ Tryz.func108 (by kernel_rfl) rfl #[.slice A6 l6.length c6] (by rfl) rfl rfl (by (try simp only [List.map_toArray, List.map_cons, List.map_nil]); first | done | rfl) ?_
 refine (clone24 A6 c6 l6 _ (Kd.C_below HR6.out HB.out) hl6).mono ?_
 rintro e w19_0 ⟨v6, rfl, hR, hb⟩
 obtain ⟨B6, d6, rfl⟩ := Kd.R_slice hR
 refine ⟨_, rfl, ?_⟩
 have R6 := Aside0.mk (Kd.R_lower hR HB.out.size)
 have R0 := Aside0.mk (Kd.R_below R0.out hb)
 have R1 := Aside0.mk (Kd.R_below R1.out hb)
 have R2 := Aside0.mk (Kd.R_below R2.out hb)
 have R3 := Aside0.mk (Kd.R_below R3.out hb)
 have HG := Aside0.mk ((hb.block _ (blk_lt HG.out)).trans HG.out)
 have HZ := Aside0.mk ((hb.block _ (blk_lt HZ.out)).trans HZ.out)
 have HB := Aside0.mk (below_step HB.out hb)
 clear hR hb
 refine hK.out _ _ ⟨(blk_cell HG.out 6).trans rfl, (blk_cell HG.out 7).trans rfl, (blk_cell HG.out 8).trans rfl, (blk_cell HG.out 9).trans rfl⟩ (fun hHeld => ?_)
 clear hK K
 refine norm_ (a' := ?_) ?_ ?_
 rotate_left
 · show Act.put _ (some 21) _ = _
   simp only [Act.put, List.setIfInBounds_toArray, List.set_cons_zero, List.set_cons_succ, i64_w, i32_w]
   rfl
 refine pure_ (i := 12) (N := some 31) (v := ?_) (a' := ?_) #[true, true, true, true, true, false, true, true, false, true, true, false, true, false, false, false, false, false, false, false] rfl rfl (any_of HT_.out (by kernel_rfl)) (fun _ _ _ h => h) (Or.inl ⟨by rfl, ?_⟩) ?_ ?_
 rotate_left
 · intro w'
   go_simp
   with_reducible rfl
 rotate_left
 · simp only [Act.put, List.setIfInBounds_toArray, List.set_cons_zero, List.set_cons_succ, i64_w, i32_w]
   rfl
 refine one_ (i := 5) (N := some 24) #[true, true, true, true, true, true, true, true, false, true, true, false, true, false, false, false, false, false, false, false] rfl rfl (one_of HT_.out (by kernel_rfl)) (by decide) (fun K hK => ?_)
 refine goes_ Tryz.func108 (by kernel_rfl) rfl #[.slice A7 l7.length c7] (by rfl) rfl rfl (by (try simp only [List.map_toArray, List.map_cons, List.map_nil]); first | done | rfl) ?_
 refine (clone24 A7 c7 l7 _ (Kd.C_below HR7.out HB.out) hl7).mono ?_
 rintro e w19_1 ⟨v7, rfl, hR, hb⟩
 obtain ⟨B7, d7, rfl⟩ := Kd.R_slice hR
 refine ⟨_, rfl, ?_⟩
 have R7 := Aside0.mk (Kd.R_lower hR HB.out.size)
 have R0 := Aside0.mk (Kd.R_below R0.out hb)
 have R1 := Aside0.mk (Kd.R_below R1.out hb)
 have R2 := Aside0.mk (Kd.R_below R2.out hb)
 have R3 := Aside0.mk (Kd.R_below R3.out hb)
 have R6 := Aside0.mk (Kd.R_below R6.out hb)
 have HG := Aside0.mk ((hb.block _ (blk_lt HG.out)).trans HG.out)
 have HZ := Aside0.mk ((hb.block _ (blk_lt HZ.out)).trans HZ.out)
 have HB := Aside0.mk (below_step HB.out hb)
 clear hR hb
 refine hK.out _ _ ⟨(blk_cell HG.out 6).trans rfl, (blk_cell HG.out 7).trans rfl, (blk_cell HG.out 8).trans rfl, (blk_cell HG.out 9).trans rfl⟩ (fun hHeld => ?_)
 clear hK K
 refine norm_ (a' := ?_) ?_ ?_
 rotate_left
 · show Act.put _ (some 24) _ = _
   simp only [Act.put, List.setIfInBounds_toArray, List.set_cons_zero, List.set_cons_succ, i64_w, i32_w]
   rfl
 refine one_ (i := 8) (N := some 27) #[true, true, true, true, true, true, true, true, true, true, true, false, true, false, false, false, false, false, false, false] rfl rfl (one_of HT_.out (by kernel_rfl)) (by decide) (fun K hK => ?_)
 refine goes_ Tryz.func108 (by kernel_rfl) rfl #[.slice A8 l8.length c8] (by rfl) rfl rfl (by (try simp only [List.map_toArray, List.map_cons, List.map_nil]); first | done | rfl) ?_
 refine (clone24 A8 c8 l8 _ (Kd.C_below HR8.out HB.out) hl8).mono ?_
 rintro e w19_2 ⟨v8, rfl, hR, hb⟩
 obtain ⟨B8, d8, rfl⟩ := Kd.R_slice hR
 refine ⟨_, rfl, ?_⟩
 have R8 := Aside0.mk (Kd.R_lower hR HB.out.size)
 have R0 := Aside0.mk (Kd.R_below R0.out hb)
 have R1 := Aside0.mk (Kd.R_below R1.out hb)
 have R2 := Aside0.mk (Kd.R_below R2.out hb)
 have R3 := Aside0.mk (Kd.R_below R3.out hb)
 have R6 := Aside0.mk (Kd.R_below R6.out hb)
 have R7 := Aside0.mk (Kd.R_below R7.out hb)
 have HG := Aside0.mk ((hb.block _ (blk_lt HG.out)).trans HG.out)
 have HZ := Aside0.mk ((hb.block _ (blk_lt HZ.out)).trans HZ.out)
 have HB := Aside0.mk (below_step HB.out hb)
 clear hR hb
 refine hK.out _ _ ⟨(blk_cell HG.out 6).trans rfl, (blk_cell HG.out 7).trans rfl, (blk_cell HG.out 8).trans rfl, (blk_cell HG.out 9).trans rfl⟩ (fun hHeld => ?_)
 clear hK K
 refine norm_ (a' := ?_) ?_ ?_
 rotate_left
 · show Act.put _ (some 27) _ = _
   simp only [Act.put, List.setIfInBounds_toArray, List.set_cons_zero, List.set_cons_succ, i64_w, i32_w]
   rfl
 refine one_ (i := 11) (N := some 30) #[true, true, true, true, true, true, true, true, true, true, true, true, true, false, false, false, false, false, false, false] rfl rfl (one_of HT_.out (by kernel_rfl)) (by decide) (fun K hK => ?_)
 refine goes_ Tryz.func108 (by kernel_rfl) rfl #[.slice A9 l9.length c9] (by rfl) rfl rfl (by (try simp only [List.map_toArray, List.map_cons, List.map_nil]); first | done | rfl) ?_
 refine (clone24 A9 c9 l9 _ (Kd.C_below HR9.out HB.out) hl9).mono ?_
 rintro e w19_3 ⟨v9, rfl, hR, hb⟩
 obtain ⟨B9, d9, rfl⟩ := Kd.R_slice hR
 refine ⟨_, rfl, ?_⟩
 have R9 := Aside0.mk (Kd.R_lower hR HB.out.size)
 have R0 := Aside0.mk (Kd.R_below R0.out hb)
 have R1 := Aside0.mk (Kd.R_below R1.out hb)
 have R2 := Aside0.mk (Kd.R_below R2.out hb)
 have R3 := Aside0.mk (Kd.R_below R3.out hb)
 have R6 := Aside0.mk (Kd.R_below R6.out hb)
 have R7 := Aside0.mk (Kd.R_below R7.out hb)
 have R8 := Aside0.mk (Kd.R_below R8.out hb)
 have HG := Aside0.mk ((hb.block _ (blk_lt HG.out)).trans HG.out)
 have HZ := Aside0.mk ((hb.block _ (blk_lt HZ.out)).trans HZ.out)
 have HB := Aside0.mk (below_step HB.out hb)
 clear hR hb
 refine hK.out _ _ ⟨(blk_cell HG.out 6).trans rfl, (blk_cell HG.out 7).trans rfl, (blk_cell HG.out 8).trans rfl, (blk_cell HG.out 9).trans rfl⟩ (fun hHeld => ?_)
 clear hK K
 refine norm_ (a' := ?_) ?_ ?_
 rotate_left
 · show Act.put _ (some 30) _ = _
   simp only [Act.put, List.setIfInBounds_toArray, List.set_cons_zero, List.set_cons_succ, i64_w, i32_w]
   rfl
 have hcl : World.cell? _ ⟨w.heap.size, 6, none⟩ = some (.slice A6 l6.length c6) := (blk_cell HG.out 6).trans rfl
 have hfr := blk_frozen HG.out 6
 refine last_ (i := 13) (N := none) #[true, true, true, true, true, true, true, true, true, true, true, true, true, true, false, false, false, false, false, false] rfl rfl (one_of HT_.out (by kernel_rfl)) (by decide) (fun K hK => ?_)
 refine skip_ (w1 := ?_) (by rfl) rfl ?_ ?_
 rotate_left
 · go_simp
   rfl
 have R0 := Aside0.mk (Kd.R_set R0.out HG.out (by decide) 6 (.slice B6 l6.length d6))
 have R1 := Aside0.mk (Kd.R_set R1.out HG.out (by decide) 6 (.slice B6 l6.length d6))
 have R2 := Aside0.mk (Kd.R_set R2.out HG.out (by decide) 6 (.slice B6 l6.length d6))
 have R3 := Aside0.mk (Kd.R_set R3.out HG.out (by decide) 6 (.slice B6 l6.length d6))
 have R6 := Aside0.mk (Kd.R_set R6.out HG.out (by decide) 6 (.slice B6 l6.length d6))
 have R7 := Aside0.mk (Kd.R_set R7.out HG.out (by decide) 6 (.slice B6 l6.length d6))
 have R8 := Aside0.mk (Kd.R_set R8.out HG.out (by decide) 6 (.slice B6 l6.length d6))
 have R9 := Aside0.mk (Kd.R_set R9.out HG.out (by decide) 6 (.slice B6 l6.length d6))
 have HZ := Aside0.mk ((heap_setCell_other _ ⟨w.heap.size, 6, none⟩ (w.heap.size + 1) (.slice B6 l6.length d6) (by show ¬ (w.heap.size + 1 = w.heap.size); omega)).trans HZ.out)
 have HB := Aside0.mk (below_set (g := w.heap.size) (j := 6) (v := (.slice B6 l6.length d6)) HB.out (Nat.le_refl _))
 have HG := Aside0.mk (blk_put (cs' := #[.slice B0 l0.length d0, .slice B1 l1.length d1, .slice B2 l2.length d2, .slice B3 l3.length d3, .int .i64 a4, .int .i64 a5, .slice B6 l6.length d6, .slice A7 l7.length c7, .slice A8 l8.length c8, .slice A9 l9.length c9]) HG.out 6 (.slice B6 l6.length d6) rfl)
 refine hK.out _ _ ?_
 clear hK K
 clear hcl hfr
 refine pure_ (i := 14) (N := some 32) (v := ?_) (a' := ?_) #[true, true, true, true, true, true, true, true, true, true, true, true, true, true, true, false, false, false, false, false] rfl rfl (any_of HT_.out (by kernel_rfl)) (fun _ _ _ h => h) (Or.inl ⟨by rfl, ?_⟩) ?_ ?_
 rotate_left
 · intro w'
   go_simp
   with_reducible rfl
 rotate_left
 · simp only [Act.put, List.setIfInBounds_toArray, List.set_cons_zero, List.set_cons_succ, i64_w, i32_w]
   rfl
 have hcl : World.cell? _ ⟨w.heap.size, 7, none⟩ = some (.slice A7 l7.length c7) := (blk_cell HG.out 7).trans rfl
 have hfr := blk_frozen HG.out 7
 refine last_ (i := 15) (N := none) #[true, true, true, true, true, true, true, true, true, true, true, true, true, true, true, true, false, false, false, false] rfl rfl (one_of HT_.out (by kernel_rfl)) (by decide) (fun K hK => ?_)
 refine skip_ (w1 := ?_) (by rfl) rfl ?_ ?_
 rotate_left
 · go_simp
   rfl
 have R0 := Aside0.mk (Kd.R_set R0.out HG.out (by decide) 7 (.slice B7 l7.length d7))
 have R1 := Aside0.mk (Kd.R_set R1.out HG.out (by decide) 7 (.slice B7 l7.length d7))
 have R2 := Aside0.mk (Kd.R_set R2.out HG.out (by decide) 7 (.slice B7 l7.length d7))
 have R3 := Aside0.mk (Kd.R_set R3.out HG.out (by decide) 7 (.slice B7 l7.length d7))
 have R6 := Aside0.mk (Kd.R_set R6.out HG.out (by decide) 7 (.slice B7 l7.length d7))
 have R7 := Aside0.mk (Kd.R_set R7.out HG.out (by decide) 7 (.slice B7 l7.length d7))
 have R8 := Aside0.mk (Kd.R_set R8.out HG.out (by decide) 7 (.slice B7 l7.length d7))
 have R9 := Aside0.mk (Kd.R_set R9.out HG.out (by decide) 7 (.slice B7 l7.length d7))
 have HZ := Aside0.mk ((heap_setCell_other _ ⟨w.heap.size, 7, none⟩ (w.heap.size + 1) (.slice B7 l7.length d7) (by show ¬ (w.heap.size + 1 = w.heap.size); omega)).trans HZ.out)
 have HB := Aside0.mk (below_set (g := w.heap.size) (j := 7) (v := (.slice B7 l7.length d7)) HB.out (Nat.le_refl _))
 have HG := Aside0.mk (blk_put (cs' := #[.slice B0 l0.length d0, .slice B1 l1.length d1, .slice B2 l2.length d2, .slice B3 l3.length d3, .int .i64 a4, .int .i64 a5, .slice B6 l6.length d6, .slice B7 l7.length d7, .slice A8 l8.length c8, .slice A9 l9.length c9]) HG.out 7 (.slice B7 l7.length d7) rfl)
 refine hK.out _ _ ?_
 clear hK K
 clear hcl hfr
 refine pure_ (i := 16) (N := some 33) (v := ?_) (a' := ?_) #[true, true, true, true, true, true, true, true, true, true, true, true, true, true, true, true, true, false, false, false] rfl rfl (any_of HT_.out (by kernel_rfl)) (fun _ _ _ h => h) (Or.inl ⟨by rfl, ?_⟩) ?_ ?_
 rotate_left
 · intro w'
   go_simp
   with_reducible rfl
 rotate_left
 · simp only [Act.put, List.setIfInBounds_toArray, List.set_cons_zero, List.set_cons_succ, i64_w, i32_w]
   rfl
 have hcl : World.cell? _ ⟨w.heap.size, 8, none⟩ = some (.slice A8 l8.length c8) := (blk_cell HG.out 8).trans rfl
 have hfr := blk_frozen HG.out 8
 refine last_ (i := 17) (N := none) #[true, true, true, true, true, true, true, true, true, true, true, true, true, true, true, true, true, true, false, false] rfl rfl (one_of HT_.out (by kernel_rfl)) (by decide) (fun K hK => ?_)
 refine skip_ (w1 := ?_) (by rfl) rfl ?_ ?_
 rotate_left
 · go_simp
   rfl
 have R0 := Aside0.mk (Kd.R_set R0.out HG.out (by decide) 8 (.slice B8 l8.length d8))
 have R1 := Aside0.mk (Kd.R_set R1.out HG.out (by decide) 8 (.slice B8 l8.length d8))
 have R2 := Aside0.mk (Kd.R_set R2.out HG.out (by decide) 8 (.slice B8 l8.length d8))
 have R3 := Aside0.mk (Kd.R_set R3.out HG.out (by decide) 8 (.slice B8 l8.length d8))
 have R6 := Aside0.mk (Kd.R_set R6.out HG.out (by decide) 8 (.slice B8 l8.length d8))
 have R7 := Aside0.mk (Kd.R_set R7.out HG.out (by decide) 8 (.slice B8 l8.length d8))
 have R8 := Aside0.mk (Kd.R_set R8.out HG.out (by decide) 8 (.slice B8 l8.length d8))
 have R9 := Aside0.mk (Kd.R_set R9.out HG.out (by decide) 8 (.slice B8 l8.length d8))
 have HZ := Aside0.mk ((heap_setCell_other _ ⟨w.heap.size, 8, none⟩ (w.heap.size + 1) (.slice B8 l8.length d8) (by show ¬ (w.heap.size + 1 = w.heap.size); omega)).trans HZ.out)
 have HB := Aside0.mk (below_set (g := w.heap.size) (j := 8) (v := (.slice B8 l8.length d8)) HB.out (Nat.le_refl _))
 have HG := Aside0.mk (blk_put (cs' := #[.slice B0 l0.length d0, .slice B1 l1.length d1, .slice B2 l2.length d2, .slice B3 l3.length d3, .int .i64 a4, .int .i64 a5, .slice B6 l6.length d6, .slice B7 l7.length d7, .slice B8 l8.length d8, .slice A9 l9.length c9]) HG.out 8 (.slice B8 l8.length d8) rfl)
 refine hK.out _ _ ?_
 clear hK K
 clear hcl hfr
 refine pure_ (i := 18) (N := some 34) (v := ?_) (a' := ?_) #[true, true, true, true, true, true, true, true, true, true, true, true, true, true, true, true, true, true, true, false] rfl rfl (any_of HT_.out (by kernel_rfl)) (fun _ _ _ h => h) (Or.inl ⟨by rfl, ?_⟩) ?_ ?_
 rotate_left
 · intro w'
   go_simp
   with_reducible rfl
 rotate_left
 · simp only [Act.put, List.setIfInBounds_toArray, List.set_cons_zero, List.set_cons_succ, i64_w, i32_w]
   rfl
 have hcl : World.cell? _ ⟨w.heap.size, 9, none⟩ = some (.slice A9 l9.length c9) := (blk_cell HG.out 9).trans rfl
 have hfr := blk_frozen HG.out 9
 refine last_ (i := 19) (N := none) #[true, true, true, true, true, true, true, true, true, true, true, true, true, true, true, true, true, true, true, true] rfl rfl (one_of HT_.out (by kernel_rfl)) (by decide) (fun K hK => ?_)
 refine skip_ (w1 := ?_) (by rfl) rfl ?_ ?_
 rotate_left
 · go_simp
   rfl
 have R0 := Aside0.mk (Kd.R_set R0.out HG.out (by decide) 9 (.slice B9 l9.length d9))
 have R1 := Aside0.mk (Kd.R_set R1.out HG.out (by decide) 9 (.slice B9 l9.length d9))
 have R2 := Aside0.mk (Kd.R_set R2.out HG.out (by decide) 9 (.slice B9 l9.length d9))
 have R3 := Aside0.mk (Kd.R_set R3.out HG.out (by decide) 9 (.slice B9 l9.length d9))
 have R6 := Aside0.mk (Kd.R_set R6.out HG.out (by decide) 9 (.slice B9 l9.length d9))
 have R7 := Aside0.mk (Kd.R_set R7.out HG.out (by decide) 9 (.slice B9 l9.length d9))
 have R8 := Aside0.mk (Kd.R_set R8.out HG.out (by decide) 9 (.slice B9 l9.length d9))
 have R9 := Aside0.mk (Kd.R_set R9.out HG.out (by decide) 9 (.slice B9 l9.length d9))
 have HZ := Aside0.mk ((heap_setCell_other _ ⟨w.heap.size, 9, none⟩ (w.heap.size + 1) (.slice B9 l9.length d9) (by show ¬ (w.heap.size + 1 = w.heap.size); omega)).trans HZ.out)
 have HB := Aside0.mk (below_set (g := w.heap.size) (j := 9) (v := (.slice B9 l9.length d9)) HB.out (Nat.le_refl _))
 have HG := Aside0.mk (blk_put (cs' := #[.slice B0 l0.length d0, .slice B1 l1.length d1, .slice B2 l2.length d2, .slice B3 l3.length d3, .int .i64 a4, .int .i64 a5, .slice B6 l6.length d6, .slice B7 l7.length d7, .slice B8 l8.length d8, .slice B9 l9.length d9]) HG.out 9 (.slice B9 l9.length d9) rfl)
 refine hK.out _ _ ?_
 clear hK K
 clear hcl hfr
 refine done_ (done_of HT_.out (by kernel_rfl)) ?_
 go_upto_region 3 with (fail)
 generalize hw5 : World.setCell _ _ _ = w5 at HB HG HZ R0 R1 R2 R3 R6 R7 R8 R9 ⊢
 clear hw5
 go_wp2_with (first | (refine wpList_load_row rfl 26 _ rfl w.heap.size rfl 26 #[.slice B0 l0.length d0, .slice B1 l1.length d1, .slice B2 l2.length d2, .slice B3 l3.length d3, .int .i64 a4, .int .i64 a5, .slice B6 l6.length d6, .slice B7 l7.length d7, .slice B8 l8.length d8, .slice B9 l9.length d9] (0, 0) _ HG.out Tryz.underlying26 rfl (by kernel_rfl) ?_) | (refine wpList_store_row rfl 26 _ _ rfl (w.heap.size + 1) #[.slice B0 l0.length d0, .slice B1 l1.length d1, .slice B2 l2.length d2, .slice B3 l3.length d3, .int .i64 a4, .int .i64 a5, .slice B6 l6.length d6, .slice B7 l7.length d7, .slice B8 l8.length d8, .slice B9 l9.length d9] rfl rfl 26 Z26 HZ.out (by kernel_rfl) rfl (by kernel_rfl) ?_))
 refine bodyPost_ret (results_cell_row rfl _ _ (w.heap.size + 1) 26 #[.slice B0 l0.length d0, .slice B1 l1.length d1, .slice B2 l2.length d2, .slice B3 l3.length d3, .int .i64 a4, .int .i64 a5, .slice B6 l6.length d6, .slice B7 l7.length d7, .slice B8 l8.length d8, .slice B9 l9.length d9] (0, 0) _ rfl (setRow_heap _ _ _ _ _ _ HZ.out) Tryz.underlying26 rfl (by kernel_rfl)) rfl ⟨(.slice B0 l0.length d0), (.slice B1 l1.length d1), (.slice B2 l2.length d2), (.slice B3 l3.length d3), (.slice B6 l6.length d6), (.slice B7 l7.length d7), (.slice B8 l8.length d8), (.slice B9 l9.length d9), rfl, Kd.R_step (Kd.R_types R0.out HZ.out (by decide)) (fun k hk _ => setRow_other _ _ _ _ hk.2) |> fun h => Kd.R_mono h (fun _ _ => trivial), Kd.R_step (Kd.R_types R1.out HZ.out (by decide)) (fun k hk _ => setRow_other _ _ _ _ hk.2) |> fun h => Kd.R_mono h (fun _ _ => trivial), Kd.R_step (Kd.R_types R2.out HZ.out (by decide)) (fun k hk _ => setRow_other _ _ _ _ hk.2) |> fun h => Kd.R_mono h (fun _ _ => trivial), Kd.R_step (Kd.R_types R3.out HZ.out (by decide)) (fun k hk _ => setRow_other _ _ _ _ hk.2) |> fun h => Kd.R_mono h (fun _ _ => trivial), Kd.R_step (Kd.R_types R6.out HZ.out (by decide)) (fun k hk _ => setRow_other _ _ _ _ hk.2) |> fun h => Kd.R_mono h (fun _ _ => trivial), Kd.R_step (Kd.R_types R7.out HZ.out (by decide)) (fun k hk _ => setRow_other _ _ _ _ hk.2) |> fun h => Kd.R_mono h (fun _ _ => trivial), Kd.R_step (Kd.R_types R8.out HZ.out (by decide)) (fun k hk _ => setRow_other _ _ _ _ hk.2) |> fun h => Kd.R_mono h (fun _ _ => trivial), Kd.R_step (Kd.R_types R9.out HZ.out (by decide)) (fun k hk _ => setRow_other _ _ _ _ hk.2) |> fun h => Kd.R_mono h (fun _ _ => trivial), setRow_below' HB.out _ _ (by omega)⟩
end Go.Proofs.YtgalkkolbobmbaaGreat.V
