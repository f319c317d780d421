/- vm.copied: an object's banks and pieces in rows of one's own. -/
import Derived.Test.YtgalkkolbobmbaaGreatVClone
import Derived.Laws.EntriesVeiled

namespace Go.Proofs.YtgalkkolbobmbaaGreat.V
open Go.RowKit Go.Proofs.YtgalkkolbobmbaaGreatW.PrintWords Go.Proofs.YtgalkkolbobmbaaGreatW.PrintLast Go.Proofs.YtgalkkolbobmbaaGreatW.PrintMore
set_option linter.unusedVariables false
set_option linter.unusedSimpArgs false
def cpa_T : Bool × List (List Nat × List Nat) := (true, [([], []), ([0], [0]), ([1], [1]), ([], []), ([3], [3]), ([4, 2], [4]), ([], []), ([6], [6]), ([7, 5], [7]), ([], []), ([9], [9]), ([10, 8], [10]), ([0, 1, 2, 3, 4, 6, 7, 9, 10], []), ([12, 2, 11, 0, 1, 2, 3, 4, 6, 7, 9, 10], [2, 12]), ([0, 1, 2, 3, 4, 5, 6, 7, 9, 10, 12, 13], []), ([14, 5, 13, 0, 1, 2, 3, 4, 5, 6, 7, 9, 10, 12, 13], [5, 14]), ([0, 1, 2, 3, 4, 5, 6, 7, 8, 9, 10, 12, 13, 14, 15], []), ([16, 8, 15, 0, 1, 2, 3, 4, 5, 6, 7, 8, 9, 10, 12, 13, 14, 15], [8, 16]), ([0, 1, 2, 3, 4, 5, 6, 7, 8, 9, 10, 11, 12, 13, 14, 15, 16, 17], []), ([18, 11, 17, 0, 1, 2, 3, 4, 5, 6, 7, 8, 9, 10, 11, 12, 13, 14, 15, 16, 17], [11, 18])])
def cpa_B : List Nat := [0, 1, 3, 0, 8, 31, 0, 64, 255, 0, 512, 2047, 1759, 8191, 16383, 32767, 65535, 131071, 262143, 524287]
theorem cpa_tab : rtab .any (opsOf Tryz.f64 1) = cpa_T := by kernel_rfl
theorem cpa_bits : waitsOk cpa_T.2 cpa_B = true := by kernel_rfl
def cpb_T : Bool × List (List Nat × List Nat) := (true, [([], []), ([0], [0]), ([1], [1]), ([], []), ([3], [3]), ([4, 2], [4]), ([], []), ([6], [6]), ([7, 5], [7]), ([], []), ([9], [9]), ([10, 8], [10]), ([0, 1, 2, 3, 4, 6, 7, 9, 10], []), ([12, 2, 11, 0, 1, 2, 3, 4, 6, 7, 9, 10], [2, 12]), ([0, 1, 2, 3, 4, 5, 6, 7, 9, 10, 12, 13], []), ([14, 5, 13, 0, 1, 2, 3, 4, 5, 6, 7, 9, 10, 12, 13], [5, 14]), ([0, 1, 2, 3, 4, 5, 6, 7, 8, 9, 10, 12, 13, 14, 15], []), ([16, 8, 15, 0, 1, 2, 3, 4, 5, 6, 7, 8, 9, 10, 12, 13, 14, 15], [8, 16]), ([0, 1, 2, 3, 4, 5, 6, 7, 8, 9, 10, 11, 12, 13, 14, 15, 16, 17], []), ([18, 11, 17, 0, 1, 2, 3, 4, 5, 6, 7, 8, 9, 10, 11, 12, 13, 14, 15, 16, 17], [11, 18])])
def cpb_B : List Nat := [0, 1, 3, 0, 8, 31, 0, 64, 255, 0, 512, 2047, 1759, 8191, 16383, 32767, 65535, 131071, 262143, 524287]
theorem cpb_tab : rtab .any (opsOf Tryz.f64 2) = cpb_T := by kernel_rfl
theorem cpb_bits : waitsOk cpb_T.2 cpb_B = true := by kernel_rfl

theorem setRow_below' {B : Nat} {w W : World} (h : Below B w W) (g : Nat) (cs : Array Value) (hg : B ≤ g) : Below B w (W.setRow g cs) :=
 ⟨h.os, h.tape, h.output, by simpa [World.setRow] using h.size, fun i hi => by
  rw [← h.block i hi]
  simp [World.setRow, Array.getElem?_modify, show ¬ g = i by omega]⟩
def Z26 : Array Value := #[.slice none 0 0, .slice none 0 0, .slice none 0 0, .slice none 0 0, .int .i64 0, .int .i64 0, .slice none 0 0, .slice none 0 0, .slice none 0 0, .slice none 0 0]
set_option maxHeartbeats 4000000 in
set_option maxRecDepth 100000 in
theorem copied_any (A0 A1 A2 A3 A6 A7 A8 A9 : Option Addr) (c0 c1 c2 c3 c6 c7 c8 c9 : Nat) (l0 l1 l2 l3 : List Int) (a4 a5 : Int) (l6 l7 l8 l9 : List S49) (w : World) (hr0 : Kd.C (Kd.int .i64) w A0 l0.length l0) (hl0 : l0.length * 8 ≤ 140737488355328) (hr1 : Kd.C (Kd.int .i64) w A1 l1.length l1) (hl1 : l1.length * 8 ≤ 140737488355328) (hr2 : Kd.C (Kd.int .i64) w A2 l2.length l2) (hl2 : l2.length * 8 ≤ 140737488355328) (hr3 : Kd.C (Kd.int .i64) w A3 l3.length l3) (hl3 : l3.length * 8 ≤ 140737488355328) (hr6 : Kd.C k49 w A6 l6.length l6) (hl6 : l6.length * 48 ≤ 140737488355328) (hr7 : Kd.C k49 w A7 l7.length l7) (hl7 : l7.length * 48 ≤ 140737488355328) (hr8 : Kd.C k49 w A8 l8.length l8) (hl8 : l8.length * 48 ≤ 140737488355328) (hr9 : Kd.C k49 w A9 l9.length l9) (hl9 : l9.length * 48 ≤ 140737488355328) :
 Calls Tryz.prog 64 #[.agg #[.slice A0 l0.length c0, .slice A1 l1.length c1, .slice A2 l2.length c2, .slice A3 l3.length c3, .int .i64 a4, .int .i64 a5, .slice A6 l6.length c6, .slice A7 l7.length c7, .slice A8 l8.length c8, .slice A9 l9.length c9]] w fun e w' => ∃ v0 v1 v2 v3 v6 v7 v8 v9, e = .returned (.agg #[v0, v1, v2, v3, .int .i64 a4, .int .i64 a5, v6, v7, v8, v9]) ∧ Kd.R (Kd.int .i64) 3 w' w.heap.size (fun _ => True) v0 l0 ∧ Kd.R (Kd.int .i64) 3 w' w.heap.size (fun _ => True) v1 l1 ∧ Kd.R (Kd.int .i64) 2 w' w.heap.size (fun _ => True) v2 l2 ∧ Kd.R (Kd.int .i64) 2 w' w.heap.size (fun _ => True) v3 l3 ∧ Kd.R k49 49 w' w.heap.size (fun _ => True) v6 l6 ∧ Kd.R k49 49 w' w.heap.size (fun _ => True) v7 l7 ∧ Kd.R k49 49 w' w.heap.size (fun _ => True) v8 l8 ∧ Kd.R k49 49 w' w.heap.size (fun _ => True) v9 l9 ∧ Below w.heap.size w w' := by
 have HR0 := Aside0.mk hr0
 have HR1 := Aside0.mk hr1
 have HR2 := Aside0.mk hr2
 have HR3 := Aside0.mk hr3
 have HR6 := Aside0.mk hr6
 have HR7 := Aside0.mk hr7
 have HR8 := Aside0.mk hr8
 have HR9 := Aside0.mk hr9
 clear hr0 hr1 hr2 hr3 hr6 hr7 hr8 hr9
 go_enter Tryz.func64, Tryz.ntmps64
 go_wp2_with (fail)
 obtain ⟨w1, hw1⟩ : ∃ z, ((w.alloc (Obj.cells #[.slice A0 l0.length c0, .slice A1 l1.length c1, .slice A2 l2.length c2, .slice A3 l3.length c3, .int .i64 a4, .int .i64 a5, .slice A6 l6.length c6, .slice A7 l7.length c7, .slice A8 l8.length c8, .slice A9 l9.length c9] 26)).alloc (Obj.cells Z26 26)) = z := ⟨_, rfl⟩
 have HB := Aside0.mk (show Below w.heap.size w w1 by rw [← hw1]; exact ((Below.refl _ _).alloc (Nat.le_refl _) _).alloc (by simp) _)
 have HG := Aside0.mk (show w1.heap[w.heap.size]? = some (.cells #[.slice A0 l0.length c0, .slice A1 l1.length c1, .slice A2 l2.length c2, .slice A3 l3.length c3, .int .i64 a4, .int .i64 a5, .slice A6 l6.length c6, .slice A7 l7.length c7, .slice A8 l8.length c8, .slice A9 l9.length c9] 26 (0, 0)) by rw [← hw1]; exact blk_alloc (blk_new w _) _)
 have HZ := Aside0.mk (show w1.heap[w.heap.size + 1]? = some (.cells Z26 26 (0, 0)) by
  rw [← hw1]
  have := blk_new (w.alloc (Obj.cells #[.slice A0 l0.length c0, .slice A1 l1.length c1, .slice A2 l2.length c2, .slice A3 l3.length c3, .int .i64 a4, .int .i64 a5, .slice A6 l6.length c6, .slice A7 l7.length c7, .slice A8 l8.length c8, .slice A9 l9.length c9] 26)) (Obj.cells Z26 26)
  simpa using this)
 unfold Z26 at hw1
 rw [hw1]
 clear hw1
 have HB := Aside0.mk (below_drew1 HB.out)
 have HG := Aside0.mk (show w1.drew.heap[w.heap.size]? = _ from HG.out)
 have HZ := Aside0.mk (show w1.drew.heap[w.heap.size + 1]? = _ from HZ.out)
 refine start_ (n := 20) (S := fun w' => w'.cell? ⟨w.heap.size, 0, none⟩ = some (.slice A0 l0.length c0) ∧ w'.cell? ⟨w.heap.size, 1, none⟩ = some (.slice A1 l1.length c1) ∧ w'.cell? ⟨w.heap.size, 2, none⟩ = some (.slice A2 l2.length c2) ∧ w'.cell? ⟨w.heap.size, 3, none⟩ = some (.slice A3 l3.length c3)) (ds := [13, 15, 17, 19]) (Array.replicate 20 false) (by kernel_rfl) rfl rfl ⟨(blk_cell HG.out 0).trans rfl, (blk_cell HG.out 1).trans rfl, (blk_cell HG.out 2).trans rfl, (blk_cell HG.out 3).trans rfl⟩ (fun hHeld => ?_); refine with_tabW cpa_tab cpa_bits (fun HT_ HW_ => ?_)
 refine pu HT_ 0 3 rfl rfl (by kernel_rfl) (fun _ _ _ h => h) (by rfl) (by intro w'; go_simp; with_reducible rfl) (by simp only [Act.put, sA, sB, sC, i64_w, i32_w]; rfl) ?_
 refine pu HT_ 3 6 rfl rfl (by kernel_rfl) (fun _ _ _ h => h) (by rfl) (by intro w'; go_simp; with_reducible rfl) (by simp only [Act.put, sA, sB, sC, i64_w, i32_w]; rfl) ?_
 refine pu HT_ 6 9 rfl rfl (by kernel_rfl) (fun _ _ _ h => h) (by rfl) (by intro w'; go_simp; with_reducible rfl) (by simp only [Act.put, sA, sB, sC, i64_w, i32_w]; rfl) ?_
 refine pu HT_ 9 12 rfl rfl (by kernel_rfl) (fun _ _ _ h => h) (by rfl) (by intro w'; go_simp; with_reducible rfl) (by simp only [Act.put, sA, sB, sC, i64_w, i32_w]; rfl) ?_
 refine tk HT_ HW_ hHeld 1 4 rfl rfl (by kernel_rfl) (fun _ _ _ h => h) (by rfl) (by rintro w' ⟨s0, s1, s2, s3⟩; go_simp; with_reducible rfl) (by simp only [Act.put, sA, sB, sC, i64_w, i32_w]; rfl) ?_
 refine tk HT_ HW_ hHeld 4 7 rfl rfl (by kernel_rfl) (fun _ _ _ h => h) (by rfl) (by rintro w' ⟨s0, s1, s2, s3⟩; go_simp; with_reducible rfl) (by simp only [Act.put, sA, sB, sC, i64_w, i32_w]; rfl) ?_
 refine tk HT_ HW_ hHeld 7 10 rfl rfl (by kernel_rfl) (fun _ _ _ h => h) (by rfl) (by rintro w' ⟨s0, s1, s2, s3⟩; go_simp; with_reducible rfl) (by simp only [Act.put, sA, sB, sC, i64_w, i32_w]; rfl) ?_
 refine tk HT_ HW_ hHeld 10 13 rfl rfl (by kernel_rfl) (fun _ _ _ h => h) (by rfl) (by rintro w' ⟨s0, s1, s2, s3⟩; go_simp; with_reducible rfl) (by simp only [Act.put, sA, sB, sC, i64_w, i32_w]; rfl) ?_
 refine on1 HT_ 2 (some 5) rfl rfl (by kernel_rfl) (by decide) (fun K hK => ?_)
 refine goes_ Tryz.func107 (by kernel_rfl) rfl #[.slice A0 l0.length c0] (by rfl) rfl rfl (by (try simp only [List.map_toArray, List.map_cons, List.map_nil]); first | done | rfl) ?_
 refine (clone22 A0 c0 l0 _ (Kd.C_below HR0.out HB.out) hl0).mono ?_
 rintro e w3_0 ⟨v0, rfl, hR, hb⟩
 obtain ⟨B0, d0, rfl⟩ := Kd.R_slice hR
 refine ⟨_, rfl, ?_⟩
 have R0 := Aside0.mk (Kd.R_lower hR HB.out.size)
 have HG := Aside0.mk ((hb.block _ (blk_lt HG.out)).trans HG.out)
 have HZ := Aside0.mk ((hb.block _ (blk_lt HZ.out)).trans HZ.out)
 have HB := Aside0.mk (below_step HB.out hb)
 clear hR hb
 refine hK.out _ _ ⟨(blk_cell HG.out 0).trans rfl, (blk_cell HG.out 1).trans rfl, (blk_cell HG.out 2).trans rfl, (blk_cell HG.out 3).trans rfl⟩ (fun hHeld => ?_)
 clear hK K
 refine norm_ (by show Act.put _ (some 5) _ = _; simp only [Act.put, sA, sB, sC, i64_w, i32_w]; rfl) ?_
 refine pu HT_ 12 15 rfl rfl (by kernel_rfl) (fun _ _ _ h => h) (by rfl) (by intro w'; go_simp; with_reducible rfl) (by simp only [Act.put, sA, sB, sC, i64_w, i32_w]; rfl) ?_
 refine on1 HT_ 5 (some 8) rfl rfl (by kernel_rfl) (by decide) (fun K hK => ?_)
 refine goes_ Tryz.func107 (by kernel_rfl) rfl #[.slice A1 l1.length c1] (by rfl) rfl rfl (by (try simp only [List.map_toArray, List.map_cons, List.map_nil]); first | done | rfl) ?_
 refine (clone22 A1 c1 l1 _ (Kd.C_below HR1.out HB.out) hl1).mono ?_
 rintro e w3_1 ⟨v1, rfl, hR, hb⟩
 obtain ⟨B1, d1, rfl⟩ := Kd.R_slice hR
 refine ⟨_, rfl, ?_⟩
 have R1 := Aside0.mk (Kd.R_lower hR HB.out.size)
 have R0 := Aside0.mk (Kd.R_below R0.out hb)
 have HG := Aside0.mk ((hb.block _ (blk_lt HG.out)).trans HG.out)
 have HZ := Aside0.mk ((hb.block _ (blk_lt HZ.out)).trans HZ.out)
 have HB := Aside0.mk (below_step HB.out hb)
 clear hR hb
 refine hK.out _ _ ⟨(blk_cell HG.out 0).trans rfl, (blk_cell HG.out 1).trans rfl, (blk_cell HG.out 2).trans rfl, (blk_cell HG.out 3).trans rfl⟩ (fun hHeld => ?_)
 clear hK K
 refine norm_ (by show Act.put _ (some 8) _ = _; simp only [Act.put, sA, sB, sC, i64_w, i32_w]; rfl) ?_
 refine on1 HT_ 8 (some 11) rfl rfl (by kernel_rfl) (by decide) (fun K hK => ?_)
 refine goes_ Tryz.func71 (by kernel_rfl) rfl #[.slice A2 l2.length c2] (by rfl) rfl rfl (by (try simp only [List.map_toArray, List.map_cons, List.map_nil]); first | done | rfl) ?_
 refine (clone23 A2 c2 l2 _ (Kd.C_below HR2.out HB.out) hl2).mono ?_
 rintro e w3_2 ⟨v2, rfl, hR, hb⟩
 obtain ⟨B2, d2, rfl⟩ := Kd.R_slice hR
 refine ⟨_, rfl, ?_⟩
 have R2 := Aside0.mk (Kd.R_lower hR HB.out.size)
 have R0 := Aside0.mk (Kd.R_below R0.out hb)
 have R1 := Aside0.mk (Kd.R_below R1.out hb)
 have HG := Aside0.mk ((hb.block _ (blk_lt HG.out)).trans HG.out)
 have HZ := Aside0.mk ((hb.block _ (blk_lt HZ.out)).trans HZ.out)
 have HB := Aside0.mk (below_step HB.out hb)
 clear hR hb
 refine hK.out _ _ ⟨(blk_cell HG.out 0).trans rfl, (blk_cell HG.out 1).trans rfl, (blk_cell HG.out 2).trans rfl, (blk_cell HG.out 3).trans rfl⟩ (fun hHeld => ?_)
 clear hK K
 refine norm_ (by show Act.put _ (some 11) _ = _; simp only [Act.put, sA, sB, sC, i64_w, i32_w]; rfl) ?_
 refine on1 HT_ 11 (some 14) rfl rfl (by kernel_rfl) (by decide) (fun K hK => ?_)
 refine goes_ Tryz.func71 (by kernel_rfl) rfl #[.slice A3 l3.length c3] (by rfl) rfl rfl (by (try simp only [List.map_toArray, List.map_cons, List.map_nil]); first | done | rfl) ?_
 refine (clone23 A3 c3 l3 _ (Kd.C_below HR3.out HB.out) hl3).mono ?_
 rintro e w3_3 ⟨v3, rfl, hR, hb⟩
 obtain ⟨B3, d3, rfl⟩ := Kd.R_slice hR
 refine ⟨_, rfl, ?_⟩
 have R3 := Aside0.mk (Kd.R_lower hR HB.out.size)
 have R0 := Aside0.mk (Kd.R_below R0.out hb)
 have R1 := Aside0.mk (Kd.R_below R1.out hb)
 have R2 := Aside0.mk (Kd.R_below R2.out hb)
 have HG := Aside0.mk ((hb.block _ (blk_lt HG.out)).trans HG.out)
 have HZ := Aside0.mk ((hb.block _ (blk_lt HZ.out)).trans HZ.out)
 have HB := Aside0.mk (below_step HB.out hb)
 clear hR hb
 refine hK.out _ _ ⟨(blk_cell HG.out 0).trans rfl, (blk_cell HG.out 1).trans rfl, (blk_cell HG.out 2).trans rfl, (blk_cell HG.out 3).trans rfl⟩ (fun hHeld => ?_)
 clear hK K
 refine norm_ (by show Act.put _ (some 14) _ = _; simp only [Act.put, sA, sB, sC, i64_w, i32_w]; rfl) ?_
 have hcl : World.cell? _ ⟨w.heap.size, 0, none⟩ = some (.slice A0 l0.length c0) := (blk_cell HG.out 0).trans rfl
 have hfr := blk_frozen HG.out 0
 refine la1 HT_ 13 none rfl rfl (by kernel_rfl) (by decide) (fun K hK => ?_)
 refine skip_ (w1 := ?_) (by rfl) rfl ?_ ?_
 rotate_left
 · go_simp
   rfl
 have R0 := Aside0.mk (Kd.R_set R0.out HG.out (by decide) 0 (.slice B0 l0.length d0))
 have R1 := Aside0.mk (Kd.R_set R1.out HG.out (by decide) 0 (.slice B0 l0.length d0))
 have R2 := Aside0.mk (Kd.R_set R2.out HG.out (by decide) 0 (.slice B0 l0.length d0))
 have R3 := Aside0.mk (Kd.R_set R3.out HG.out (by decide) 0 (.slice B0 l0.length d0))
 have HZ := Aside0.mk ((heap_setCell_other _ ⟨w.heap.size, 0, none⟩ (w.heap.size + 1) (.slice B0 l0.length d0) (by show ¬ (w.heap.size + 1 = w.heap.size); omega)).trans HZ.out)
 have HB := Aside0.mk (below_set (g := w.heap.size) (j := 0) (v := (.slice B0 l0.length d0)) HB.out (Nat.le_refl _))
 have HG := Aside0.mk (blk_put (cs' := #[.slice B0 l0.length d0, .slice A1 l1.length c1, .slice A2 l2.length c2, .slice A3 l3.length c3, .int .i64 a4, .int .i64 a5, .slice A6 l6.length c6, .slice A7 l7.length c7, .slice A8 l8.length c8, .slice A9 l9.length c9]) HG.out 0 (.slice B0 l0.length d0) rfl)
 refine hK.out _ _ ?_
 clear hK K
 clear hcl hfr
 refine pu HT_ 14 16 rfl rfl (by kernel_rfl) (fun _ _ _ h => h) (by rfl) (by intro w'; go_simp; with_reducible rfl) (by simp only [Act.put, sA, sB, sC, i64_w, i32_w]; rfl) ?_
 have hcl : World.cell? _ ⟨w.heap.size, 1, none⟩ = some (.slice A1 l1.length c1) := (blk_cell HG.out 1).trans rfl
 have hfr := blk_frozen HG.out 1
 refine la1 HT_ 15 none rfl rfl (by kernel_rfl) (by decide) (fun K hK => ?_)
 refine skip_ (w1 := ?_) (by rfl) rfl ?_ ?_
 rotate_left
 · go_simp
   rfl
 have R0 := Aside0.mk (Kd.R_set R0.out HG.out (by decide) 1 (.slice B1 l1.length d1))
 have R1 := Aside0.mk (Kd.R_set R1.out HG.out (by decide) 1 (.slice B1 l1.length d1))
 have R2 := Aside0.mk (Kd.R_set R2.out HG.out (by decide) 1 (.slice B1 l1.length d1))
 have R3 := Aside0.mk (Kd.R_set R3.out HG.out (by decide) 1 (.slice B1 l1.length d1))
 have HZ := Aside0.mk ((heap_setCell_other _ ⟨w.heap.size, 1, none⟩ (w.heap.size + 1) (.slice B1 l1.length d1) (by show ¬ (w.heap.size + 1 = w.heap.size); omega)).trans HZ.out)
 have HB := Aside0.mk (below_set (g := w.heap.size) (j := 1) (v := (.slice B1 l1.length d1)) HB.out (Nat.le_refl _))
 have HG := Aside0.mk (blk_put (cs' := #[.slice B0 l0.length d0, .slice B1 l1.length d1, .slice A2 l2.length c2, .slice A3 l3.length c3, .int .i64 a4, .int .i64 a5, .slice A6 l6.length c6, .slice A7 l7.length c7, .slice A8 l8.length c8, .slice A9 l9.length c9]) HG.out 1 (.slice B1 l1.length d1) rfl)
 refine hK.out _ _ ?_
 clear hK K
 clear hcl hfr
 refine pu HT_ 16 17 rfl rfl (by kernel_rfl) (fun _ _ _ h => h) (by rfl) (by intro w'; go_simp; with_reducible rfl) (by simp only [Act.put, sA, sB, sC, i64_w, i32_w]; rfl) ?_
 have hcl : World.cell? _ ⟨w.heap.size, 2, none⟩ = some (.slice A2 l2.length c2) := (blk_cell HG.out 2).trans rfl
 have hfr := blk_frozen HG.out 2
 refine la1 HT_ 17 none rfl rfl (by kernel_rfl) (by decide) (fun K hK => ?_)
 refine skip_ (w1 := ?_) (by rfl) rfl ?_ ?_
 rotate_left
 · go_simp
   rfl
 have R0 := Aside0.mk (Kd.R_set R0.out HG.out (by decide) 2 (.slice B2 l2.length d2))
 have R1 := Aside0.mk (Kd.R_set R1.out HG.out (by decide) 2 (.slice B2 l2.length d2))
 have R2 := Aside0.mk (Kd.R_set R2.out HG.out (by decide) 2 (.slice B2 l2.length d2))
 have R3 := Aside0.mk (Kd.R_set R3.out HG.out (by decide) 2 (.slice B2 l2.length d2))
 have HZ := Aside0.mk ((heap_setCell_other _ ⟨w.heap.size, 2, none⟩ (w.heap.size + 1) (.slice B2 l2.length d2) (by show ¬ (w.heap.size + 1 = w.heap.size); omega)).trans HZ.out)
 have HB := Aside0.mk (below_set (g := w.heap.size) (j := 2) (v := (.slice B2 l2.length d2)) HB.out (Nat.le_refl _))
 have HG := Aside0.mk (blk_put (cs' := #[.slice B0 l0.length d0, .slice B1 l1.length d1, .slice B2 l2.length d2, .slice A3 l3.length c3, .int .i64 a4, .int .i64 a5, .slice A6 l6.length c6, .slice A7 l7.length c7, .slice A8 l8.length c8, .slice A9 l9.length c9]) HG.out 2 (.slice B2 l2.length d2) rfl)
 refine hK.out _ _ ?_
 clear hK K
 clear hcl hfr
 refine pu HT_ 18 18 rfl rfl (by kernel_rfl) (fun _ _ _ h => h) (by rfl) (by intro w'; go_simp; with_reducible rfl) (by simp only [Act.put, sA, sB, sC, i64_w, i32_w]; rfl) ?_
 have hcl : World.cell? _ ⟨w.heap.size, 3, none⟩ = some (.slice A3 l3.length c3) := (blk_cell HG.out 3).trans rfl
 have hfr := blk_frozen HG.out 3
 refine la1 HT_ 19 none rfl rfl (by kernel_rfl) (by decide) (fun K hK => ?_)
 refine skip_ (w1 := ?_) (by rfl) rfl ?_ ?_
 rotate_left
 · go_simp
   rfl
 have R0 := Aside0.mk (Kd.R_set R0.out HG.out (by decide) 3 (.slice B3 l3.length d3))
 have R1 := Aside0.mk (Kd.R_set R1.out HG.out (by decide) 3 (.slice B3 l3.length d3))
 have R2 := Aside0.mk (Kd.R_set R2.out HG.out (by decide) 3 (.slice B3 l3.length d3))
 have R3 := Aside0.mk (Kd.R_set R3.out HG.out (by decide) 3 (.slice B3 l3.length d3))
 have HZ := Aside0.mk ((heap_setCell_other _ ⟨w.heap.size, 3, none⟩ (w.heap.size + 1) (.slice B3 l3.length d3) (by show ¬ (w.heap.size + 1 = w.heap.size); omega)).trans HZ.out)
 have HB := Aside0.mk (below_set (g := w.heap.size) (j := 3) (v := (.slice B3 l3.length d3)) HB.out (Nat.le_refl _))
 have HG := Aside0.mk (blk_put (cs' := #[.slice B0 l0.length d0, .slice B1 l1.length d1, .slice B2 l2.length d2, .slice B3 l3.length d3, .int .i64 a4, .int .i64 a5, .slice A6 l6.length c6, .slice A7 l7.length c7, .slice A8 l8.length c8, .slice A9 l9.length c9]) HG.out 3 (.slice B3 l3.length d3) rfl)
 refine hK.out _ _ ?_
 clear hK K
 clear hcl hfr
 refine done_ (done_of HT_.out (by kernel_rfl)) ?_
 go_wp2
 generalize hw3 : World.setCell _ _ _ = w3 at HB HG HZ R0 R1 R2 R3 ⊢
 clear hw3
 have HB := Aside0.mk (below_drew1 HB.out)
 have HG := Aside0.mk (show w3.drew.heap[w.heap.size]? = _ from HG.out)
 have HZ := Aside0.mk (show w3.drew.heap[w.heap.size + 1]? = _ from HZ.out)
 have R0 := Aside0.mk (Kd.R_drew R0.out)
 have R1 := Aside0.mk (Kd.R_drew R1.out)
 have R2 := Aside0.mk (Kd.R_drew R2.out)
 have R3 := Aside0.mk (Kd.R_drew R3.out)
 refine start_ (n := 20) (S := fun w' => w'.cell? ⟨w.heap.size, 6, none⟩ = some (.slice A6 l6.length c6) ∧ w'.cell? ⟨w.heap.size, 7, none⟩ = some (.slice A7 l7.length c7) ∧ w'.cell? ⟨w.heap.size, 8, none⟩ = some (.slice A8 l8.length c8) ∧ w'.cell? ⟨w.heap.size, 9, none⟩ = some (.slice A9 l9.length c9)) (ds := [13, 15, 17, 19]) (Array.replicate 20 false) (by kernel_rfl) rfl rfl ⟨(blk_cell HG.out 6).trans rfl, (blk_cell HG.out 7).trans rfl, (blk_cell HG.out 8).trans rfl, (blk_cell HG.out 9).trans rfl⟩ (fun hHeld => ?_); refine with_tabW cpb_tab cpb_bits (fun HT_ HW_ => ?_)
 refine pu HT_ 0 19 rfl rfl (by kernel_rfl) (fun _ _ _ h => h) (by rfl) (by intro w'; go_simp; with_reducible rfl) (by simp only [Act.put, sA, sB, sC, i64_w, i32_w]; rfl) ?_
 refine pu HT_ 3 22 rfl rfl (by kernel_rfl) (fun _ _ _ h => h) (by rfl) (by intro w'; go_simp; with_reducible rfl) (by simp only [Act.put, sA, sB, sC, i64_w, i32_w]; rfl) ?_
 refine pu HT_ 6 25 rfl rfl (by kernel_rfl) (fun _ _ _ h => h) (by rfl) (by intro w'; go_simp; with_reducible rfl) (by simp only [Act.put, sA, sB, sC, i64_w, i32_w]; rfl) ?_
 refine pu HT_ 9 28 rfl rfl (by kernel_rfl) (fun _ _ _ h => h) (by rfl) (by intro w'; go_simp; with_reducible rfl) (by simp only [Act.put, sA, sB, sC, i64_w, i32_w]; rfl) ?_
 refine tk HT_ HW_ hHeld 1 20 rfl rfl (by kernel_rfl) (fun _ _ _ h => h) (by rfl) (by rintro w' ⟨s0, s1, s2, s3⟩; go_simp; with_reducible rfl) (by simp only [Act.put, sA, sB, sC, i64_w, i32_w]; rfl) ?_
 refine tk HT_ HW_ hHeld 4 23 rfl rfl (by kernel_rfl) (fun _ _ _ h => h) (by rfl) (by rintro w' ⟨s0, s1, s2, s3⟩; go_simp; with_reducible rfl) (by simp only [Act.put, sA, sB, sC, i64_w, i32_w]; rfl) ?_
 refine tk HT_ HW_ hHeld 7 26 rfl rfl (by kernel_rfl) (fun _ _ _ h => h) (by rfl) (by rintro w' ⟨s0, s1, s2, s3⟩; go_simp; with_reducible rfl) (by simp only [Act.put, sA, sB, sC, i64_w, i32_w]; rfl) ?_
 refine tk HT_ HW_ hHeld 10 29 rfl rfl (by kernel_rfl) (fun _ _ _ h => h) (by rfl) (by rintro w' ⟨s0, s1, s2, s3⟩; go_simp; with_reducible rfl) (by simp only [Act.put, sA, sB, sC, i64_w, i32_w]; rfl) ?_
 refine on1 HT_ 2 (some 21) rfl rfl (by kernel_rfl) (by decide) (fun K hK => ?_)
 refine goes_ Tryz.func108 (by kernel_rfl) rfl #[.slice A6 l6.length c6] (by rfl) rfl rfl (by (try simp only [List.map_toArray, List.map_cons, List.map_nil]); first | done | rfl) ?_
 refine (clone24 A6 c6 l6 _ (Kd.C_below HR6.out HB.out) hl6).mono ?_
 rintro e w19_0 ⟨v6, rfl, hR, hb⟩
 obtain ⟨B6, d6, rfl⟩ := Kd.R_slice hR
 refine ⟨_, rfl, ?_⟩
 have R6 := Aside0.mk (Kd.R_lower hR HB.out.size)
 have R0 := Aside0.mk (Kd.R_below R0.out hb)
 have R1 := Aside0.mk (Kd.R_below R1.out hb)
 have R2 := Aside0.mk (Kd.R_below R2.out hb)
 have R3 := Aside0.mk (Kd.R_below R3.out hb)
 have HG := Aside0.mk ((hb.block _ (blk_lt HG.out)).trans HG.out)
 have HZ := Aside0.mk ((hb.block _ (blk_lt HZ.out)).trans HZ.out)
 have HB := Aside0.mk (below_step HB.out hb)
 clear hR hb
 refine hK.out _ _ ⟨(blk_cell HG.out 6).trans rfl, (blk_cell HG.out 7).trans rfl, (blk_cell HG.out 8).trans rfl, (blk_cell HG.out 9).trans rfl⟩ (fun hHeld => ?_)
 clear hK K
 refine norm_ (by show Act.put _ (some 21) _ = _; simp only [Act.put, sA, sB, sC, i64_w, i32_w]; rfl) ?_
 refine pu HT_ 12 31 rfl rfl (by kernel_rfl) (fun _ _ _ h => h) (by rfl) (by intro w'; go_simp; with_reducible rfl) (by simp only [Act.put, sA, sB, sC, i64_w, i32_w]; rfl) ?_
 refine on1 HT_ 5 (some 24) rfl rfl (by kernel_rfl) (by decide) (fun K hK => ?_)
 refine goes_ Tryz.func108 (by kernel_rfl) rfl #[.slice A7 l7.length c7] (by rfl) rfl rfl (by (try simp only [List.map_toArray, List.map_cons, List.map_nil]); first | done | rfl) ?_
 refine (clone24 A7 c7 l7 _ (Kd.C_below HR7.out HB.out) hl7).mono ?_
 rintro e w19_1 ⟨v7, rfl, hR, hb⟩
 obtain ⟨B7, d7, rfl⟩ := Kd.R_slice hR
 refine ⟨_, rfl, ?_⟩
 have R7 := Aside0.mk (Kd.R_lower hR HB.out.size)
 have R0 := Aside0.mk (Kd.R_below R0.out hb)
 have R1 := Aside0.mk (Kd.R_below R1.out hb)
 have R2 := Aside0.mk (Kd.R_below R2.out hb)
 have R3 := Aside0.mk (Kd.R_below R3.out hb)
 have R6 := Aside0.mk (Kd.R_below R6.out hb)
 have HG := Aside0.mk ((hb.block _ (blk_lt HG.out)).trans HG.out)
 have HZ := Aside0.mk ((hb.block _ (blk_lt HZ.out)).trans HZ.out)
 have HB := Aside0.mk (below_step HB.out hb)
 clear hR hb
 refine hK.out _ _ ⟨(blk_cell HG.out 6).trans rfl, (blk_cell HG.out 7).trans rfl, (blk_cell HG.out 8).trans rfl, (blk_cell HG.out 9).trans rfl⟩ (fun hHeld => ?_)
 clear hK K
 refine norm_ (by show Act.put _ (some 24) _ = _; simp only [Act.put, sA, sB, sC, i64_w, i32_w]; rfl) ?_
 refine on1 HT_ 8 (some 27) rfl rfl (by kernel_rfl) (by decide) (fun K hK => ?_)
 refine goes_ Tryz.func108 (by kernel_rfl) rfl #[.slice A8 l8.length c8] (by rfl) rfl rfl (by (try simp only [List.map_toArray, List.map_cons, List.map_nil]); first | done | rfl) ?_
 refine (clone24 A8 c8 l8 _ (Kd.C_below HR8.out HB.out) hl8).mono ?_
 rintro e w19_2 ⟨v8, rfl, hR, hb⟩
 obtain ⟨B8, d8, rfl⟩ := Kd.R_slice hR
 refine ⟨_, rfl, ?_⟩
 have R8 := Aside0.mk (Kd.R_lower hR HB.out.size)
 have R0 := Aside0.mk (Kd.R_below R0.out hb)
 have R1 := Aside0.mk (Kd.R_below R1.out hb)
 have R2 := Aside0.mk (Kd.R_below R2.out hb)
 have R3 := Aside0.mk (Kd.R_below R3.out hb)
 have R6 := Aside0.mk (Kd.R_below R6.out hb)
 have R7 := Aside0.mk (Kd.R_below R7.out hb)
 have HG := Aside0.mk ((hb.block _ (blk_lt HG.out)).trans HG.out)
 have HZ := Aside0.mk ((hb.block _ (blk_lt HZ.out)).trans HZ.out)
 have HB := Aside0.mk (below_step HB.out hb)
 clear hR hb
 refine hK.out _ _ ⟨(blk_cell HG.out 6).trans rfl, (blk_cell HG.out 7).trans rfl, (blk_cell HG.out 8).trans rfl, (blk_cell HG.out 9).trans rfl⟩ (fun hHeld => ?_)
 clear hK K
 refine norm_ (by show Act.put _ (some 27) _ = _; simp only [Act.put, sA, sB, sC, i64_w, i32_w]; rfl) ?_
 refine on1 HT_ 11 (some 30) rfl rfl (by kernel_rfl) (by decide) (fun K hK => ?_)
 refine goes_ Tryz.func108 (by kernel_rfl) rfl #[.slice A9 l9.length c9] (by rfl) rfl rfl (by (try simp only [List.map_toArray, List.map_cons, List.map_nil]); first | done | rfl) ?_
 refine (clone24 A9 c9 l9 _ (Kd.C_below HR9.out HB.out) hl9).mono ?_
 rintro e w19_3 ⟨v9, rfl, hR, hb⟩
 obtain ⟨B9, d9, rfl⟩ := Kd.R_slice hR
 refine ⟨_, rfl, ?_⟩
 have R9 := Aside0.mk (Kd.R_lower hR HB.out.size)
 have R0 := Aside0.mk (Kd.R_below R0.out hb)
 have R1 := Aside0.mk (Kd.R_below R1.out hb)
 have R2 := Aside0.mk (Kd.R_below R2.out hb)
 have R3 := Aside0.mk (Kd.R_below R3.out hb)
 have R6 := Aside0.mk (Kd.R_below R6.out hb)
 have R7 := Aside0.mk (Kd.R_below R7.out hb)
 have R8 := Aside0.mk (Kd.R_below R8.out hb)
 have HG := Aside0.mk ((hb.block _ (blk_lt HG.out)).trans HG.out)
 have HZ := Aside0.mk ((hb.block _ (blk_lt HZ.out)).trans HZ.out)
 have HB := Aside0.mk (below_step HB.out hb)
 clear hR hb
 refine hK.out _ _ ⟨(blk_cell HG.out 6).trans rfl, (blk_cell HG.out 7).trans rfl, (blk_cell HG.out 8).trans rfl, (blk_cell HG.out 9).trans rfl⟩ (fun hHeld => ?_)
 clear hK K
 refine norm_ (by show Act.put _ (some 30) _ = _; simp only [Act.put, sA, sB, sC, i64_w, i32_w]; rfl) ?_
 have hcl : World.cell? _ ⟨w.heap.size, 6, none⟩ = some (.slice A6 l6.length c6) := (blk_cell HG.out 6).trans rfl
 have hfr := blk_frozen HG.out 6
 refine la1 HT_ 13 none rfl rfl (by kernel_rfl) (by decide) (fun K hK => ?_)
 refine skip_ (w1 := ?_) (by rfl) rfl ?_ ?_
 rotate_left
 · go_simp
   rfl
 have R0 := Aside0.mk (Kd.R_set R0.out HG.out (by decide) 6 (.slice B6 l6.length d6))
 have R1 := Aside0.mk (Kd.R_set R1.out HG.out (by decide) 6 (.slice B6 l6.length d6))
 have R2 := Aside0.mk (Kd.R_set R2.out HG.out (by decide) 6 (.slice B6 l6.length d6))
 have R3 := Aside0.mk (Kd.R_set R3.out HG.out (by decide) 6 (.slice B6 l6.length d6))
 have R6 := Aside0.mk (Kd.R_set R6.out HG.out (by decide) 6 (.slice B6 l6.length d6))
 have R7 := Aside0.mk (Kd.R_set R7.out HG.out (by decide) 6 (.slice B6 l6.length d6))
 have R8 := Aside0.mk (Kd.R_set R8.out HG.out (by decide) 6 (.slice B6 l6.length d6))
 have R9 := Aside0.mk (Kd.R_set R9.out HG.out (by decide) 6 (.slice B6 l6.length d6))
 have HZ := Aside0.mk ((heap_setCell_other _ ⟨w.heap.size, 6, none⟩ (w.heap.size + 1) (.slice B6 l6.length d6) (by show ¬ (w.heap.size + 1 = w.heap.size); omega)).trans HZ.out)
 have HB := Aside0.mk (below_set (g := w.heap.size) (j := 6) (v := (.slice B6 l6.length d6)) HB.out (Nat.le_refl _))
 have HG := Aside0.mk (blk_put (cs' := #[.slice B0 l0.length d0, .slice B1 l1.length d1, .slice B2 l2.length d2, .slice B3 l3.length d3, .int .i64 a4, .int .i64 a5, .slice B6 l6.length d6, .slice A7 l7.length c7, .slice A8 l8.length c8, .slice A9 l9.length c9]) HG.out 6 (.slice B6 l6.length d6) rfl)
 refine hK.out _ _ ?_
 clear hK K
 clear hcl hfr
 refine pu HT_ 14 32 rfl rfl (by kernel_rfl) (fun _ _ _ h => h) (by rfl) (by intro w'; go_simp; with_reducible rfl) (by simp only [Act.put, sA, sB, sC, i64_w, i32_w]; rfl) ?_
 have hcl : World.cell? _ ⟨w.heap.size, 7, none⟩ = some (.slice A7 l7.length c7) := (blk_cell HG.out 7).trans rfl
 have hfr := blk_frozen HG.out 7
 refine la1 HT_ 15 none rfl rfl (by kernel_rfl) (by decide) (fun K hK => ?_)
 refine skip_ (w1 := ?_) (by rfl) rfl ?_ ?_
 rotate_left
 · go_simp
   rfl
 have R0 := Aside0.mk (Kd.R_set R0.out HG.out (by decide) 7 (.slice B7 l7.length d7))
 have R1 := Aside0.mk (Kd.R_set R1.out HG.out (by decide) 7 (.slice B7 l7.length d7))
 have R2 := Aside0.mk (Kd.R_set R2.out HG.out (by decide) 7 (.slice B7 l7.length d7))
 have R3 := Aside0.mk (Kd.R_set R3.out HG.out (by decide) 7 (.slice B7 l7.length d7))
 have R6 := Aside0.mk (Kd.R_set R6.out HG.out (by decide) 7 (.slice B7 l7.length d7))
 have R7 := Aside0.mk (Kd.R_set R7.out HG.out (by decide) 7 (.slice B7 l7.length d7))
 have R8 := Aside0.mk (Kd.R_set R8.out HG.out (by decide) 7 (.slice B7 l7.length d7))
 have R9 := Aside0.mk (Kd.R_set R9.out HG.out (by decide) 7 (.slice B7 l7.length d7))
 have HZ := Aside0.mk ((heap_setCell_other _ ⟨w.heap.size, 7, none⟩ (w.heap.size + 1) (.slice B7 l7.length d7) (by show ¬ (w.heap.size + 1 = w.heap.size); omega)).trans HZ.out)
 have HB := Aside0.mk (below_set (g := w.heap.size) (j := 7) (v := (.slice B7 l7.length d7)) HB.out (Nat.le_refl _))
 have HG := Aside0.mk (blk_put (cs' := #[.slice B0 l0.length d0, .slice B1 l1.length d1, .slice B2 l2.length d2, .slice B3 l3.length d3, .int .i64 a4, .int .i64 a5, .slice B6 l6.length d6, .slice B7 l7.length d7, .slice A8 l8.length c8, .slice A9 l9.length c9]) HG.out 7 (.slice B7 l7.length d7) rfl)
 refine hK.out _ _ ?_
 clear hK K
 clear hcl hfr
 refine pu HT_ 16 33 rfl rfl (by kernel_rfl) (fun _ _ _ h => h) (by rfl) (by intro w'; go_simp; with_reducible rfl) (by simp only [Act.put, sA, sB, sC, i64_w, i32_w]; rfl) ?_
 have hcl : World.cell? _ ⟨w.heap.size, 8, none⟩ = some (.slice A8 l8.length c8) := (blk_cell HG.out 8).trans rfl
 have hfr := blk_frozen HG.out 8
 refine la1 HT_ 17 none rfl rfl (by kernel_rfl) (by decide) (fun K hK => ?_)
 refine skip_ (w1 := ?_) (by rfl) rfl ?_ ?_
 rotate_left
 · go_simp
   rfl
 have R0 := Aside0.mk (Kd.R_set R0.out HG.out (by decide) 8 (.slice B8 l8.length d8))
 have R1 := Aside0.mk (Kd.R_set R1.out HG.out (by decide) 8 (.slice B8 l8.length d8))
 have R2 := Aside0.mk (Kd.R_set R2.out HG.out (by decide) 8 (.slice B8 l8.length d8))
 have R3 := Aside0.mk (Kd.R_set R3.out HG.out (by decide) 8 (.slice B8 l8.length d8))
 have R6 := Aside0.mk (Kd.R_set R6.out HG.out (by decide) 8 (.slice B8 l8.length d8))
 have R7 := Aside0.mk (Kd.R_set R7.out HG.out (by decide) 8 (.slice B8 l8.length d8))
 have R8 := Aside0.mk (Kd.R_set R8.out HG.out (by decide) 8 (.slice B8 l8.length d8))
 have R9 := Aside0.mk (Kd.R_set R9.out HG.out (by decide) 8 (.slice B8 l8.length d8))
 have HZ := Aside0.mk ((heap_setCell_other _ ⟨w.heap.size, 8, none⟩ (w.heap.size + 1) (.slice B8 l8.length d8) (by show ¬ (w.heap.size + 1 = w.heap.size); omega)).trans HZ.out)
 have HB := Aside0.mk (below_set (g := w.heap.size) (j := 8) (v := (.slice B8 l8.length d8)) HB.out (Nat.le_refl _))
 have HG := Aside0.mk (blk_put (cs' := #[.slice B0 l0.length d0, .slice B1 l1.length d1, .slice B2 l2.length d2, .slice B3 l3.length d3, .int .i64 a4, .int .i64 a5, .slice B6 l6.length d6, .slice B7 l7.length d7, .slice B8 l8.length d8, .slice A9 l9.length c9]) HG.out 8 (.slice B8 l8.length d8) rfl)
 refine hK.out _ _ ?_
 clear hK K
 clear hcl hfr
 refine pu HT_ 18 34 rfl rfl (by kernel_rfl) (fun _ _ _ h => h) (by rfl) (by intro w'; go_simp; with_reducible rfl) (by simp only [Act.put, sA, sB, sC, i64_w, i32_w]; rfl) ?_
 have hcl : World.cell? _ ⟨w.heap.size, 9, none⟩ = some (.slice A9 l9.length c9) := (blk_cell HG.out 9).trans rfl
 have hfr := blk_frozen HG.out 9
 refine la1 HT_ 19 none rfl rfl (by kernel_rfl) (by decide) (fun K hK => ?_)
 refine skip_ (w1 := ?_) (by rfl) rfl ?_ ?_
 rotate_left
 · go_simp
   rfl
 have R0 := Aside0.mk (Kd.R_set R0.out HG.out (by decide) 9 (.slice B9 l9.length d9))
 have R1 := Aside0.mk (Kd.R_set R1.out HG.out (by decide) 9 (.slice B9 l9.length d9))
 have R2 := Aside0.mk (Kd.R_set R2.out HG.out (by decide) 9 (.slice B9 l9.length d9))
 have R3 := Aside0.mk (Kd.R_set R3.out HG.out (by decide) 9 (.slice B9 l9.length d9))
 have R6 := Aside0.mk (Kd.R_set R6.out HG.out (by decide) 9 (.slice B9 l9.length d9))
 have R7 := Aside0.mk (Kd.R_set R7.out HG.out (by decide) 9 (.slice B9 l9.length d9))
 have R8 := Aside0.mk (Kd.R_set R8.out HG.out (by decide) 9 (.slice B9 l9.length d9))
 have R9 := Aside0.mk (Kd.R_set R9.out HG.out (by decide) 9 (.slice B9 l9.length d9))
 have HZ := Aside0.mk ((heap_setCell_other _ ⟨w.heap.size, 9, none⟩ (w.heap.size + 1) (.slice B9 l9.length d9) (by show ¬ (w.heap.size + 1 = w.heap.size); omega)).trans HZ.out)
 have HB := Aside0.mk (below_set (g := w.heap.size) (j := 9) (v := (.slice B9 l9.length d9)) HB.out (Nat.le_refl _))
 have HG := Aside0.mk (blk_put (cs' := #[.slice B0 l0.length d0, .slice B1 l1.length d1, .slice B2 l2.length d2, .slice B3 l3.length d3, .int .i64 a4, .int .i64 a5, .slice B6 l6.length d6, .slice B7 l7.length d7, .slice B8 l8.length d8, .slice B9 l9.length d9]) HG.out 9 (.slice B9 l9.length d9) rfl)
 refine hK.out _ _ ?_
 clear hK K
 clear hcl hfr
 refine done_ (done_of HT_.out (by kernel_rfl)) ?_
 go_upto_region 3 with (fail)
 generalize hw5 : World.setCell _ _ _ = w5 at HB HG HZ R0 R1 R2 R3 R6 R7 R8 R9 ⊢
 clear hw5
 go_wp2_with (first | (refine wpList_load_row rfl 26 _ rfl w.heap.size rfl 26 #[.slice B0 l0.length d0, .slice B1 l1.length d1, .slice B2 l2.length d2, .slice B3 l3.length d3, .int .i64 a4, .int .i64 a5, .slice B6 l6.length d6, .slice B7 l7.length d7, .slice B8 l8.length d8, .slice B9 l9.length d9] (0, 0) _ HG.out Tryz.underlying26 rfl (by kernel_rfl) ?_) | (refine wpList_store_row rfl 26 _ _ rfl (w.heap.size + 1) #[.slice B0 l0.length d0, .slice B1 l1.length d1, .slice B2 l2.length d2, .slice B3 l3.length d3, .int .i64 a4, .int .i64 a5, .slice B6 l6.length d6, .slice B7 l7.length d7, .slice B8 l8.length d8, .slice B9 l9.length d9] rfl rfl 26 Z26 HZ.out (by kernel_rfl) rfl (by kernel_rfl) ?_))
 refine bodyPost_ret (results_cell_row rfl _ _ (w.heap.size + 1) 26 #[.slice B0 l0.length d0, .slice B1 l1.length d1, .slice B2 l2.length d2, .slice B3 l3.length d3, .int .i64 a4, .int .i64 a5, .slice B6 l6.length d6, .slice B7 l7.length d7, .slice B8 l8.length d8, .slice B9 l9.length d9] (0, 0) _ rfl (setRow_heap _ _ _ _ _ _ HZ.out) Tryz.underlying26 rfl (by kernel_rfl)) rfl ⟨(.slice B0 l0.length d0), (.slice B1 l1.length d1), (.slice B2 l2.length d2), (.slice B3 l3.length d3), (.slice B6 l6.length d6), (.slice B7 l7.length d7), (.slice B8 l8.length d8), (.slice B9 l9.length d9), rfl, Kd.R_step (Kd.R_types R0.out HZ.out (by decide)) (fun k hk _ => setRow_other _ _ _ _ hk.2) |> fun h => Kd.R_mono h (fun _ _ => trivial), Kd.R_step (Kd.R_types R1.out HZ.out (by decide)) (fun k hk _ => setRow_other _ _ _ _ hk.2) |> fun h => Kd.R_mono h (fun _ _ => trivial), Kd.R_step (Kd.R_types R2.out HZ.out (by decide)) (fun k hk _ => setRow_other _ _ _ _ hk.2) |> fun h => Kd.R_mono h (fun _ _ => trivial), Kd.R_step (Kd.R_types R3.out HZ.out (by decide)) (fun k hk _ => setRow_other _ _ _ _ hk.2) |> fun h => Kd.R_mono h (fun _ _ => trivial), Kd.R_step (Kd.R_types R6.out HZ.out (by decide)) (fun k hk _ => setRow_other _ _ _ _ hk.2) |> fun h => Kd.R_mono h (fun _ _ => trivial), Kd.R_step (Kd.R_types R7.out HZ.out (by decide)) (fun k hk _ => setRow_other _ _ _ _ hk.2) |> fun h => Kd.R_mono h (fun _ _ => trivial), Kd.R_step (Kd.R_types R8.out HZ.out (by decide)) (fun k hk _ => setRow_other _ _ _ _ hk.2) |> fun h => Kd.R_mono h (fun _ _ => trivial), Kd.R_step (Kd.R_types R9.out HZ.out (by decide)) (fun k hk _ => setRow_other _ _ _ _ hk.2) |> fun h => Kd.R_mono h (fun _ _ => trivial), setRow_below' HB.out _ _ (by omega)⟩

set_option maxHeartbeats 1000000 in
set_option maxRecDepth 100000 in
theorem op_one (g : Nat) (cs : Array Value) (op : Nat) (F : FuncId) (w : World) (hop : op < 23) (hb : w.heap[g]? = some (.cells cs 109 (0, 0))) (hs : cs.size = 23) :
 Calls Tryz.prog 109 #[.int .i64 (op : Int), .func (.func F) #[] #[], .pointer (some ⟨g, 0, none⟩)] w fun e w' => e = .returned (.tuple #[]) ∧ ∃ b, w.heap.size ≤ b ∧ w'.heap[g]? = some (.cells (cs.setIfInBounds op (.func (.func 110) #[] #[.pointer (some ⟨b, 0, none⟩)])) 109 (0, 0)) ∧
  w'.heap[b]? = some (.cells #[.func (.func F) #[] #[]] 197 (0, 0)) ∧ Chg (fun k => k = g) w w' := by
 have hmf : ∀ (fn : Fn) (first cap : Array Value) (w : World), (Instr.makeFunc fn first cap).run Tryz.prog w = .ok (.func fn first cap) w := fun _ _ _ _ => rfl
 have hlt := lt_of_block hb
 have hc : ∀ o, (w.alloc o).cell? ⟨g, op, none⟩ = some (cs.getD op .nilFunc) := fun o => by
  rw [cell_of_row _ g op _ _ _ (blk_alloc hb o)]
  simp [hs, hop]
 have hf : ∀ o, (w.alloc o).frozen? ⟨g, op, none⟩ = false := fun o => blk_frozen (blk_alloc hb o) op
 go_enter Tryz.func109, Tryz.ntmps109
 go_wp2
 go_end0
 have hz : (w.setCell ⟨g, op, none⟩ (.func (.func 110) #[] #[.pointer (some ⟨w.heap.size, 0, none⟩)])).heap.size = w.heap.size := by simp
 have hn := blk_new (w.setCell ⟨g, op, none⟩ (.func (.func 110) #[] #[.pointer (some ⟨w.heap.size, 0, none⟩)])) (Obj.cells #[.func (.func F) #[] #[]] 197)
 rw [hz] at hn
 exact ⟨rfl, w.heap.size, Nat.le_refl _, blk_alloc (heap_setCell_same w g op cs 109 _ hb) _, hn, (Chg.setCell (S := fun k => k = g) (p := ⟨g, op, none⟩) (Chg.refl _ w) (.inl rfl) _).alloc _⟩
set_option maxHeartbeats 1000000 in
set_option maxRecDepth 100000 in
theorem op_two (g : Nat) (cs : Array Value) (op : Nat) (F : FuncId) (w : World) (hop : op < 23) (hb : w.heap[g]? = some (.cells cs 109 (0, 0))) (hs : cs.size = 23) :
 Calls Tryz.prog 111 #[.int .i64 (op : Int), .func (.func F) #[] #[], .pointer (some ⟨g, 0, none⟩)] w fun e w' => e = .returned (.tuple #[]) ∧ ∃ b, w.heap.size ≤ b ∧ w'.heap[g]? = some (.cells (cs.setIfInBounds op (.func (.func 112) #[] #[.pointer (some ⟨b, 0, none⟩)])) 109 (0, 0)) ∧
  w'.heap[b]? = some (.cells #[.func (.func F) #[] #[]] 130 (0, 0)) ∧ Chg (fun k => k = g) w w' := by
 have hmf : ∀ (fn : Fn) (first cap : Array Value) (w : World), (Instr.makeFunc fn first cap).run Tryz.prog w = .ok (.func fn first cap) w := fun _ _ _ _ => rfl
 have hlt := lt_of_block hb
 have hc : ∀ o, (w.alloc o).cell? ⟨g, op, none⟩ = some (cs.getD op .nilFunc) := fun o => by
  rw [cell_of_row _ g op _ _ _ (blk_alloc hb o)]
  simp [hs, hop]
 have hf : ∀ o, (w.alloc o).frozen? ⟨g, op, none⟩ = false := fun o => blk_frozen (blk_alloc hb o) op
 go_enter Tryz.func111, Tryz.ntmps111
 go_wp2
 go_end0
 have hz : (w.setCell ⟨g, op, none⟩ (.func (.func 112) #[] #[.pointer (some ⟨w.heap.size, 0, none⟩)])).heap.size = w.heap.size := by simp
 have hn := blk_new (w.setCell ⟨g, op, none⟩ (.func (.func 112) #[] #[.pointer (some ⟨w.heap.size, 0, none⟩)])) (Obj.cells #[.func (.func F) #[] #[]] 130)
 rw [hz] at hn
 exact ⟨rfl, w.heap.size, Nat.le_refl _, blk_alloc (heap_setCell_same w g op cs 109 _ hb) _, hn, (Chg.setCell (S := fun k => k = g) (p := ⟨g, op, none⟩) (Chg.refl _ w) (.inl rfl) _).alloc _⟩
set_option maxHeartbeats 1000000 in
set_option maxRecDepth 100000 in
theorem op_is (g : Nat) (cs : Array Value) (op : Nat) (F : FuncId) (w : World) (hop : op < 23) (hb : w.heap[g]? = some (.cells cs 109 (0, 0))) (hs : cs.size = 23) :
 Calls Tryz.prog 113 #[.int .i64 (op : Int), .func (.func F) #[] #[], .pointer (some ⟨g, 0, none⟩)] w fun e w' => e = .returned (.tuple #[]) ∧ ∃ b, w.heap.size ≤ b ∧ w'.heap[g]? = some (.cells (cs.setIfInBounds op (.func (.func 114) #[] #[.pointer (some ⟨b, 0, none⟩)])) 109 (0, 0)) ∧
  w'.heap[b]? = some (.cells #[.func (.func F) #[] #[]] 200 (0, 0)) ∧ Chg (fun k => k = g) w w' := by
 have hmf : ∀ (fn : Fn) (first cap : Array Value) (w : World), (Instr.makeFunc fn first cap).run Tryz.prog w = .ok (.func fn first cap) w := fun _ _ _ _ => rfl
 have hlt := lt_of_block hb
 have hc : ∀ o, (w.alloc o).cell? ⟨g, op, none⟩ = some (cs.getD op .nilFunc) := fun o => by
  rw [cell_of_row _ g op _ _ _ (blk_alloc hb o)]
  simp [hs, hop]
 have hf : ∀ o, (w.alloc o).frozen? ⟨g, op, none⟩ = false := fun o => blk_frozen (blk_alloc hb o) op
 go_enter Tryz.func113, Tryz.ntmps113
 go_wp2
 go_end0
 have hz : (w.setCell ⟨g, op, none⟩ (.func (.func 114) #[] #[.pointer (some ⟨w.heap.size, 0, none⟩)])).heap.size = w.heap.size := by simp
 have hn := blk_new (w.setCell ⟨g, op, none⟩ (.func (.func 114) #[] #[.pointer (some ⟨w.heap.size, 0, none⟩)])) (Obj.cells #[.func (.func F) #[] #[]] 200)
 rw [hz] at hn
 exact ⟨rfl, w.heap.size, Nat.le_refl _, blk_alloc (heap_setCell_same w g op cs 109 _ hb) _, hn, (Chg.setCell (S := fun k => k = g) (p := ⟨g, op, none⟩) (Chg.refl _ w) (.inl rfl) _).alloc _⟩
/-- Which closure stands at an operator's place, and what it holds. -/
def opOuter (op : Nat) : FuncId := if op = 6 ∨ op = 8 then 110 else if op = 9 ∨ op = 10 ∨ op = 11 ∨ op = 12 then 112 else 114
def opType (op : Nat) : Nat := if op = 6 ∨ op = 8 then 197 else if op = 9 ∨ op = 10 ∨ op = 11 ∨ op = 12 then 130 else 200
def opInner (op : Nat) : FuncId := if op = 6 then 116 else if op = 8 then 117 else if op = 9 then 78 else if op = 10 then 118 else if op = 11 then 119 else if op = 12 then 120 else if op = 7 then 121 else if op = 13 then 122 else if op = 14 then 123 else if op = 15 then 124 else if op = 16 then 125 else 126
/-- One place of the table, in a world: the closure's box is no elder block. -/
def OpAt (n : Nat) (w : World) (cs : Array Value) (op : Nat) : Prop := ∃ b, n ≤ b ∧ cs[op]? = some (.func (.func (opOuter op)) #[] #[.pointer (some ⟨b, 0, none⟩)]) ∧ w.heap[b]? = some (.cells #[.func (.func (opInner op)) #[] #[]] (opType op) (0, 0))
theorem OpAt.chg {n : Nat} {w w' : World} {cs : Array Value} {op g i : Nat} {v : Value} (h : OpAt n w cs op) (hc : Chg (fun k => k = g) w w') (hg : g < n) (hi : i ≠ op) : OpAt n w' (cs.setIfInBounds i v) op := by
 obtain ⟨b, h1, h2, h3⟩ := h
 exact ⟨b, h1, by rw [Array.getElem?_setIfInBounds_ne hi]; exact h2, (hc.block b (lt_of_block h3) (fun e => by omega)).trans h3⟩
theorem OpAt.mk {n : Nat} {w' : World} {cs : Array Value} {op b : Nat} (hn : n ≤ b) (hs : op < cs.size) (hb : w'.heap[b]? = some (.cells #[.func (.func (opInner op)) #[] #[]] (opType op) (0, 0))) : OpAt n w' (cs.setIfInBounds op (.func (.func (opOuter op)) #[] #[.pointer (some ⟨b, 0, none⟩)])) op :=
 ⟨b, hn, by rw [Array.getElem?_setIfInBounds_self_of_lt hs], hb⟩
/-- The table so far: an array's block g, of n elder blocks; the places of l stand. -/
structure OpTab (n g : Nat) (w0 : World) (l : List Nat) (cs : Array Value) (w : World) : Prop where
 blk : w.heap[g]? = some (.cells cs 109 (0, 0))
 sz : cs.size = 23
 lt : g < n
 le : n ≤ w.heap.size
 bel : Chg (fun k => k = g) w0 w
 ops : ∀ op, op ∈ l → OpAt n w cs op
 one : ∀ (i : Nat) (v : Value), cs[i]? = some v → v.oneCell' = true
theorem one_set {cs : Array Value} {op : Nat} {u : Value} (h : ∀ (i : Nat) (v : Value), cs[i]? = some v → v.oneCell' = true) (hu : u.oneCell' = true) : ∀ (i : Nat) (v : Value), (cs.setIfInBounds op u)[i]? = some v → v.oneCell' = true := fun i v hv => by
 by_cases e : op = i
 · subst e
   rcases Nat.lt_or_ge op cs.size with hl | hl
   · rw [Array.getElem?_setIfInBounds_self_of_lt hl] at hv
     injection hv with hv
     rw [← hv]
     exact hu
   · rw [Array.getElem?_eq_none (by rw [Array.size_setIfInBounds]; exact hl)] at hv
     cases hv
 · rw [Array.getElem?_setIfInBounds_ne e] at hv
   exact h i v hv
theorem OpTab.step {n g : Nat} {w0 w w' : World} {l : List Nat} {cs : Array Value} (h : OpTab n g w0 l cs w) (op b : Nat) (hop : op < 23) (hnl : op ∉ l) (hb : w.heap.size ≤ b) (h1 : w'.heap[g]? = some (.cells (cs.setIfInBounds op (.func (.func (opOuter op)) #[] #[.pointer (some ⟨b, 0, none⟩)])) 109 (0, 0)))
 (h2 : w'.heap[b]? = some (.cells #[.func (.func (opInner op)) #[] #[]] (opType op) (0, 0))) (h3 : Chg (fun k => k = g) w w') : OpTab n g w0 (op :: l) (cs.setIfInBounds op (.func (.func (opOuter op)) #[] #[.pointer (some ⟨b, 0, none⟩)])) w' := by
 refine ⟨h1, by rw [Array.size_setIfInBounds]; exact h.sz, h.lt, Nat.le_trans h.le h3.size, h.bel.then_ h3 (fun _ hi => .inl hi), fun o ho => ?_, one_set h.one rfl⟩
 rcases List.mem_cons.1 ho with rfl | ho
 · exact OpAt.mk (Nat.le_trans h.le hb) (by rw [h.sz]; exact hop) h2
 · exact (h.ops o ho).chg h3 h.lt (fun e => hnl (e ▸ ho))
theorem setRow_below {B : Nat} {w W : World} (h : Below B w W) (g : Nat) (cs : Array Value) (hg : B ≤ g) : Below B w (W.setRow g cs) :=
 ⟨h.os, h.tape, h.output, by simpa [World.setRow] using h.size, fun i hi => by
  rw [← h.block i hi]
  simp [World.setRow, Array.getElem?_modify, show ¬ g = i by omega]⟩
def Z23 : Array Value := #[.nilFunc, .nilFunc, .nilFunc, .nilFunc, .nilFunc, .nilFunc, .nilFunc, .nilFunc, .nilFunc, .nilFunc, .nilFunc, .nilFunc, .nilFunc, .nilFunc, .nilFunc, .nilFunc, .nilFunc, .nilFunc, .nilFunc, .nilFunc, .nilFunc, .nilFunc, .nilFunc]
set_option maxHeartbeats 8000000 in
set_option maxRecDepth 100000 in
theorem operators_any (w : World) : Calls Tryz.prog 65 #[] w fun e w' => ∃ cs, e = .returned (.agg cs) ∧ cs.size = 23 ∧ Below w.heap.size w w' ∧ (∀ op, op ∈ [17, 16, 15, 14, 13, 7, 12, 11, 10, 9, 8, 6] → OpAt w.heap.size w' cs op) ∧ cs[18]? = some (.func (.func 127) #[] #[]) := by
 have hmf : ∀ (fn : Fn) (first cap : Array Value) (w : World), (Instr.makeFunc fn first cap).run Tryz.prog w = .ok (.func fn first cap) w := fun _ _ _ _ => rfl
 go_enter Tryz.func65, Tryz.ntmps65
 go_wp2_with (fail)
 obtain ⟨w1, hw1⟩ : ∃ z, ((w.alloc (Obj.cells Z23 109)).alloc (Obj.cells Z23 109)) = z := ⟨_, rfl⟩
 have T0 : OpTab (w.heap.size + 2) (w.heap.size + 1) w1 [] Z23 w1 := by
  subst hw1
  refine ⟨?_, rfl, by omega, by simp, Chg.refl _ _, fun _ h => absurd h (by simp), fun i v hv => ?_⟩
  · have := blk_new (w.alloc (Obj.cells Z23 109)) (Obj.cells Z23 109)
    simpa using this
  · have hall : Z23.toList.all (fun v => v.oneCell') = true := rfl
    exact List.all_eq_true.1 hall v (by have h1 := Array.mem_of_getElem? hv; exact Array.mem_def.1 h1 |> fun h => h)
 have HB0 := Aside0.mk (show Below w.heap.size w w1 by rw [← hw1]; exact ((Below.refl _ _).alloc (Nat.le_refl _) _).alloc (by simp) _)
 have HA0 := Aside0.mk (show w1.heap[w.heap.size]? = some (.cells Z23 109 (0, 0)) by rw [← hw1]; exact blk_alloc (blk_new w _) _)
 have HT := Aside0.mk T0
 clear T0
 unfold Z23 at hw1
 rw [hw1]
 clear hw1
 refine (op_one (w.heap.size + 1) _ 6 116 _ (by decide) HT.out.blk HT.out.sz).mono ?_
 rintro e w_6 ⟨rfl, b_6, hb1, hb2, hb3, hb4⟩
 have H_6 := Aside0.mk (HT.out.step 6 b_6 (by decide) (by decide) hb1 hb2 hb3 hb4)
 clear hb1 hb2 hb3 hb4 HT

 go_wp2_with (fail)
 refine (op_one (w.heap.size + 1) _ 8 117 _ (by decide) H_6.out.blk H_6.out.sz).mono ?_
 rintro e w_8 ⟨rfl, b_8, hb1, hb2, hb3, hb4⟩
 have H_8 := Aside0.mk (H_6.out.step 8 b_8 (by decide) (by decide) hb1 hb2 hb3 hb4)
 clear hb1 hb2 hb3 hb4 H_6

 go_wp2_with (fail)
 refine (op_two (w.heap.size + 1) _ 9 78 _ (by decide) H_8.out.blk H_8.out.sz).mono ?_
 rintro e w_9 ⟨rfl, b_9, hb1, hb2, hb3, hb4⟩
 have H_9 := Aside0.mk (H_8.out.step 9 b_9 (by decide) (by decide) hb1 hb2 hb3 hb4)
 clear hb1 hb2 hb3 hb4 H_8

 go_wp2_with (fail)
 refine (op_two (w.heap.size + 1) _ 10 118 _ (by decide) H_9.out.blk H_9.out.sz).mono ?_
 rintro e w_10 ⟨rfl, b_10, hb1, hb2, hb3, hb4⟩
 have H_10 := Aside0.mk (H_9.out.step 10 b_10 (by decide) (by decide) hb1 hb2 hb3 hb4)
 clear hb1 hb2 hb3 hb4 H_9

 go_wp2_with (fail)
 refine (op_two (w.heap.size + 1) _ 11 119 _ (by decide) H_10.out.blk H_10.out.sz).mono ?_
 rintro e w_11 ⟨rfl, b_11, hb1, hb2, hb3, hb4⟩
 have H_11 := Aside0.mk (H_10.out.step 11 b_11 (by decide) (by decide) hb1 hb2 hb3 hb4)
 clear hb1 hb2 hb3 hb4 H_10

 go_wp2_with (fail)
 refine (op_two (w.heap.size + 1) _ 12 120 _ (by decide) H_11.out.blk H_11.out.sz).mono ?_
 rintro e w_12 ⟨rfl, b_12, hb1, hb2, hb3, hb4⟩
 have H_12 := Aside0.mk (H_11.out.step 12 b_12 (by decide) (by decide) hb1 hb2 hb3 hb4)
 clear hb1 hb2 hb3 hb4 H_11

 go_wp2_with (fail)
 refine (op_is (w.heap.size + 1) _ 7 121 _ (by decide) H_12.out.blk H_12.out.sz).mono ?_
 rintro e w_7 ⟨rfl, b_7, hb1, hb2, hb3, hb4⟩
 have H_7 := Aside0.mk (H_12.out.step 7 b_7 (by decide) (by decide) hb1 hb2 hb3 hb4)
 clear hb1 hb2 hb3 hb4 H_12

 go_wp2_with (fail)
 refine (op_is (w.heap.size + 1) _ 13 122 _ (by decide) H_7.out.blk H_7.out.sz).mono ?_
 rintro e w_13 ⟨rfl, b_13, hb1, hb2, hb3, hb4⟩
 have H_13 := Aside0.mk (H_7.out.step 13 b_13 (by decide) (by decide) hb1 hb2 hb3 hb4)
 clear hb1 hb2 hb3 hb4 H_7

 go_wp2_with (fail)
 refine (op_is (w.heap.size + 1) _ 14 123 _ (by decide) H_13.out.blk H_13.out.sz).mono ?_
 rintro e w_14 ⟨rfl, b_14, hb1, hb2, hb3, hb4⟩
 have H_14 := Aside0.mk (H_13.out.step 14 b_14 (by decide) (by decide) hb1 hb2 hb3 hb4)
 clear hb1 hb2 hb3 hb4 H_13

 go_wp2_with (fail)
 refine (op_is (w.heap.size + 1) _ 15 124 _ (by decide) H_14.out.blk H_14.out.sz).mono ?_
 rintro e w_15 ⟨rfl, b_15, hb1, hb2, hb3, hb4⟩
 have H_15 := Aside0.mk (H_14.out.step 15 b_15 (by decide) (by decide) hb1 hb2 hb3 hb4)
 clear hb1 hb2 hb3 hb4 H_14

 go_wp2_with (fail)
 refine (op_is (w.heap.size + 1) _ 16 125 _ (by decide) H_15.out.blk H_15.out.sz).mono ?_
 rintro e w_16 ⟨rfl, b_16, hb1, hb2, hb3, hb4⟩
 have H_16 := Aside0.mk (H_15.out.step 16 b_16 (by decide) (by decide) hb1 hb2 hb3 hb4)
 clear hb1 hb2 hb3 hb4 H_15

 go_wp2_with (fail)
 refine (op_is (w.heap.size + 1) _ 17 126 _ (by decide) H_16.out.blk H_16.out.sz).mono ?_
 rintro e w_17 ⟨rfl, b_17, hb1, hb2, hb3, hb4⟩
 have H_17 := Aside0.mk (H_16.out.step 17 b_17 (by decide) (by decide) hb1 hb2 hb3 hb4)
 clear hb1 hb2 hb3 hb4 H_16

 have T := H_17.out
 obtain ⟨v18, k18⟩ : ∃ v, w_17.cell? ⟨w.heap.size + 1, 18, none⟩ = some v := ⟨_, (cell_of_row _ (w.heap.size + 1) 18 _ _ _ T.blk).trans (Array.getElem?_eq_getElem (by rw [T.sz]; decide))⟩
 have f18 : w_17.frozen? ⟨w.heap.size + 1, 18, none⟩ = false := blk_frozen T.blk 18
 have HT := Aside0.mk T
 clear T H_17
 go_upto_region 18 with (fail)
 generalize hcs : Array.setIfInBounds _ 17 _ = cs at HT
 clear hcs
 obtain ⟨w18, hw18⟩ : ∃ z, (w_17.setCell ⟨w.heap.size + 1, 18, none⟩ (.func (.func 127) #[] #[])) = z := ⟨_, rfl⟩
 have HC := Aside0.mk (show Chg (fun k => k = w.heap.size + 1) w_17 w18 by rw [← hw18]; exact Chg.setCell (S := fun k => k = w.heap.size + 1) (p := ⟨w.heap.size + 1, 18, none⟩) (Chg.refl _ _) (.inl rfl) _)
 have H18 := Aside0.mk (show w18.heap[w.heap.size + 1]? = some (.cells (cs.setIfInBounds 18 (.func (.func 127) #[] #[])) 109 (0, 0)) by rw [← hw18]; exact heap_setCell_same w_17 _ 18 cs 109 _ HT.out.blk)
 rw [hw18]
 clear hw18 k18 f18
 have hA : w18.heap[w.heap.size]? = some (.cells Z23 109 (0, 0)) := by
  have h1 := (HT.out.bel.block w.heap.size (lt_of_block HA0.out) (by omega)).trans HA0.out
  exact (HC.out.block w.heap.size (lt_of_block h1) (by omega)).trans h1
 have HA := Aside0.mk hA
 clear hA HA0
 have hsz : (cs.setIfInBounds 18 (.func (.func 127) #[] #[])).size = 23 := by rw [Array.size_setIfInBounds]; exact HT.out.sz
 have hone := one_set (op := 18) (u := .func (.func 127) #[] #[]) HT.out.one rfl
 have hops : ∀ op, op ∈ [17, 16, 15, 14, 13, 7, 12, 11, 10, 9, 8, 6] → OpAt (w.heap.size + 2) w18 (cs.setIfInBounds 18 (.func (.func 127) #[] #[])) op := fun op ho => (HT.out.ops op ho).chg HC.out (by omega) (by rintro rfl; simp at ho)
 have h127 : (cs.setIfInBounds 18 (.func (.func 127) #[] #[]))[18]? = some (.func (.func 127) #[] #[]) := Array.getElem?_setIfInBounds_self_of_lt (by rw [HT.out.sz]; decide)
 generalize cs.setIfInBounds 18 (.func (.func 127) #[] #[]) = cF at H18 hsz hone hops h127
 have HF := Aside0.mk (And.intro hsz (And.intro hone (And.intro hops h127)))
 have hall : cF.all (fun v => v.oneCell') = true := Array.all_eq_true'.2 (fun v hv => by obtain ⟨i, hi⟩ := Array.mem_iff_getElem?.1 hv; exact hone i v hi)
 have HL := Aside0.mk hall
 have HB := Aside0.mk (show Below w.heap.size w w18 from HC.out.to_below (by have := HT.out.le; omega) (fun k hk => by omega) (HT.out.bel.to_below (n := w.heap.size) (by have := HB0.out.size; omega) (fun k hk => by omega) HB0.out))
 clear hsz hone hops h127 hall HT HC HB0
 go_wp2_with (first | (refine wpList_load_row rfl 109 _ rfl (w.heap.size + 1) rfl 109 cF (0, 0) _ H18.out Tryz.underlying109 rfl (by rw [HF.out.1]; kernel_rfl) ?_) | (refine wpList_store_row rfl 109 _ _ rfl w.heap.size cF rfl rfl 109 Z23 HA.out (by rw [HF.out.1]; kernel_rfl) (by rw [HF.out.1]; rfl) HL.out ?_))
 refine bodyPost_ret (results_cell_row rfl _ _ w.heap.size 109 cF (0, 0) _ rfl (setRow_heap _ _ _ _ _ _ HA.out) Tryz.underlying109 rfl (by rw [HF.out.1]; kernel_rfl)) rfl ⟨_, rfl, HF.out.1, setRow_below HB.out _ _ (Nat.le_refl _), fun op ho => ?_, HF.out.2.2.2⟩
 obtain ⟨b, hb1, hb2, hb3⟩ := HF.out.2.2.1 op ho
 exact ⟨b, by omega, hb2, (setRow_other w18 w.heap.size b _ (by omega)).trans hb3⟩
end Go.Proofs.YtgalkkolbobmbaaGreat.V
