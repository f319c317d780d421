/- astrolabelaw19.alive: true (the kernel has walked it). -/
import Derived.Test.YtgalkkolbobmbaaGreatM19C
import Derived.Below
import Derived.Test.YtgalkkolbobmbaaGreatVObj

namespace Go.Proofs.YtgalkkolbobmbaaGreat.Q
open Go Go.RowKit
def astrolabelaw19_alive.f : Option Bool := some true
theorem astrolabelaw19_alive.calls (r : Bool) (w : World) (h : astrolabelaw19_alive.f = some r) : Calls Tryz.prog 32 #[] w fun e w' => e = .returned (.bool r) ∧ Below w.heap.size w w' := by
 obtain rfl : true = r := Option.some.inj h
 refine ((Abs.m19a_good w.heap.size).calls (fun _ => none) (fun _ => none) w [] (fun b x hx => by cases hx) (fun _ _ _ => ⟨rfl, rfl⟩) ⟨fun _ _ hx => (by cases hx), fun _ _ _ _ _ _ hx => absurd rfl hx, fun _ _ _ hx => (by cases hx), Nat.le_refl _⟩ trivial).mono fun e w' ⟨v, σ', e1, _, _, hb, _, _, hv⟩ => ?_
 have hv' : v = .bool true ∧ _ := hv
 exact ⟨by rw [e1, hv'.1], hb⟩
end Go.Proofs.YtgalkkolbobmbaaGreat.Q

/- The law HeunTwice: the walk. -/
namespace Go.Proofs.YtgalkkolbobmbaaGreat.V
open Go.RowKit Go.Proofs.YtgalkkolbobmbaaGreatW.PrintWords Go.Proofs.YtgalkkolbobmbaaGreatW.PrintLast Go.Proofs.YtgalkkolbobmbaaGreatW.PrintMore
set_option linter.unusedVariables false
set_option linter.unusedSimpArgs false
def tw_T : Bool × List (List Nat × List Nat) := (true, [([], []), ([0], [0]), ([], []), ([2], [2]), ([3], [3]), ([4], [4]), ([1, 5], [1, 5])])
def tw_B : List Nat := [0, 1, 0, 4, 12, 28, 63]
theorem tw_tab : rtab .any (opsOf Tryz.f5 12) = tw_T := by kernel_rfl
theorem tw_bits : waitsOk tw_T.2 tw_B = true := by kernel_rfl
set_option maxHeartbeats 4000000 in
set_option maxRecDepth 100000 in
theorem heunTwice_calls (o : S26) (A0 A1 A2 A3 A6 A7 A8 A9 : Option Addr) (c0 c1 c2 c3 c6 c7 c8 c9 : Nat) (Ai As Am : Option Addr) (ci cs cm : Nat) (inn st mem : List Int) (h : Int) (w : World)
 (HO : ObjC w o A0 A1 A2 A3 A6 A7 A8 A9 c0 c1 c2 c3 c6 c7 c8 c9) (HI : LstC w inn Ai ci) (HS : LstC w st As cs) (HM : LstC w mem Am cm) (hG : G26 o) (ai : AllIn inn) (ais : AllIn st) (am : AllIn mem) (ih : In64 h) (hsl : st.length * 8 ≤ 140737488351232) :
 Calls Tryz.prog 5 #[.agg #[.slice A0 o.f0.length c0, .slice A1 o.f1.length c1, .slice A2 o.f2.length c2, .slice A3 o.f3.length c3, .int .i64 o.f4, .int .i64 o.f5, .slice A6 o.f6.length c6, .slice A7 o.f7.length c7, .slice A8 o.f8.length c8, .slice A9 o.f9.length c9], .slice Ai inn.length ci, .slice As st.length cs, .slice Am mem.length cm, .int .i64 h] w
  fun e w' => e = .returned (.bool true) ∧ Below w.heap.size w w' := by
 have hu26 := Tryz.underlying26
 obtain ⟨gr, hgr⟩ := great19_some o inn st mem
 obtain ⟨kR, rr, hrr, hgood⟩ := right_good hG
 have HGR := Aside0.mk hgr
 have HRR := Aside0.mk hrr
 have HO := Aside0.mk HO
 have HI := Aside0.mk HI
 have HS := Aside0.mk HS
 have HM := Aside0.mk HM
 have HA := Aside0.mk (And.intro ai (And.intro ais (And.intro am ih)))
 have HSL := Aside0.mk hsl
 clear ai ais am ih hG hsl hgr hrr
 cases gr with
 | true =>
  clear HRR hgood
  go_enter Tryz.func5, Tryz.ntmps5
  go_wp2_with (first | (go_at_call 32; refine (Q.astrolabelaw19_alive.calls true _ rfl).mono ?_; rintro e w1 ⟨rfl, hb1⟩; have HB := Aside0.mk (below_step (below_alloc (Below.refl _ _) _) hb1 : Below w.heap.size w w1); have HX := Aside0.mk (show w1.heap[w.heap.size]? = some (.cells #[.slice A0 o.f0.length c0, .slice A1 o.f1.length c1, .slice A2 o.f2.length c2, .slice A3 o.f3.length c3, .int .i64 o.f4, .int .i64 o.f5, .slice A6 o.f6.length c6, .slice A7 o.f7.length c7, .slice A8 o.f8.length c8, .slice A9 o.f9.length c9] 26 (0, 0)) from (hb1.block _ (by simp)).trans (blk_new w _)); clear hb1) | (refine wpList_load_row rfl 26 _ rfl w.heap.size rfl 26 #[.slice A0 o.f0.length c0, .slice A1 o.f1.length c1, .slice A2 o.f2.length c2, .slice A3 o.f3.length c3, .int .i64 o.f4, .int .i64 o.f5, .slice A6 o.f6.length c6, .slice A7 o.f7.length c7, .slice A8 o.f8.length c8, .slice A9 o.f9.length c9] (0, 0) _ HX.out Tryz.underlying26 rfl (by kernel_rfl) ?_) | (go_at_call 33; refine (great19_o (HO.out.below HB.out) (HI.out.below HB.out) (HS.out.below HB.out) (HM.out.below HB.out) true HGR.out).mono ?_; rintro e w2 ⟨rfl, hb2⟩; have n1_ := Aside0.mk (below_step HB.out hb2); have n2_ := Aside0.mk ((hb2.block _ (lt_of_block HX.out)).trans HX.out); clear HB HX hb2; have HB := n1_; have HX := n2_; clear n1_ n2_))
  go_ret
  exact ⟨rfl, by repeat (first | exact HB.out | apply pw_below_drewN | apply below_drew1)⟩
 | false =>
  cases rr with
  | false =>
   clear hgood
   go_enter Tryz.func5, Tryz.ntmps5
   go_wp2_with (first | (go_at_call 32; refine (Q.astrolabelaw19_alive.calls true _ rfl).mono ?_; rintro e w1 ⟨rfl, hb1⟩; have HB := Aside0.mk (below_step (below_alloc (Below.refl _ _) _) hb1 : Below w.heap.size w w1); have HX := Aside0.mk (show w1.heap[w.heap.size]? = some (.cells #[.slice A0 o.f0.length c0, .slice A1 o.f1.length c1, .slice A2 o.f2.length c2, .slice A3 o.f3.length c3, .int .i64 o.f4, .int .i64 o.f5, .slice A6 o.f6.length c6, .slice A7 o.f7.length c7, .slice A8 o.f8.length c8, .slice A9 o.f9.length c9] 26 (0, 0)) from (hb1.block _ (by simp)).trans (blk_new w _)); clear hb1) | (refine wpList_load_row rfl 26 _ rfl w.heap.size rfl 26 #[.slice A0 o.f0.length c0, .slice A1 o.f1.length c1, .slice A2 o.f2.length c2, .slice A3 o.f3.length c3, .int .i64 o.f4, .int .i64 o.f5, .slice A6 o.f6.length c6, .slice A7 o.f7.length c7, .slice A8 o.f8.length c8, .slice A9 o.f9.length c9] (0, 0) _ HX.out Tryz.underlying26 rfl (by kernel_rfl) ?_) | (go_at_call 33; refine (great19_o (HO.out.below HB.out) (HI.out.below HB.out) (HS.out.below HB.out) (HM.out.below HB.out) false HGR.out).mono ?_; rintro e w2 ⟨rfl, hb2⟩; have n1_ := Aside0.mk (below_step HB.out hb2); have n2_ := Aside0.mk ((hb2.block _ (lt_of_block HX.out)).trans HX.out); clear HB HX hb2; have HB := n1_; have HX := n2_; clear n1_ n2_; have hz0_w2 : w2.cell? ⟨w.heap.size, 0, none⟩ = some (.slice A0 o.f0.length c0) := (blk_cell HX.out 0).trans rfl; have hz1_w2 : w2.cell? ⟨w.heap.size, 1, none⟩ = some (.slice A1 o.f1.length c1) := (blk_cell HX.out 1).trans rfl; have hz2_w2 : w2.cell? ⟨w.heap.size, 2, none⟩ = some (.slice A2 o.f2.length c2) := (blk_cell HX.out 2).trans rfl; have hz3_w2 : w2.cell? ⟨w.heap.size, 3, none⟩ = some (.slice A3 o.f3.length c3) := (blk_cell HX.out 3).trans rfl; have hz4_w2 : w2.cell? ⟨w.heap.size, 4, none⟩ = some (.int .i64 o.f4) := (blk_cell HX.out 4).trans rfl; have hz5_w2 : w2.cell? ⟨w.heap.size, 5, none⟩ = some (.int .i64 o.f5) := (blk_cell HX.out 5).trans rfl; have hz6_w2 : w2.cell? ⟨w.heap.size, 6, none⟩ = some (.slice A6 o.f6.length c6) := (blk_cell HX.out 6).trans rfl; have hz7_w2 : w2.cell? ⟨w.heap.size, 7, none⟩ = some (.slice A7 o.f7.length c7) := (blk_cell HX.out 7).trans rfl; have hz8_w2 : w2.cell? ⟨w.heap.size, 8, none⟩ = some (.slice A8 o.f8.length c8) := (blk_cell HX.out 8).trans rfl; have hz9_w2 : w2.cell? ⟨w.heap.size, 9, none⟩ = some (.slice A9 o.f9.length c9) := (blk_cell HX.out 9).trans rfl) | (go_at_call 22; refine (right17_o (HO.out.below HB.out) kR false HRR.out).mono ?_; rintro e w3 ⟨rfl, hb2⟩; have n1_ := Aside0.mk (below_step HB.out hb2); have n2_ := Aside0.mk ((hb2.block _ (lt_of_block HX.out)).trans HX.out); clear HB HX hb2; have HB := n1_; have HX := n2_; clear n1_ n2_))
   go_ret
   exact ⟨rfl, by repeat (first | exact HB.out | apply pw_below_drewN | apply below_drew1)⟩
  | true =>
   have HGD := Aside0.mk (hgood rfl)
   clear hgood
   go_enter Tryz.func5, Tryz.ntmps5
   go_wp2_with (first | (go_at_call 32; refine (Q.astrolabelaw19_alive.calls true _ rfl).mono ?_; rintro e w1 ⟨rfl, hb1⟩; have HB := Aside0.mk (below_step (below_alloc (Below.refl _ _) _) hb1 : Below w.heap.size w w1); have HX := Aside0.mk (show w1.heap[w.heap.size]? = some (.cells #[.slice A0 o.f0.length c0, .slice A1 o.f1.length c1, .slice A2 o.f2.length c2, .slice A3 o.f3.length c3, .int .i64 o.f4, .int .i64 o.f5, .slice A6 o.f6.length c6, .slice A7 o.f7.length c7, .slice A8 o.f8.length c8, .slice A9 o.f9.length c9] 26 (0, 0)) from (hb1.block _ (by simp)).trans (blk_new w _)); clear hb1) | (refine wpList_load_row rfl 26 _ rfl w.heap.size rfl 26 #[.slice A0 o.f0.length c0, .slice A1 o.f1.length c1, .slice A2 o.f2.length c2, .slice A3 o.f3.length c3, .int .i64 o.f4, .int .i64 o.f5, .slice A6 o.f6.length c6, .slice A7 o.f7.length c7, .slice A8 o.f8.length c8, .slice A9 o.f9.length c9] (0, 0) _ HX.out Tryz.underlying26 rfl (by kernel_rfl) ?_) | (go_at_call 33; refine (great19_o (HO.out.below HB.out) (HI.out.below HB.out) (HS.out.below HB.out) (HM.out.below HB.out) false HGR.out).mono ?_; rintro e w2 ⟨rfl, hb2⟩; have n1_ := Aside0.mk (below_step HB.out hb2); have n2_ := Aside0.mk ((hb2.block _ (lt_of_block HX.out)).trans HX.out); clear HB HX hb2; have HB := n1_; have HX := n2_; clear n1_ n2_; have hz0_w2 : w2.cell? ⟨w.heap.size, 0, none⟩ = some (.slice A0 o.f0.length c0) := (blk_cell HX.out 0).trans rfl; have hz1_w2 : w2.cell? ⟨w.heap.size, 1, none⟩ = some (.slice A1 o.f1.length c1) := (blk_cell HX.out 1).trans rfl; have hz2_w2 : w2.cell? ⟨w.heap.size, 2, none⟩ = some (.slice A2 o.f2.length c2) := (blk_cell HX.out 2).trans rfl; have hz3_w2 : w2.cell? ⟨w.heap.size, 3, none⟩ = some (.slice A3 o.f3.length c3) := (blk_cell HX.out 3).trans rfl; have hz4_w2 : w2.cell? ⟨w.heap.size, 4, none⟩ = some (.int .i64 o.f4) := (blk_cell HX.out 4).trans rfl; have hz5_w2 : w2.cell? ⟨w.heap.size, 5, none⟩ = some (.int .i64 o.f5) := (blk_cell HX.out 5).trans rfl; have hz6_w2 : w2.cell? ⟨w.heap.size, 6, none⟩ = some (.slice A6 o.f6.length c6) := (blk_cell HX.out 6).trans rfl; have hz7_w2 : w2.cell? ⟨w.heap.size, 7, none⟩ = some (.slice A7 o.f7.length c7) := (blk_cell HX.out 7).trans rfl; have hz8_w2 : w2.cell? ⟨w.heap.size, 8, none⟩ = some (.slice A8 o.f8.length c8) := (blk_cell HX.out 8).trans rfl; have hz9_w2 : w2.cell? ⟨w.heap.size, 9, none⟩ = some (.slice A9 o.f9.length c9) := (blk_cell HX.out 9).trans rfl) | (go_at_call 22; refine (right17_o (HO.out.below HB.out) kR true HRR.out).mono ?_; rintro e w3 ⟨rfl, hb2⟩; have n1_ := Aside0.mk (below_step HB.out hb2); have n2_ := Aside0.mk ((hb2.block _ (lt_of_block HX.out)).trans HX.out); clear HB HX hb2; have HB := n1_; have HX := n2_; clear n1_ n2_) | (go_at_call 23; refine (new_o (HO.out.below HB.out) HGD.out).mono ?_; rintro e w4 ⟨Bm, rfl, hM, hb2⟩; have M4 := Aside0.mk hM; have HN := Aside0.mk HB.out.size; have HLT := Aside0.mk (lt_of_block HX.out); have n1_ := Aside0.mk (below_step HB.out hb2); have n2_ := Aside0.mk ((hb2.block _ (lt_of_block HX.out)).trans HX.out); clear HB HX hb2 hM; have HB := n1_; have HX := n2_; clear n1_ n2_))
   have hlt4 : w.heap.size < w3.heap.size := HLT.out
   by_cases hf : Fits o inn st mem
   · have HF := Aside0.mk hf
     clear hf
     refine (hstep_right M4.out HGD.out Ai As Am ci cs cm inn st mem h (HI.out.old HB.out HN.out) (HS.out.old HB.out HN.out) (HM.out.old HB.out HN.out) HF.out HA.out.1 HA.out.2.1 HA.out.2.2.1 HA.out.2.2.2 (by omega) (by omega)).mono ?_
     obtain ⟨d5, hd5⟩ : ∃ d, (0 : Int) + o.f6.length + o.f6.length = d := ⟨_, rfl⟩
     rw [hd5]
     have hb4 := right_bounds HGD.out.right
     have HD5 := Aside0.mk (show 0 ≤ d5 ∧ d5 ≤ 100000 by omega)
     have hdw : wrap64 (2 * (o.f6.length : Int)) = d5 := by rw [wrap_in (by omega) (by omega)]; omega
     have hdb : (d5 != wrap64 (2 * (o.f6.length : Int))) = false := by simp [hdw]
     have hdc : decide (d5 = wrap64 (2 * (o.f6.length : Int))) = true := by simp [hdw]
     clear hb4 hd5 hdw
     rintro e w5 ⟨v5, f5, rfl, -, hM5, hc5⟩
     have n1_ := Aside0.mk (hc5.to_below (n := w.heap.size) HB.out.size (fun k hk => by have := M4.out.blk; omega) HB.out)
     have n2_ := Aside0.mk ((hc5.block _ (lt_of_block HX.out) (fun hk => by have := M4.out.blk; omega)).trans HX.out)
     have M5 := Aside0.mk hM5
     clear HB HX M4 hM5 hc5
     have HB := n1_
     have HX := n2_
     clear n1_ n2_
     go_wp2_with (go_at_call 34; refine (hstep_nil _ _ _ _ _ _ _ _ _ _ _).mono ?_; rintro e w6 ⟨rfl, hb2⟩; have n0_ := Aside0.mk (M5.out.below hb2); have n1_ := Aside0.mk (below_step HB.out hb2); have n2_ := Aside0.mk ((hb2.block _ (lt_of_block HX.out)).trans HX.out); clear HB HX M5 hb2; have HB := n1_; have HX := n2_; have M5 := n0_; clear n0_ n1_ n2_)
     have HX := Aside0.mk (show w6.drew.heap[w.heap.size]? = _ from HX.out)
     have M5 := Aside0.mk (M5.out.below (below_drew1 (Below.refl _ _)))
     have HB := Aside0.mk (below_drew1 HB.out)
     refine start_ (n := 7) (S := fun w' => w'.cell? ⟨w.heap.size, 6, none⟩ = some (.slice A6 o.f6.length c6)) (ds := []) #[false, false, false, false, false, false, false] (by kernel_rfl) rfl rfl ((blk_cell HX.out 6).trans rfl) (fun hHeld => ?_); refine with_tabW tw_tab tw_bits (fun HT_ HW_ => ?_)
     refine pure_ (i := 0) (N := some 70) (v := ?_) (a' := ?_) #[true, false, false, false, false, false, false] rfl rfl (any_of HT_.out (by kernel_rfl)) (fun _ _ _ h => h) (Or.inl ⟨by rfl, ?_⟩) ?_ ?_
     rotate_left
     · intro w'
       go_simp
       with_reducible rfl
     rotate_left
     · simp only [Act.put, List.setIfInBounds_toArray, List.set_cons_zero, List.set_cons_succ, i64_w, i32_w]
       rfl
     refine pure_ (i := 2) (N := some 72) (v := ?_) (a' := ?_) #[true, false, true, false, false, false, false] rfl rfl (any_of HT_.out (by kernel_rfl)) (fun _ _ _ h => h) (Or.inl ⟨by rfl, ?_⟩) ?_ ?_
     rotate_left
     · intro w'
       go_simp
       with_reducible rfl
     rotate_left
     · simp only [Act.put, List.setIfInBounds_toArray, List.set_cons_zero, List.set_cons_succ, i64_w, i32_w]
       rfl
     refine take_ (i := 3) (N := some 73) (v := ?_) (a' := ?_) #[true, false, true, true, false, false, false] rfl rfl (take_ofW HT_.out HW_.out (by kernel_rfl)) (fun _ _ _ h => h) (Or.inl ⟨by rfl, ?_⟩) hHeld ?_ ?_
     rotate_left
     · rintro w' s0
       go_simp
       with_reducible rfl
     rotate_left
     · simp only [Act.put, List.setIfInBounds_toArray, List.set_cons_zero, List.set_cons_succ, i64_w, i32_w]
       rfl
     refine pure_ (i := 4) (N := some 74) (v := ?_) (a' := ?_) #[true, false, true, true, true, false, false] rfl rfl (any_of HT_.out (by kernel_rfl)) (fun _ _ _ h => h) (Or.inl ⟨by rfl, ?_⟩) ?_ ?_
     rotate_left
     · intro w'
       go_simp
       with_reducible rfl
     rotate_left
     · simp only [Act.put, List.setIfInBounds_toArray, List.set_cons_zero, List.set_cons_succ, i64_w, i32_w]
       rfl
     refine pure_ (i := 5) (N := some 75) (v := ?_) (a' := ?_) #[true, false, true, true, true, true, false] rfl rfl (any_of HT_.out (by kernel_rfl)) (fun _ _ _ h => h) (Or.inl ⟨by rfl, ?_⟩) ?_ ?_
     rotate_left
     · intro w'
       go_simp
       with_reducible rfl
     rotate_left
     · simp only [Act.put, List.setIfInBounds_toArray, List.set_cons_zero, List.set_cons_succ, i64_w, i32_w]
       rfl
     refine one_ (i := 1) (N := some 71) #[true, true, true, true, true, true, false] rfl rfl (one_of HT_.out (by kernel_rfl)) (by decide) (fun K hK => ?_)
     refine goes_ Tryz.func24 (by kernel_rfl) rfl #[.pointer (some ⟨Bm, 0, none⟩)] (by rfl) rfl rfl (by (try simp only [List.map_toArray, List.map_cons, List.map_nil]); first | done | rfl) ?_
     refine (done_o M5.out).mono ?_
     rintro e w7 ⟨rfl, rfl⟩
     refine ⟨_, rfl, ?_⟩
     refine hK.out _ _ ((blk_cell HX.out 6).trans rfl) (fun hHeld => ?_)
     clear hK K
     refine norm_ (a' := ?_) ?_ ?_
     rotate_left
     · show Act.put _ (some 71) _ = _
       simp only [Act.put, List.setIfInBounds_toArray, List.set_cons_zero, List.set_cons_succ, i64_w, i32_w]
       rfl
     refine pure_ (i := 6) (N := some 76) (v := ?_) (a' := ?_) #[true, true, true, true, true, true, true] rfl rfl (any_of HT_.out (by kernel_rfl)) (fun _ _ _ h => h) (Or.inl ⟨by rfl, ?_⟩) ?_ ?_
     rotate_left
     · intro w'
       go_simp
       with_reducible rfl
     rotate_left
     · simp only [Act.put, List.setIfInBounds_toArray, List.set_cons_zero, List.set_cons_succ, i64_w, i32_w]
       rfl
     refine done_ (done_of HT_.out (by kernel_rfl)) ?_
     go_wp2_with fail
     refine (hstep_right M5.out HGD.out Ai As Am ci cs cm inn st mem 0 (HI.out.old HB.out HN.out) (HS.out.old HB.out HN.out) (HM.out.old HB.out HN.out) HF.out HA.out.1 HA.out.2.1 HA.out.2.2.1 in64_zero HD5.out.1 (by have := HD5.out.2; omega)).mono ?_
     rintro e w8 ⟨v8, f8, rfl, hR8, hM8, hc8⟩
     rw [hstep_zero o inn st mem HA.out.2.1] at hR8
     obtain ⟨A8', c8', rfl, hl8, hN8⟩ := Nw.of_R' hR8
     obtain ⟨kN, hkN⟩ := (numbers_ev st (by have := HSL.out; omega)).rounds
     have HKN := Aside0.mk hkN
     have n1_ := Aside0.mk (hc8.to_below (n := w.heap.size) HB.out.size (fun k hk => by have := M5.out.blk; have := HN.out; omega) HB.out)
     have N8 := Aside0.mk (And.intro hN8.c hl8)
     clear HB HX M5 hM8 hc8 hR8 hN8 hl8 hkN
     have HB := n1_
     clear n1_
     go_wp2_with (go_at_call 29; refine (astrolaberef14_Numbers.calls kN A8' c8' st As cs st true _ N8.out.1 N8.out.2 (HS.out.below HB.out).r (HS.out.below HB.out).h HKN.out).mono ?_; rintro e w9 ⟨rfl, hb2⟩; have n1_ := Aside0.mk (below_step HB.out hb2.below); clear HB hb2; have HB := n1_; clear n1_)
     go_ret
     exact ⟨rfl, by repeat (first | exact HB.out | apply pw_below_drewN | apply below_drew1)⟩
   · have HF := Aside0.mk hf
     clear hf
     refine (hstep_no M4.out Ai As Am ci cs cm inn st mem h HF.out).mono ?_
     rintro e w5 ⟨rfl, hb2⟩
     have n0_ := Aside0.mk (M4.out.below hb2)
     have n1_ := Aside0.mk (below_step HB.out hb2)
     clear HB HX M4 hb2
     have HB := n1_
     have M4 := n0_
     clear n0_ n1_
     go_wp2_with (go_at_call 34; refine (hstep_nil _ _ _ _ _ _ _ _ _ _ _).mono ?_; rintro e w6 ⟨rfl, hb2⟩; have n0_ := Aside0.mk (M4.out.below hb2); have n1_ := Aside0.mk (below_step HB.out hb2); clear HB M4 hb2; have HB := n1_; have M4 := n0_; clear n0_ n1_)
     refine (done_o M4.out).mono ?_
     rintro e w7 ⟨rfl, rfl⟩
     go_wp2_with fail
     go_ret
     exact ⟨rfl, by repeat (first | exact HB.out | apply pw_below_drewN | apply below_drew1)⟩
theorem heunTwice_row (o : S26) (A0 A1 A2 A3 A6 A7 A8 A9 : Option Addr) (c0 c1 c2 c3 c6 c7 c8 c9 : Nat) (inn : List Int) (Ai : Option Addr) (ci : Nat) (st : List Int) (As : Option Addr) (cs : Nat) (mem : List Int) (Am : Option Addr) (cm : Nat) (h : Int) (w : World)
 (HO : ObjC w o A0 A1 A2 A3 A6 A7 A8 A9 c0 c1 c2 c3 c6 c7 c8 c9) (hG : G26 o) (HI : LstC w inn Ai ci) (ai : AllIn inn) (hl1 : inn.length * 8 ≤ 140737488351232) (HS : LstC w st As cs) (ais : AllIn st) (hl2 : st.length * 8 ≤ 140737488351232) (HM : LstC w mem Am cm) (am : AllIn mem) (hl3 : mem.length * 8 ≤ 140737488351232) (ih : (Lit.int .i64 h).wf = true) :
 Calls Tryz.prog 5 #[.agg #[.slice A0 o.f0.length c0, .slice A1 o.f1.length c1, .slice A2 o.f2.length c2, .slice A3 o.f3.length c3, .int .i64 o.f4, .int .i64 o.f5, .slice A6 o.f6.length c6, .slice A7 o.f7.length c7, .slice A8 o.f8.length c8, .slice A9 o.f9.length c9], .slice Ai inn.length ci, .slice As st.length cs, .slice Am mem.length cm, .int .i64 h] w
  fun e w' => e = .returned (.bool true) ∧ Below w.heap.size w w' :=
 heunTwice_calls o A0 A1 A2 A3 A6 A7 A8 A9 c0 c1 c2 c3 c6 c7 c8 c9 Ai As Am ci cs cm inn st mem h w HO HI HS HM hG ai ais am (in64_of ih) hl2
end Go.Proofs.YtgalkkolbobmbaaGreat.V
