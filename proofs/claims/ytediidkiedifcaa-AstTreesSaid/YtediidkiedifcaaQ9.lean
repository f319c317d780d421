-- written by myprint.py (wip/tools) out of the translation
import Derived.Test.YtediidkiedifcaaQ0
import Derived.Test.YtediidkiedifcaaQ7
namespace Go.Proofs.Ytediidkiedifcaa.Q
open Go.RowKit Go.Proofs.YtediidkiedifcaaW.PrintWords Go.Proofs.YtediidkiedifcaaW.PrintLast Go.Proofs.YtediidkiedifcaaW.PrintMore
attribute [local go_sem] max2_int min2_int max_two min_two max_three min_three max_four min_four   -- for this text's walks alone
set_option linter.unusedVariables false
set_option linter.unusedSimpArgs false

/-! ### astrolaberef04_Tree: function 17 -/
mutual
noncomputable def astrolaberef04_Tree.l0 : Nat → List Int → Int → List Int → Int → List (S45) → List (S31) → Option (List Int)
  | 0, _, _, _, _, _, _ => none
  | k + 1, x2, x3, x9, x10, x192000, x192001 => if x10 < (x9.length : Int) then (if 0 ≤ x10 then ((astrolaberef04_Tree.f k x192000 x192001 (rd x9 x10) x2 x3).bind fun t200 => (astrolaberef04_Tree.l0 k t200 x3 x9 (wrap64 (x10 + 1)) x192000 x192001)) else (none)) else (some x2)
noncomputable def astrolaberef04_Tree.f : Nat → List (S45) → List (S31) → Int → List Int → Int → Option (List Int)
  | 0, _, _, _, _, _ => none
  | k + 1, l0_0, l0_1, a1, l2, a3 => if (l2.length : Int) ≥ a3 then (some l2) else (if l2.length < 17592186044416 then (if 0 ≤ a1 then (if a1 < (l0_1.length : Int) then ((astrolaberef04_Parts.f k ((rd_T31 l0_1 a1).f0) ((rd_T31 l0_1 a1).f1) ((rd_T31 l0_1 a1).f2) ((rd_T31 l0_1 a1).f3) ((rd_T31 l0_1 a1).f4) ((rd_T31 l0_1 a1).f5) ((rd_T31 l0_1 a1).f6) ((rd_T31 l0_1 a1).f7) ((rd_T31 l0_1 a1).f8)).bind fun t196 => (astrolaberef04_Tree.l0 k (l2 ++ [a1]) a3 t196 0 l0_0 l0_1)) else (none)) else (none)) else (none))
end
theorem astrolaberef04_Tree.mono_l : ∀ k, (∀ y0 y1 y2 y3 y4, LeO (astrolaberef04_Tree.f k y0 y1 y2 y3 y4) (astrolaberef04_Tree.f (k + 1) y0 y1 y2 y3 y4)) ∧ (∀ y0 y1 y2 y3 y4 y5, LeO (astrolaberef04_Tree.l0 k y0 y1 y2 y3 y4 y5) (astrolaberef04_Tree.l0 (k + 1) y0 y1 y2 y3 y4 y5))
  | 0 => ⟨fun _ _ _ _ _ r h => by simp [astrolaberef04_Tree.f] at h, fun _ _ _ _ _ _ r h => by simp [astrolaberef04_Tree.l0] at h⟩
  | k + 1 => by
    obtain ⟨ih0, ih1⟩ := astrolaberef04_Tree.mono_l k
    refine ⟨?_, ?_⟩
    · intro y0 y1 y2 y3 y4
      unfold astrolaberef04_Tree.f
      repeat' first
      | (with_reducible exact ih0 _ _ _ _ _)
      | (with_reducible exact ih1 _ _ _ _ _ _)
      | (with_reducible exact astrolaberef04_Parts.mono _ _ _ _ _ _ _ _ _ _)
      | (with_reducible exact LeO.refl _)
      | (with_reducible exact LeO.none _)
      | (with_reducible refine LeO.ite ?_ ?_)
      | (with_reducible refine LeO.bind ?_ (fun _ => ?_))
      | exact ih0 _ _ _ _ _
      | exact ih1 _ _ _ _ _ _
      | exact astrolaberef04_Parts.mono _ _ _ _ _ _ _ _ _ _
      | exact LeO.none _
      | refine LeO.ite ?_ ?_
      | refine LeO.bind ?_ (fun _ => ?_)
    · intro y0 y1 y2 y3 y4 y5
      unfold astrolaberef04_Tree.l0
      repeat' first
      | (with_reducible exact ih0 _ _ _ _ _)
      | (with_reducible exact ih1 _ _ _ _ _ _)
      | (with_reducible exact astrolaberef04_Parts.mono _ _ _ _ _ _ _ _ _ _)
      | (with_reducible exact LeO.refl _)
      | (with_reducible exact LeO.none _)
      | (with_reducible refine LeO.ite ?_ ?_)
      | (with_reducible refine LeO.bind ?_ (fun _ => ?_))
      | exact ih0 _ _ _ _ _
      | exact ih1 _ _ _ _ _ _
      | exact astrolaberef04_Parts.mono _ _ _ _ _ _ _ _ _ _
      | exact LeO.none _
      | refine LeO.ite ?_ ?_
      | refine LeO.bind ?_ (fun _ => ?_)
theorem astrolaberef04_Tree.mono : ∀ a0 a1 a2 a3 a4 k, LeO (astrolaberef04_Tree.f k a0 a1 a2 a3 a4) (astrolaberef04_Tree.f (k + 1) a0 a1 a2 a3 a4) := by
  intro a0 a1 a2 a3 a4 k
  obtain ⟨ih0, ih1⟩ := astrolaberef04_Tree.mono_l k
  exact ih0 a0 a1 a2 a3 a4
noncomputable def astrolaberef04_Tree.T8 : Bool × List (List Nat × List Nat) := (true, [([], []), ([], []), ([], []), ([1, 2], [1, 2]), ([3], [3]), ([], []), ([], []), ([0, 4, 5, 6], [0, 4, 5, 6]), ([7, 7, 0, 1, 2, 3, 4, 5, 6, 7], [5, 7])])
noncomputable def astrolaberef04_Tree.B8 : List Nat := [0, 0, 0, 6, 14, 0, 0, 127, 255]
theorem astrolaberef04_Tree.tab8 : rtab .any (opsOf Try.f17 8) = astrolaberef04_Tree.T8 := by kernel_rfl
theorem astrolaberef04_Tree.bits8 : waitsOk astrolaberef04_Tree.T8.2 astrolaberef04_Tree.B8 = true := by kernel_rfl
set_option maxHeartbeats 8000000 in
set_option maxRecDepth 100000 in
theorem astrolaberef04_Tree.calls (k : Nat) : ∀ (A0_0 : Option Addr) (c0_0 : Nat) (l0_0 : List (S45)) (A0_1 : Option Addr) (c0_1 : Nat) (l0_1 : List (S31)) (a1 : Int) (P2_ : Nat → Prop) (u9000_ : Value) (l2 : List Int) (a3 : Int) (r : List Int) (w0 w : World) (hB : Below w0.heap.size w0 w) (hr0_0 : ∀ W_, Kept w W_ (fun k_ => P2_ k_) → Kd.C k45 W_ A0_0 l0_0.length l0_0) (hc0_0 : l0_0.length ≤ c0_0) (hr0_1 : ∀ W_, Kept w W_ (fun k_ => P2_ k_) → Kd.C k31 W_ A0_1 l0_1.length l0_1) (hc0_1 : l0_1.length ≤ c0_1) (ho2 : Kd.R (Kd.int .i64) 3 w w0.heap.size P2_ u9000_ l2) (h : astrolaberef04_Tree.f k l0_0 l0_1 a1 l2 a3 = some r),
    Calls Try.prog 17 #[.agg #[.slice A0_0 l0_0.length c0_0, .slice A0_1 l0_1.length c0_1], .int .i64 a1, u9000_, .int .i64 a3] w fun e w' => ∃ v0_ : Value, e = .returned (v0_) ∧ Kd.R (Kd.int .i64) 3 w' w0.heap.size (fun k_ => (P2_ k_ ∨ w.heap.size ≤ k_)) v0_ r ∧ Below w0.heap.size w0 w' ∧ Kept w w' (fun k_ => P2_ k_) := by
  induction k using Nat.strongRecOn with
  | _ k ih =>
  intro A0_0 c0_0 l0_0 A0_1 c0_1 l0_1 a1 P2_ u9000_ l2 a3 r w0 w hB hr0_0 hc0_0 hr0_1 hc0_1 ho2 h
  cases k with
  | zero => exact absurd h (by simp [astrolaberef04_Tree.f])
  | succ k =>
  simp only [astrolaberef04_Tree.f] at h
  have hu25 := Try.underlying25
  have hu31 := Try.underlying31
  have HR0_0 := Aside0.mk hr0_0
  have HC0_0 := Aside0.mk hc0_0
  clear hr0_0 hc0_0
  have HR0_1 := Aside0.mk hr0_1
  have HC0_1 := Aside0.mk hc0_1
  clear hr0_1 hc0_1
  have HO2 := Aside0.mk (show Kd.R (Kd.int .i64) 3 w w0.heap.size (fun k_ => (P2_ k_ ∨ w.heap.size ≤ k_)) u9000_ l2 from Kd.R_mono ho2 (fun k_ hk => (.inl hk)))
  have HK := Aside0.mk (Kept.refl w (fun k_ => P2_ k_))
  have HW0 := Aside0.mk hB.size
  have HB := Aside0.mk hB
  clear hB
  have H : (if (l2.length : Int) ≥ a3 then (some l2) else (if l2.length < 17592186044416 then (if 0 ≤ a1 then (if a1 < (l0_1.length : Int) then ((astrolaberef04_Parts.f k ((rd_T31 l0_1 a1).f0) ((rd_T31 l0_1 a1).f1) ((rd_T31 l0_1 a1).f2) ((rd_T31 l0_1 a1).f3) ((rd_T31 l0_1 a1).f4) ((rd_T31 l0_1 a1).f5) ((rd_T31 l0_1 a1).f6) ((rd_T31 l0_1 a1).f7) ((rd_T31 l0_1 a1).f8)).bind fun t196 => (astrolaberef04_Tree.l0 k (l2 ++ [a1]) a3 t196 0 l0_0 l0_1)) else (none)) else (none)) else (none))) = some r := h
  clear h
  by_cases c5 : (l2.length : Int) ≥ a3
  · rw [if_pos c5] at H
    have c5b0 : decide (a3 ≤ (l2.length : Int)) = true := decide_eq_true c5
    clear c5
    obtain rfl := Option.some.inj H
    go_enter Try.func17, Try.ntmps17
    go_wp2_with (first | ((with_reducible refine gate_dst (N := 4) rfl ?_); refine box_event ?hg (N := 4) ?hd (cs := #[.slice A0_0 l0_0.length c0_0, .slice A0_1 l0_1.length c0_1]) (t := 25) ?hr ?_; (case hd => rfl); (case hg => rfl); (case hr => first | (go_simp; done) | (go_simp; rfl)); intro gb191 hg w6 hbox hb; have n0_ := Aside0.mk (Kd.R_below (by (with_reducible repeat (first | apply Kd.R_alloc | apply Kd.R_drewN | apply Kd.R_drew)); exact HO2.out) hb); have n1_ := Aside0.mk (Kept.below (S := (fun k_ => P2_ k_)) (by repeat (first | (with_reducible first | exact HK.out | apply Kept.alloc | apply Kept.drewN | apply Kept.drew) | exact HK.out)) hb); have n2_ := Aside0.mk (below_step (by repeat (first | (with_reducible first | exact HB.out | apply below_alloc | apply pw_below_drewN | apply below_drew1) | exact HB.out)) hb); have n3_ := Aside0.mk (hbox); have n4_ := Aside0.mk ((by rw [hg]; exact (by first | exact HK.out.1 | exact (show Kept w _ (fun k_ => P2_ k_) from by repeat (first | (with_reducible first | exact HK.out | apply Kept.alloc | apply Kept.drewN | apply Kept.drew) | exact HK.out)).1) : w.heap.size ≤ gb191)); have n5_ := Aside0.mk ((by rw [hg]; exact (below_size (by repeat (first | (with_reducible first | exact HB.out | apply below_alloc | apply pw_below_drewN | apply below_drew1) | exact HB.out))) : w0.heap.size ≤ gb191)); clear HO2; clear HK; clear HB; have HO2 := n0_; have HK := n1_; have HB := n2_; have BK191 := n3_; have GW191 := n4_; have GE191 := n5_; clear n0_ n1_ n2_ n3_ n4_ n5_; clear hb hbox hg; obtain ⟨Ao7, co7, eo7⟩ := Kd.R_slice HO2.out; subst eo7))
    go_ret
    exact ⟨_, by first | rfl | (simp [errW_none, errW_some] <;> rfl) | (simp [*, errW_none, errW_some] <;> rfl), by (with_reducible repeat (first | apply Kd.R_alloc | apply Kd.R_drewN | apply Kd.R_drew)); exact HO2.out, by repeat (first | (with_reducible first | exact HB.out | apply below_alloc | apply pw_below_drewN | apply below_drew1 | refine below_set ?_ GE191.out) | exact HB.out), by repeat (first | (with_reducible first | exact HK.out | apply Kept.alloc | apply Kept.drewN | apply Kept.drew | refine Kept.setCell ?_ (.inr GW191.out) _) | exact HK.out)⟩
  · rw [if_neg c5] at H
    have c5b0 : decide (a3 ≤ (l2.length : Int)) = false := decide_eq_false c5
    clear c5
    by_cases c8 : l2.length < 17592186044416
    · rw [if_pos c8] at H
      have LMc8 := Aside0.mk c8
      clear c8
      obtain ⟨y192, hy192⟩ : ∃ y_ : List Int, y_ = (l2 ++ [a1]) := ⟨_, rfl⟩
      replace H : (if 0 ≤ a1 then (if a1 < (l0_1.length : Int) then ((astrolaberef04_Parts.f k ((rd_T31 l0_1 a1).f0) ((rd_T31 l0_1 a1).f1) ((rd_T31 l0_1 a1).f2) ((rd_T31 l0_1 a1).f3) ((rd_T31 l0_1 a1).f4) ((rd_T31 l0_1 a1).f5) ((rd_T31 l0_1 a1).f6) ((rd_T31 l0_1 a1).f7) ((rd_T31 l0_1 a1).f8)).bind fun t196 => (astrolaberef04_Tree.l0 k y192 a3 t196 0 l0_0 l0_1)) else (none)) else (none)) = some r := by first | (rw [hy192]; with_reducible exact H) | (have H2_ := (Option.bind_some _ _).symm.trans H; rw [hy192]; with_reducible exact H2_) | (have H2_ := (Option.bind_some _ _).symm.trans H; with_reducible exact H2_) | with_reducible exact H | (rw [hy192]; exact H) | exact H
      have Ny192 := Aside0.mk hy192
      clear hy192
      by_cases c9 : 0 ≤ a1
      · rw [if_pos c9] at H
        have c9b0 : decide (0 ≤ a1) = true := decide_eq_true c9
        clear c9
        by_cases c10 : a1 < (l0_1.length : Int)
        · rw [if_pos c10] at H
          have c10b0 : decide (a1 < (l0_1.length : Int)) = true := decide_eq_true c10
          clear c10
          replace H := Option.bind_eq_some_iff.mp H
          obtain ⟨t196, A110, H⟩ := H
          replace H : (astrolaberef04_Tree.l0 k y192 a3 t196 0 l0_0 l0_1) = some r := H
          have A11 := Aside0.mk A110
          clear A110
          have H' := Aside0.mk H
          clear H
          go_enter Try.func17, Try.ntmps17
          go_wp2_with (first | ((with_reducible refine gate_dst (N := 4) rfl ?_); refine box_event ?hg (N := 4) ?hd (cs := #[.slice A0_0 l0_0.length c0_0, .slice A0_1 l0_1.length c0_1]) (t := 25) ?hr ?_; (case hd => rfl); (case hg => rfl); (case hr => first | (go_simp; done) | (go_simp; rfl)); intro gb191 hg w12 hbox hb; have n0_ := Aside0.mk (Kd.R_below (by (with_reducible repeat (first | apply Kd.R_alloc | apply Kd.R_drewN | apply Kd.R_drew)); exact HO2.out) hb); have n1_ := Aside0.mk (Kept.below (S := (fun k_ => P2_ k_)) (by repeat (first | (with_reducible first | exact HK.out | apply Kept.alloc | apply Kept.drewN | apply Kept.drew) | exact HK.out)) hb); have n2_ := Aside0.mk (below_step (by repeat (first | (with_reducible first | exact HB.out | apply below_alloc | apply pw_below_drewN | apply below_drew1) | exact HB.out)) hb); have n3_ := Aside0.mk (hbox); have n4_ := Aside0.mk ((by rw [hg]; exact (by first | exact HK.out.1 | exact (show Kept w _ (fun k_ => P2_ k_) from by repeat (first | (with_reducible first | exact HK.out | apply Kept.alloc | apply Kept.drewN | apply Kept.drew) | exact HK.out)).1) : w.heap.size ≤ gb191)); have n5_ := Aside0.mk ((by rw [hg]; exact (below_size (by repeat (first | (with_reducible first | exact HB.out | apply below_alloc | apply pw_below_drewN | apply below_drew1) | exact HB.out))) : w0.heap.size ≤ gb191)); clear HO2; clear HK; clear HB; have HO2 := n0_; have HK := n1_; have HB := n2_; have BK191 := n3_; have GW191 := n4_; have GE191 := n5_; clear n0_ n1_ n2_ n3_ n4_ n5_; clear hb hbox hg; obtain ⟨Ao13, co13, eo13⟩ := Kd.R_slice HO2.out; subst eo13) | ((with_reducible refine gate_builtin (b := .append) (xs := #[.tmp 16, .tmp 18]) rfl ?_); at_builtin; refine Kd.R_append (Kd.int .i64) (w0 := w0) w0.heap.size rfl (.tmp 16) (.tmp 18) 28 3 (.int .i64 0) 8 rfl Try.underlying28 info3 rfl (by decide) (by omega) (.slice Ao13 l2.length co13) l2 a1 [.int .i64 a1] (fun k_ => (P2_ k_ ∨ w.heap.size ≤ k_)) (fun _ => False) rfl rfl ?aP (fun _ hk => hk.elim) ?aF ?aO ?aB ?aS ?aL ?_; (case aP => exact rfl); (case aB => exact (by repeat (first | (with_reducible first | exact HB.out | apply below_alloc | apply pw_below_drewN | apply below_drew1 | refine below_set ?_ GE191.out) | exact HB.out))); (case aF => exact (fun k_ hk => (.inr (Nat.le_trans (by first | exact HK.out.1 | exact (show Kept w _ (fun k_ => P2_ k_) from by repeat (first | (with_reducible first | exact HK.out | apply Kept.alloc | apply Kept.drewN | apply Kept.drew | refine Kept.setCell ?_ (.inr GW191.out) _) | exact HK.out)).1) hk)))); (case aO => exact (by (with_reducible repeat (first | apply Kd.R_alloc | apply Kd.R_drewN | apply Kd.R_drew)); exact HO2.out)); (case aS => exact (below_size (by repeat (first | (with_reducible first | exact HB.out | apply below_alloc | apply pw_below_drewN | apply below_drew1 | refine below_set ?_ GE191.out) | exact HB.out)))); (case aL => have := LMc8.out; omega); intro v193 w14 ho hb hg hat; rw [← Ny192.out] at ho; have n0_ := Aside0.mk (blk_grown (g := gb191) (o := .cells #[.slice A0_0 l0_0.length c0_0, .slice A0_1 l0_1.length c0_1] 25 (0, 0)) (by (with_reducible repeat (first | refine blk_drewN ?_ _ | refine blk_drew ?_ | refine blk_alloc ?_ _)); exact BK191.out) hg (Kd.R_ne HO2.out BK191.out (by decide))); have n1_ := Aside0.mk (hb); have n2_ := Aside0.mk (Kept.of_grown (S := (fun k_ => P2_ k_)) hg (by repeat (first | (with_reducible first | exact HK.out | apply Kept.alloc | apply Kept.drewN | apply Kept.drew | refine Kept.setCell ?_ (.inr GW191.out) _) | exact HK.out)) (fun k_ e_ => (HO2.out.1 k_ e_))); have n3_ := Aside0.mk (ho); clear BK191; clear HB; clear HK; clear HO2; have BK191 := n0_; have HB := n1_; have HK := n2_; have HO194 := n3_; clear n0_ n1_ n2_ n3_; clear ho hb hg hat; have hcz15_0 : w14.cell? ⟨gb191, 0, none⟩ = some (.slice A0_0 l0_0.length c0_0) := (blk_cell BK191.out 0).trans rfl; have hcz15_1 : w14.cell? ⟨gb191, 1, none⟩ = some (.slice A0_1 l0_1.length c0_1) := (blk_cell BK191.out 1).trans rfl; have hfz15_0 := blk_frozen BK191.out 0; have hfz15_1 := blk_frozen BK191.out 1; have p195 : 0 ≤ (a1 : Int) := of_decide_eq_true (by first | (with_reducible assumption) | assumption); have q195 : a1 < (l0_1.length : Int) := of_decide_eq_true (by first | (with_reducible assumption) | assumption); obtain ⟨ad195, A195_7, c195_7, e195, hx195_0, hx195_1, hx195_2, hx195_3, hx195_4, hx195_5, hx195_6, hx195_7, hx195_8, hl195_7, hi195_7⟩ := at_T31 (Kd.C_kept_now HR0_1.out HK.out) a1 p195 q195; cases e195; have HR195_7 := Aside0.mk hi195_7; have HC195_7 := Aside0.mk hl195_7; clear hi195_7 hl195_7; replace p195 := eq_true p195; replace q195 := eq_true q195) | ((with_reducible refine gate_callee (f := 11) rfl ?_); refine goesL_ (some 25) rfl rfl Try.func11 (by kernel_rfl) rfl #[.agg #[.int .i64 ((rd_T31 l0_1 a1).f0), .int .i64 ((rd_T31 l0_1 a1).f1), .int .i64 ((rd_T31 l0_1 a1).f2), .int .i64 ((rd_T31 l0_1 a1).f3), .string ((rd_T31 l0_1 a1).f4), .string ((rd_T31 l0_1 a1).f5), .int .i64 ((rd_T31 l0_1 a1).f6), .slice A195_7 ((rd_T31 l0_1 a1).f7).length c195_7, .int .i64 ((rd_T31 l0_1 a1).f8)]] rfl (by (try simp only [List.map_toArray, List.map_cons, List.map_nil]); first | done | rfl | (simp only [List.length_drop, List.length_take]; rfl)) ?_; (with_reducible refine (astrolaberef04_Parts.calls k ((rd_T31 l0_1 a1).f0) ((rd_T31 l0_1 a1).f1) ((rd_T31 l0_1 a1).f2) ((rd_T31 l0_1 a1).f3) ((rd_T31 l0_1 a1).f4) ((rd_T31 l0_1 a1).f5) ((rd_T31 l0_1 a1).f6) _ _ ((rd_T31 l0_1 a1).f7) ((rd_T31 l0_1 a1).f8) t196 _ ?side1 ?side2 A11.out).mono ?_); (case side1 => repeat (first | exact (by repeat (first | (with_reducible exact HR195_7.out) | (with_reducible refine Kd.C_alloc ?_ _) | (with_reducible refine Kd.C_drewN ?_ _) | (with_reducible refine Kd.C_drew ?_) | exact HR195_7.out)) | (with_reducible refine Kd.C_alloc ?_ _) | (with_reducible refine Kd.C_drewN ?_ _) | (with_reducible refine Kd.C_drew ?_))); (case side2 => exact HC195_7.out); rintro e w16 ⟨v197, rfl, ho0, hb⟩; refine ⟨_, rfl, ?_⟩; have n0_ := Aside0.mk (Kd.R_elder' (by (with_reducible repeat (first | apply Kd.R_alloc | apply Kd.R_drewN | apply Kd.R_drew)); exact HO194.out) (Kd.R_base ho0) hb); have n1_ := Aside0.mk (Kd.R_lower (Kd.R_new' (Kd.R_newM (M := fun k_ => (P2_ k_ ∨ w.heap.size ≤ k_)) ho0 (by first | exact HK.out.1 | exact (show Kept w _ (fun k_ => P2_ k_) from by repeat (first | (with_reducible first | exact HK.out | apply Kept.alloc | apply Kept.drewN | apply Kept.drew | refine Kept.setCell ?_ (.inr GW191.out) _) | exact HK.out)).1) (fun k_ h_ => .inr h_)) (Kd.R_lt (by (with_reducible repeat (first | apply Kd.R_alloc | apply Kd.R_drewN | apply Kd.R_drew)); exact HO194.out))) (below_size (by repeat (first | (with_reducible first | exact HB.out | apply below_alloc | apply pw_below_drewN | apply below_drew1 | refine below_set ?_ GE191.out) | exact HB.out)))); have n2_ := Aside0.mk (blk_below (g := gb191) (o := .cells #[.slice A0_0 l0_0.length c0_0, .slice (some ad195) l0_1.length c0_1] 25 (0, 0)) (by (with_reducible repeat (first | refine blk_drewN ?_ _ | refine blk_drew ?_ | refine blk_alloc ?_ _)); exact BK191.out) hb); have n3_ := Aside0.mk (Kd.C_below (by repeat (first | (with_reducible exact HR195_7.out) | (with_reducible refine Kd.C_alloc ?_ _) | (with_reducible refine Kd.C_drewN ?_ _) | (with_reducible refine Kd.C_drew ?_) | exact HR195_7.out)) hb); have n4_ := Aside0.mk (Kept.below (S := (fun k_ => P2_ k_)) (by repeat (first | (with_reducible first | exact HK.out | apply Kept.alloc | apply Kept.drewN | apply Kept.drew | refine Kept.setCell ?_ (.inr GW191.out) _) | exact HK.out)) hb); have n5_ := Aside0.mk (below_step (by repeat (first | (with_reducible first | exact HB.out | apply below_alloc | apply pw_below_drewN | apply below_drew1 | refine below_set ?_ GE191.out) | exact HB.out)) hb); clear HO194; clear BK191; clear HR195_7; clear HK; clear HB; have HO194 := n0_; have HO198 := n1_; have BK191 := n2_; have HR195_7 := n3_; have HK := n4_; have HB := n5_; clear n0_ n1_ n2_ n3_ n4_ n5_; (try clear hb); (try clear hb2); (try clear hk); (try clear hi); (try clear ho0)))
          go_loopg [2, 10] k (fun kq v2 v10 w' => ∃ (x2_1 : List Int) (x10_1 : Int), v10 = .int .i64 x10_1 ∧ Aside0 (astrolaberef04_Tree.l0 kq x2_1 a3 t196 x10_1 l0_0 l0_1 = some r) ∧ Aside0 (kq ≤ k) ∧ Aside0 (Kd.R (Kd.int .i64) 3 w' w0.heap.size (fun k_ => (P2_ k_ ∨ w.heap.size ≤ k_) ∧ some k_ ≠ (v197 : Value).ownBlock) v2 x2_1) ∧ Aside0 (Kd.R (Kd.int .i64) 3 w' w0.heap.size (fun k_ => (P2_ k_ ∨ w.heap.size ≤ k_) ∧ some k_ ≠ (v2 : Value).ownBlock) v197 t196) ∧ Aside0 (w'.heap[gb191]? = some (.cells #[(.slice A0_0 l0_0.length c0_0), (.slice (some ad195) l0_1.length c0_1)] 25 (0, 0))) ∧ Aside0 (Kept w w' (fun k_ => P2_ k_)) ∧ Aside0 (Below w0.heap.size w0 w'))
          case atStart => exact ⟨(y192), (0), (by first | rfl | (simp; done) | (simp [*]; done)), H', ⟨Nat.le_refl _⟩, ⟨by (with_reducible repeat (first | apply Kd.R_alloc | apply Kd.R_drewN | apply Kd.R_drew)); exact HO194.out⟩, ⟨by (with_reducible repeat (first | apply Kd.R_alloc | apply Kd.R_drewN | apply Kd.R_drew)); exact Kd.R_mono HO198.out (fun _ hk => ⟨hk.1.1, hk.2⟩)⟩, ⟨by (with_reducible repeat (first | refine blk_drewN ?_ _ | refine blk_drew ?_ | refine blk_alloc ?_ _)); exact BK191.out⟩, ⟨by repeat (first | (with_reducible first | exact HK.out | apply Kept.alloc | apply Kept.drewN | apply Kept.drew | refine Kept.setCell ?_ (.inr GW191.out) _) | exact HK.out)⟩, ⟨by repeat (first | (with_reducible first | exact HB.out | apply below_alloc | apply pw_below_drewN | apply below_drew1 | refine below_set ?_ GE191.out) | exact HB.out)⟩⟩
          case round =>
            clear H'
            try clear c1
            try clear p1
            try clear q1
            try clear hx1
            try clear p2
            try clear c5
            try clear c5b0
            try clear c8
            try clear c9
            try clear c9b0
            try clear c10
            try clear c10b0
            try clear c11
            try clear hcz15_0
            try clear hcz15_1
            try clear hfz15_0
            try clear hfz15_1
            try clear hx195_0
            try clear hx195_1
            try clear hx195_2
            try clear hx195_3
            try clear hx195_4
            try clear hx195_5
            try clear hx195_6
            try clear hx195_7
            try clear hx195_8
            try clear p195
            try clear q195
            obtain ⟨x2_1, x10_1, rfl, HA, HK1, HO_2, HO_9, BK191, HK, HB⟩ := hrel
            cases gk with
            | zero => exact absurd HA.out (by simp [astrolaberef04_Tree.l0])
            | succ k1 =>
              have H := HA.out
              clear HA
              simp only [astrolaberef04_Tree.l0] at H
              by_cases c17 : x10_1 < (t196.length : Int)
              · rw [if_pos c17] at H
                have c17b0 : decide (x10_1 < (t196.length : Int)) = true := decide_eq_true c17
                clear c17
                by_cases c18 : 0 ≤ x10_1
                · rw [if_pos c18] at H
                  have c18b0 : decide (0 ≤ x10_1) = true := decide_eq_true c18
                  clear c18
                  replace H := Option.bind_eq_some_iff.mp H
                  obtain ⟨t200, A190, H⟩ := H
                  replace H : (astrolaberef04_Tree.l0 k1 t200 a3 t196 (wrap64 (x10_1 + 1)) l0_0 l0_1) = some r := H
                  have A19 := Aside0.mk A190
                  clear A190
                  have H' := Aside0.mk H
                  clear H
                  obtain ⟨Ao20, co20, eo20⟩ := Kd.R_slice HO_9.out
                  subst eo20
                  try go_wp2
                  have n0_ := Aside0.mk (Kd.R_drew HO_2.out)
                  have n1_ := Aside0.mk (Kd.R_drew HO_9.out)
                  have n2_ := Aside0.mk (blk_drew BK191.out)
                  have n3_ := Aside0.mk (Kept.drew HK.out)
                  have n4_ := Aside0.mk (below_drew1 HB.out)
                  clear HO_2
                  clear HO_9
                  clear BK191
                  clear HK
                  clear HB
                  have HO_2 := n0_
                  have HO_9 := n1_
                  have BK191 := n2_
                  have HK := n3_
                  have HB := n4_
                  clear n0_ n1_ n2_ n3_ n4_
                  have p199 : 0 ≤ (x10_1 : Int) := of_decide_eq_true (by first | (with_reducible assumption) | assumption)
                  have q199 : x10_1 < (t196.length : Int) := of_decide_eq_true (by first | (with_reducible assumption) | assumption)
                  obtain ⟨ad199, e199, hx199_0⟩ := Kd.at_int (Kd.R_reads' HO_9.out).2.2 x10_1 p199 q199
                  cases e199
                  replace p199 := eq_true p199
                  replace q199 := eq_true q199
                  obtain ⟨Ao22, co22, eo22⟩ := Kd.R_slice HO_2.out
                  (first | subst eo22 | (injection eo22 with f1_ f2_ f3_; have f4_ := f1_.symm; have f5_ := f3_.symm; clear f1_ f2_ f3_; subst f4_; subst f5_))
                  refine start_ (n := 9) (S := fun w' => w'.cell? ⟨gb191, 0, none⟩ = some (.slice A0_0 l0_0.length c0_0) ∧ w'.cell? ⟨gb191, 1, none⟩ = some (.slice (some ad195) l0_1.length c0_1) ∧ w'.cell? (ad199.add (x10_1).toNat) = some (.int .i64 (rd t196 x10_1))) (ds := []) #[false, false, false, false, false, false, false, false, false] (by kernel_rfl) rfl rfl ⟨(blk_cell BK191.out 0).trans rfl, (blk_cell BK191.out 1).trans rfl, hx199_0⟩ (fun hHeld => ?_); refine with_tabW astrolaberef04_Tree.tab8 astrolaberef04_Tree.bits8 (fun HT_ HW_ => ?_)
                  generalize wr.drew = w21 at HO_2 HO_9 BK191 HK HB hx199_0 hHeld ⊢
                  refine pure_ (i := 1) (N := some 33) (v := ?_) (a' := ?_) #[false, true, false, false, false, false, false, false, false] rfl rfl (any_of HT_.out (by kernel_rfl)) (fun _ _ _ h => h) (Or.inl ⟨by rfl, ?_⟩) ?_ ?_
                  rotate_left
                  · intro w'
                    go_simp
                    with_reducible rfl
                  rotate_left
                  · simp only [Act.put, List.setIfInBounds_toArray, List.set_cons_zero, List.set_cons_succ, i64_w, i32_w]
                    rfl
                  refine pure_ (i := 2) (N := some 34) (v := ?_) (a' := ?_) #[false, true, true, false, false, false, false, false, false] rfl rfl (any_of HT_.out (by kernel_rfl)) (fun _ _ _ h => h) (Or.inl ⟨by rfl, ?_⟩) ?_ ?_
                  rotate_left
                  · intro w'
                    go_simp
                    with_reducible rfl
                  rotate_left
                  · simp only [Act.put, List.setIfInBounds_toArray, List.set_cons_zero, List.set_cons_succ, i64_w, i32_w]
                    rfl
                  refine pure_ (i := 3) (N := some 35) (v := ?_) (a' := ?_) #[false, true, true, true, false, false, false, false, false] rfl rfl (any_of HT_.out (by kernel_rfl)) (fun _ _ _ h => h) (Or.inl ⟨by rfl, ?_⟩) ?_ ?_
                  rotate_left
                  · intro w'
                    go_simp
                    with_reducible rfl
                  rotate_left
                  · simp only [Act.put, List.setIfInBounds_toArray, List.set_cons_zero, List.set_cons_succ, i64_w, i32_w]
                    rfl
                  refine pure_ (i := 5) (N := some 37) (v := ?_) (a' := ?_) #[false, true, true, true, false, true, false, false, false] rfl rfl (any_of HT_.out (by kernel_rfl)) (fun _ _ _ h => h) (Or.inl ⟨by rfl, ?_⟩) ?_ ?_
                  rotate_left
                  · intro w'
                    go_simp
                    with_reducible rfl
                  rotate_left
                  · simp only [Act.put, List.setIfInBounds_toArray, List.set_cons_zero, List.set_cons_succ, i64_w, i32_w]
                    rfl
                  refine pure_ (i := 6) (N := some 38) (v := ?_) (a' := ?_) #[false, true, true, true, false, true, true, false, false] rfl rfl (any_of HT_.out (by kernel_rfl)) (fun _ _ _ h => h) (Or.inl ⟨by rfl, ?_⟩) ?_ ?_
                  rotate_left
                  · intro w'
                    go_simp
                    with_reducible rfl
                  rotate_left
                  · simp only [Act.put, List.setIfInBounds_toArray, List.set_cons_zero, List.set_cons_succ, i64_w, i32_w]
                    rfl
                  refine take_ (i := 0) (N := some 32) (v := ?_) (a' := ?_) #[true, true, true, true, false, true, true, false, false] rfl rfl (take_ofW HT_.out HW_.out (by kernel_rfl)) (fun _ _ _ h => h) (Or.inl ⟨by rfl, ?_⟩) hHeld ?_ ?_
                  rotate_left
                  · rintro w' ⟨s0, s1, s2⟩
                    go_simp
                    with_reducible rfl
                  rotate_left
                  · simp only [Act.put, List.setIfInBounds_toArray, List.set_cons_zero, List.set_cons_succ, i64_w, i32_w]
                    rfl
                  refine take_ (i := 4) (N := some 36) (v := ?_) (a' := ?_) #[true, true, true, true, true, true, true, false, false] rfl rfl (take_ofW HT_.out HW_.out (by kernel_rfl)) (fun _ _ _ h => h) (Or.inl ⟨by rfl, ?_⟩) hHeld ?_ ?_
                  rotate_left
                  · rintro w' ⟨s0, s1, s2⟩
                    go_simp
                    with_reducible rfl
                  rotate_left
                  · simp only [Act.put, List.setIfInBounds_toArray, List.set_cons_zero, List.set_cons_succ, i64_w, i32_w]
                    rfl
                  refine one_ (i := 7) (N := some 39) #[true, true, true, true, true, true, true, true, false] rfl rfl (one_of HT_.out (by kernel_rfl)) (by decide) (fun K hK => ?_)
                  refine goes_ Try.func17 (by kernel_rfl) rfl #[.agg #[.slice A0_0 l0_0.length c0_0, .slice (some ad195) l0_1.length c0_1], .int .i64 (rd t196 x10_1), .slice Ao22 x2_1.length co22, .int .i64 a3] (by rfl) rfl rfl (by (try simp only [List.map_toArray, List.map_cons, List.map_nil]); first | done | rfl | (simp only [List.length_drop, List.length_take]; rfl)) ?_
                  with_reducible refine (ih k1 (by have := HK1.out; omega) _ _ l0_0 _ _ l0_1 (rd t196 x10_1) (fun k_ => some k_ = (.slice Ao22 x2_1.length co22 : Value).ownBlock) (.slice Ao22 x2_1.length co22) x2_1 a3 t200 w0 _ ?side1 ?side2 ?side3 ?side4 ?side5 ?side6 A19.out).mono ?_
                  (case side1 => repeat (first | (with_reducible first | exact HB.out | apply below_alloc | apply pw_below_drewN | apply below_drew1 | refine below_set ?_ GE191.out) | exact HB.out))
                  (case side2 => exact Kd.C_kept_call HR0_0.out (by repeat (first | (with_reducible first | exact HK.out | apply Kept.alloc | apply Kept.drewN | apply Kept.drew | refine Kept.setCell ?_ (.inr GW191.out) _) | exact HK.out)) (fun k_ hs_ => (fun e_ => (HO_2.out.1 k_ e_.symm).1) hs_))
                  (case side3 => exact HC0_0.out)
                  (case side4 => exact Kd.C_kept_call HR0_1.out (by repeat (first | (with_reducible first | exact HK.out | apply Kept.alloc | apply Kept.drewN | apply Kept.drew | refine Kept.setCell ?_ (.inr GW191.out) _) | exact HK.out)) (fun k_ hs_ => (fun e_ => (HO_2.out.1 k_ e_.symm).1) hs_))
                  (case side5 => exact HC0_1.out)
                  (case side6 => exact Kd.R_tight rfl HO_2.out)
                  rintro e w23 ⟨v201, rfl, ho0, hb, hkp⟩
                  have HS2_ := cell_kept (hHeld.2.2) hkp (by first | (rw [add_block]; exact (fun hs_ => (((HO_9.out).1 _ rfl).2) hs_)) | (show ¬ _; simp only [add_block]; exact (fun hs_ => (((HO_9.out).1 _ rfl).2) hs_)) | exact (fun hs_ => (((HO_9.out).1 _ rfl).2) hs_))
                  refine ⟨_, rfl, ?_⟩
                  have n0_ := Aside0.mk (Kd.R_mono (ok' := fun k_ => (P2_ k_ ∨ w.heap.size ≤ k_) ∧ some k_ ≠ (v201 : Value).ownBlock) (Kd.R_keptB (HO_9.out) hkp (fun k_ hk_ hs_ => (hk_.2) hs_)) (fun k_ hk_ => ⟨hk_.1.1, fun e_ => Or.elim (ho0.1 k_ e_.symm) (fun hs_ => hk_.2.1 hs_) (fun hn_ => Nat.not_le.2 hk_.2.2 hn_)⟩))
                  have n1_ := Aside0.mk (blk_kept (by (with_reducible repeat (first | refine blk_drewN ?_ _ | refine blk_drew ?_ | refine blk_alloc ?_ _)); exact BK191.out) hkp (fun hs_ => (fun e_ => (Kd.R_ne HO_2.out BK191.out (by decide)) e_) hs_))
                  have n2_ := Aside0.mk (Kd.R_mono (ok' := fun k_ => (P2_ k_ ∨ w.heap.size ≤ k_) ∧ some k_ ≠ (.slice (some ad199) t196.length co20 : Value).ownBlock) ho0 (fun k_ hk_ => ⟨Or.elim hk_ (fun hs_ => (HO_2.out.1 k_ (hs_).symm).1) (fun hn_ => (.inr (Nat.le_trans (by first | exact HK.out.1 | exact (show Kept w _ (fun k_ => P2_ k_) from by repeat (first | (with_reducible first | exact HK.out | apply Kept.alloc | apply Kept.drewN | apply Kept.drew | refine Kept.setCell ?_ (.inr GW191.out) _) | exact HK.out)).1) hn_))), Or.elim hk_ (fun hs_ => fun e_ => (((HO_9.out).1 k_ e_.symm).2) hs_) (fun hn_ => (Kd.fresh' (Kd.R_lt (by (with_reducible repeat (first | apply Kd.R_alloc | apply Kd.R_drewN | apply Kd.R_drew)); exact HO_9.out)) k_ hn_))⟩))
                  have n3_ := Aside0.mk (Kept.then_ (S := (fun k_ => P2_ k_)) (by repeat (first | (with_reducible first | exact HK.out | apply Kept.alloc | apply Kept.drewN | apply Kept.drew | refine Kept.setCell ?_ (.inr GW191.out) _) | exact HK.out)) hkp (fun k_ hs_ => (fun e_ => (HO_2.out.1 k_ e_.symm).1) hs_))
                  have n4_ := Aside0.mk (hb)
                  clear HO_9
                  clear BK191
                  clear HK
                  clear HB
                  clear HO_2
                  have HO_9 := n0_
                  have BK191 := n1_
                  have HO202 := n2_
                  have HK := n3_
                  have HB := n4_
                  clear n0_ n1_ n2_ n3_ n4_
                  (try clear hb)
                  (try clear hkp)
                  (try clear ho0)
                  refine hK.out _ _ ⟨(blk_cell BK191.out 0).trans rfl, (blk_cell BK191.out 1).trans rfl, HS2_⟩ (fun hHeld => ?_)
                  clear hK K
                  refine norm_ (a' := ?_) ?_ ?_
                  rotate_left
                  · show Act.put _ (some 39) _ = _
                    simp only [Act.put, List.setIfInBounds_toArray, List.set_cons_zero, List.set_cons_succ, i64_w, i32_w]
                    rfl
                  refine pure_ (i := 8) (N := some 2) (v := ?_) (a' := ?_) #[true, true, true, true, true, true, true, true, true] rfl rfl (any_of HT_.out (by kernel_rfl)) (fun _ _ _ h => h) (Or.inl ⟨by rfl, ?_⟩) ?_ ?_
                  rotate_left
                  · intro w'
                    go_simp
                    with_reducible rfl
                  rotate_left
                  · simp only [Act.put, List.setIfInBounds_toArray, List.set_cons_zero, List.set_cons_succ, i64_w, i32_w]
                    rfl
                  refine done_ (done_of HT_.out (by kernel_rfl)) ?_
                  try go_wp2
                  go_roundg k1
                  case measure => have := HK1.out; omega
                  case rel => exact ⟨(t200), (wrap64 (x10_1 + 1)), (by first | rfl | (simp; done) | (simp [*]; done)), H', ⟨by have := HK1.out; omega⟩, ⟨by (with_reducible repeat (first | apply Kd.R_alloc | apply Kd.R_drewN | apply Kd.R_drew)); exact HO202.out⟩, ⟨by (with_reducible repeat (first | apply Kd.R_alloc | apply Kd.R_drewN | apply Kd.R_drew)); exact HO_9.out⟩, ⟨by (with_reducible repeat (first | refine blk_drewN ?_ _ | refine blk_drew ?_ | refine blk_alloc ?_ _)); exact BK191.out⟩, ⟨by repeat (first | (with_reducible first | exact HK.out | apply Kept.alloc | apply Kept.drewN | apply Kept.drew | refine Kept.setCell ?_ (.inr GW191.out) _) | exact HK.out)⟩, ⟨by repeat (first | (with_reducible first | exact HB.out | apply below_alloc | apply pw_below_drewN | apply below_drew1 | refine below_set ?_ GE191.out) | exact HB.out)⟩⟩
                · rw [if_neg c18] at H
                  exact absurd H (by simp)
              · rw [if_neg c17] at H
                have c17b0 : decide (x10_1 < (t196.length : Int)) = false := decide_eq_false c17
                clear c17
                obtain rfl := Option.some.inj H
                obtain ⟨Ao24, co24, eo24⟩ := Kd.R_slice HO_9.out
                subst eo24
                go_wp2
                go_ret
                exact ⟨_, by first | rfl | (simp [errW_none, errW_some] <;> rfl) | (simp [*, errW_none, errW_some] <;> rfl), by (with_reducible repeat (first | apply Kd.R_alloc | apply Kd.R_drewN | apply Kd.R_drew)); exact Kd.R_mono HO_2.out (fun _ hk => hk.1), by repeat (first | (with_reducible first | exact HB.out | apply below_alloc | apply pw_below_drewN | apply below_drew1 | refine below_set ?_ GE191.out) | exact HB.out), by repeat (first | (with_reducible first | exact HK.out | apply Kept.alloc | apply Kept.drewN | apply Kept.drew | refine Kept.setCell ?_ (.inr GW191.out) _) | exact HK.out)⟩
        · rw [if_neg c10] at H
          exact absurd H (by simp)
      · rw [if_neg c9] at H
        exact absurd H (by simp)
    · rw [if_neg c8] at H
      exact absurd H (by simp)

/-! ### astrolaberef04_Deep: function 18 -/
mutual
noncomputable def astrolaberef04_Deep.l0 : Nat → List Int → Int → List (S45) → List (S31) → Option (List Int)
  | 0, _, _, _, _ => none
  | k + 1, x3, x4, x204000, x204001 => if x4 < (x204001.length : Int) then (if 0 ≤ x4 then ((astrolaberef04_Parts.f k ((rd_T31 x204001 x4).f0) ((rd_T31 x204001 x4).f1) ((rd_T31 x204001 x4).f2) ((rd_T31 x204001 x4).f3) ((rd_T31 x204001 x4).f4) ((rd_T31 x204001 x4).f5) ((rd_T31 x204001 x4).f6) ((rd_T31 x204001 x4).f7) ((rd_T31 x204001 x4).f8)).bind fun t205 => (astrolaberef04_Deep.l1 k x3 x4 0 t205 0 x204000 x204001)) else (none)) else (some x3)
noncomputable def astrolaberef04_Deep.l1 : Nat → List Int → Int → Int → List Int → Int → List (S45) → List (S31) → Option (List Int)
  | 0, _, _, _, _, _, _, _ => none
  | k + 1, x3, x4, x5, x6, x7, x204000, x204001 => if x7 < (x6.length : Int) then (if 0 ≤ x7 then (if 0 ≤ (rd x6 x7) then (if (rd x6 x7) < (x3.length : Int) then (if (rd x3 (rd x6 x7)) > x5 then (astrolaberef04_Deep.l1 k x3 x4 (rd x3 (rd x6 x7)) x6 (wrap64 (x7 + 1)) x204000 x204001) else (astrolaberef04_Deep.l1 k x3 x4 x5 x6 (wrap64 (x7 + 1)) x204000 x204001)) else (none)) else (none)) else (none)) else (if x3.length < 17592186044416 then (astrolaberef04_Deep.l0 k (x3 ++ [wrap64 (x5 + 1)]) (wrap64 (x4 + 1)) x204000 x204001) else (none))
end
noncomputable def astrolaberef04_Deep.f (k : Nat) (l0_0 : List (S45)) (l0_1 : List (S31)) : Option (List Int) := astrolaberef04_Deep.l0 k ([] : List Int) 0 l0_0 l0_1
theorem astrolaberef04_Deep.mono_l : ∀ k, (∀ y0 y1 y2 y3, LeO (astrolaberef04_Deep.l0 k y0 y1 y2 y3) (astrolaberef04_Deep.l0 (k + 1) y0 y1 y2 y3)) ∧ (∀ y0 y1 y2 y3 y4 y5 y6, LeO (astrolaberef04_Deep.l1 k y0 y1 y2 y3 y4 y5 y6) (astrolaberef04_Deep.l1 (k + 1) y0 y1 y2 y3 y4 y5 y6))
  | 0 => ⟨fun _ _ _ _ r h => by simp [astrolaberef04_Deep.l0] at h, fun _ _ _ _ _ _ _ r h => by simp [astrolaberef04_Deep.l1] at h⟩
  | k + 1 => by
    obtain ⟨ih0, ih1⟩ := astrolaberef04_Deep.mono_l k
    refine ⟨?_, ?_⟩
    · intro y0 y1 y2 y3
      unfold astrolaberef04_Deep.l0
      repeat' first
      | (with_reducible exact ih0 _ _ _ _)
      | (with_reducible exact ih1 _ _ _ _ _ _ _)
      | (with_reducible exact astrolaberef04_Parts.mono _ _ _ _ _ _ _ _ _ _)
      | (with_reducible exact LeO.refl _)
      | (with_reducible exact LeO.none _)
      | (with_reducible refine LeO.ite ?_ ?_)
      | (with_reducible refine LeO.bind ?_ (fun _ => ?_))
      | exact ih0 _ _ _ _
      | exact ih1 _ _ _ _ _ _ _
      | exact astrolaberef04_Parts.mono _ _ _ _ _ _ _ _ _ _
      | exact LeO.none _
      | refine LeO.ite ?_ ?_
      | refine LeO.bind ?_ (fun _ => ?_)
    · intro y0 y1 y2 y3 y4 y5 y6
      unfold astrolaberef04_Deep.l1
      repeat' first
      | (with_reducible exact ih0 _ _ _ _)
      | (with_reducible exact ih1 _ _ _ _ _ _ _)
      | (with_reducible exact astrolaberef04_Parts.mono _ _ _ _ _ _ _ _ _ _)
      | (with_reducible exact LeO.refl _)
      | (with_reducible exact LeO.none _)
      | (with_reducible refine LeO.ite ?_ ?_)
      | (with_reducible refine LeO.bind ?_ (fun _ => ?_))
      | exact ih0 _ _ _ _
      | exact ih1 _ _ _ _ _ _ _
      | exact astrolaberef04_Parts.mono _ _ _ _ _ _ _ _ _ _
      | exact LeO.none _
      | refine LeO.ite ?_ ?_
      | refine LeO.bind ?_ (fun _ => ?_)
theorem astrolaberef04_Deep.mono : ∀ a0 a1 k, LeO (astrolaberef04_Deep.f k a0 a1) (astrolaberef04_Deep.f (k + 1) a0 a1) := by
  intro a0 a1 k
  obtain ⟨ih0, ih1⟩ := astrolaberef04_Deep.mono_l k
  unfold astrolaberef04_Deep.f
  repeat' first
      | (with_reducible exact ih0 _ _ _ _)
      | (with_reducible exact ih1 _ _ _ _ _ _ _)
      | (with_reducible exact astrolaberef04_Parts.mono _ _ _ _ _ _ _ _ _ _)
      | (with_reducible exact LeO.refl _)
      | (with_reducible exact LeO.none _)
      | (with_reducible refine LeO.ite ?_ ?_)
      | (with_reducible refine LeO.bind ?_ (fun _ => ?_))
      | exact ih0 _ _ _ _
      | exact ih1 _ _ _ _ _ _ _
      | exact astrolaberef04_Parts.mono _ _ _ _ _ _ _ _ _ _
      | exact LeO.none _
      | refine LeO.ite ?_ ?_
      | refine LeO.bind ?_ (fun _ => ?_)
set_option maxHeartbeats 8000000 in
set_option maxRecDepth 100000 in
theorem astrolaberef04_Deep.calls (k : Nat) (A0_0 : Option Addr) (c0_0 : Nat) (l0_0 : List (S45)) (A0_1 : Option Addr) (c0_1 : Nat) (l0_1 : List (S31)) (r : List Int) (w : World) (hr0_0 : Kd.C k45 w A0_0 l0_0.length l0_0) (hc0_0 : l0_0.length ≤ c0_0) (hr0_1 : Kd.C k31 w A0_1 l0_1.length l0_1) (hc0_1 : l0_1.length ≤ c0_1) (h : astrolaberef04_Deep.f k l0_0 l0_1 = some r) :
    Calls Try.prog 18 #[.agg #[.slice A0_0 l0_0.length c0_0, .slice A0_1 l0_1.length c0_1]] w fun e w' => ∃ v0_ : Value, e = .returned (v0_) ∧ Kd.R (Kd.int .i64) 3 w' w.heap.size (fun _ => True) v0_ r ∧ Below w.heap.size w w' := by
  have hu25 := Try.underlying25
  have hu31 := Try.underlying31
  have HR0_0 := Aside0.mk hr0_0
  have HC0_0 := Aside0.mk hc0_0
  clear hr0_0 hc0_0
  have HR0_1 := Aside0.mk hr0_1
  have HC0_1 := Aside0.mk hc0_1
  clear hr0_1 hc0_1
  have HB := Aside0.mk (Below.refl w.heap.size w)
  have H : (astrolaberef04_Deep.l0 k ([] : List Int) 0 l0_0 l0_1) = some r := h
  clear h
  have H' := Aside0.mk H
  clear H
  go_enter Try.func18, Try.ntmps18
  go_wp2_with (first | ((with_reducible refine gate_dst (N := 1) rfl ?_); refine box_event ?hg (N := 1) ?hd (cs := #[.slice A0_0 l0_0.length c0_0, .slice A0_1 l0_1.length c0_1]) (t := 25) ?hr ?_; (case hd => rfl); (case hg => rfl); (case hr => first | (go_simp; done) | (go_simp; rfl)); intro gb203 hg w2 hbox hb; have n0_ := Aside0.mk (below_step (by repeat (first | (with_reducible first | exact HB.out | apply below_alloc | apply pw_below_drewN | apply below_drew1) | exact HB.out)) hb); have n1_ := Aside0.mk (hbox); have n2_ := Aside0.mk ((by rw [hg]; exact (below_size (by repeat (first | (with_reducible first | exact HB.out | apply below_alloc | apply pw_below_drewN | apply below_drew1) | exact HB.out))) : w.heap.size ≤ gb203)); have n3_ := Aside0.mk ((by rw [hg]; exact (below_size (by repeat (first | (with_reducible first | exact HB.out | apply below_alloc | apply pw_below_drewN | apply below_drew1) | exact HB.out))) : w.heap.size ≤ gb203)); clear HB; have HB := n0_; have BK203 := n1_; have GW203 := n2_; have GE203 := n3_; clear n0_ n1_ n2_ n3_; clear hb hbox hg))
  go_loopg [3, 4] k (fun kq v3 v4 w' => ∃ (x3_1 : List Int) (x4_1 : Int), v4 = .int .i64 x4_1 ∧ Aside0 (astrolaberef04_Deep.l0 kq x3_1 x4_1 l0_0 l0_1 = some r) ∧ Aside0 (kq ≤ k) ∧ Aside0 (Kd.R (Kd.int .i64) 3 w' w.heap.size (fun _ => True) v3 x3_1) ∧ Aside0 (w'.heap[gb203]? = some (.cells #[(.slice A0_0 l0_0.length c0_0), (.slice A0_1 l0_1.length c0_1)] 25 (0, 0))) ∧ Aside0 (Below w.heap.size w w'))
  case atStart => exact ⟨(([] : List Int)), (0), (by first | rfl | (simp; done) | (simp [*]; done)), H', ⟨Nat.le_refl _⟩, ⟨by first | exact Kd.R_nil _ _ _ _ _ | exact Kd.N_nil _ _ _ _ _ | exact Kd.V_nil _ _ _ _ _ | exact Kd.Q_nil _ _ _ _ _ | exact Kd.S_nil _ _ _ _ _⟩, ⟨by (with_reducible repeat (first | refine blk_drewN ?_ _ | refine blk_drew ?_ | refine blk_alloc ?_ _)); exact BK203.out⟩, ⟨by repeat (first | (with_reducible first | exact HB.out | apply below_alloc | apply pw_below_drewN | apply below_drew1 | refine below_set ?_ GE203.out) | exact HB.out)⟩⟩
  case round =>
    clear H'
    try clear c1
    try clear p2
    obtain ⟨x3_1, x4_1, rfl, HA, HK1, HO_3, BK203, HB⟩ := hrel
    cases gk with
    | zero => exact absurd HA.out (by simp [astrolaberef04_Deep.l0])
    | succ k1 =>
      have H := HA.out
      clear HA
      simp only [astrolaberef04_Deep.l0] at H
      by_cases c3 : x4_1 < (l0_1.length : Int)
      · rw [if_pos c3] at H
        have c3b0 : decide (x4_1 < (l0_1.length : Int)) = true := decide_eq_true c3
        clear c3
        by_cases c4 : 0 ≤ x4_1
        · rw [if_pos c4] at H
          have c4b0 : decide (0 ≤ x4_1) = true := decide_eq_true c4
          clear c4
          replace H := Option.bind_eq_some_iff.mp H
          obtain ⟨t205, A50, H⟩ := H
          replace H : (astrolaberef04_Deep.l1 k1 x3_1 x4_1 0 t205 0 l0_0 l0_1) = some r := H
          have A5 := Aside0.mk A50
          clear A50
          have H' := Aside0.mk H
          clear H
          have hcz6_0 : wr.cell? ⟨gb203, 0, none⟩ = some (.slice A0_0 l0_0.length c0_0) := (blk_cell BK203.out 0).trans rfl
          have hcz6_1 : wr.cell? ⟨gb203, 1, none⟩ = some (.slice A0_1 l0_1.length c0_1) := (blk_cell BK203.out 1).trans rfl
          have hfz6_0 := blk_frozen BK203.out 0
          have hfz6_1 := blk_frozen BK203.out 1
          have p204 : 0 ≤ (x4_1 : Int) := of_decide_eq_true (by first | (with_reducible assumption) | assumption)
          have q204 : x4_1 < (l0_1.length : Int) := of_decide_eq_true (by first | (with_reducible assumption) | assumption)
          obtain ⟨ad204, A204_7, c204_7, e204, hx204_0, hx204_1, hx204_2, hx204_3, hx204_4, hx204_5, hx204_6, hx204_7, hx204_8, hl204_7, hi204_7⟩ := at_T31 HR0_1.out x4_1 p204 q204
          cases e204
          replace hx204_0 := (HB.out.cell (World.block_lt_of_cell? w _ hx204_0)).trans hx204_0
          replace hx204_1 := (HB.out.cell (World.block_lt_of_cell? w _ hx204_1)).trans hx204_1
          replace hx204_2 := (HB.out.cell (World.block_lt_of_cell? w _ hx204_2)).trans hx204_2
          replace hx204_3 := (HB.out.cell (World.block_lt_of_cell? w _ hx204_3)).trans hx204_3
          replace hx204_4 := (HB.out.cell (World.block_lt_of_cell? w _ hx204_4)).trans hx204_4
          replace hx204_5 := (HB.out.cell (World.block_lt_of_cell? w _ hx204_5)).trans hx204_5
          replace hx204_6 := (HB.out.cell (World.block_lt_of_cell? w _ hx204_6)).trans hx204_6
          replace hx204_7 := (HB.out.cell (World.block_lt_of_cell? w _ hx204_7)).trans hx204_7
          replace hx204_8 := (HB.out.cell (World.block_lt_of_cell? w _ hx204_8)).trans hx204_8
          have HR204_7 := Aside0.mk hi204_7
          have HC204_7 := Aside0.mk hl204_7
          clear hi204_7 hl204_7
          replace p204 := eq_true p204
          replace q204 := eq_true q204
          go_wp2_with (first | ((with_reducible refine gate_callee (f := 11) rfl ?_); refine goesL_ (some 20) rfl rfl Try.func11 (by kernel_rfl) rfl #[.agg #[.int .i64 ((rd_T31 l0_1 x4_1).f0), .int .i64 ((rd_T31 l0_1 x4_1).f1), .int .i64 ((rd_T31 l0_1 x4_1).f2), .int .i64 ((rd_T31 l0_1 x4_1).f3), .string ((rd_T31 l0_1 x4_1).f4), .string ((rd_T31 l0_1 x4_1).f5), .int .i64 ((rd_T31 l0_1 x4_1).f6), .slice A204_7 ((rd_T31 l0_1 x4_1).f7).length c204_7, .int .i64 ((rd_T31 l0_1 x4_1).f8)]] rfl (by (try simp only [List.map_toArray, List.map_cons, List.map_nil]); first | done | rfl | (simp only [List.length_drop, List.length_take]; rfl)) ?_; (with_reducible refine (astrolaberef04_Parts.calls k1 ((rd_T31 l0_1 x4_1).f0) ((rd_T31 l0_1 x4_1).f1) ((rd_T31 l0_1 x4_1).f2) ((rd_T31 l0_1 x4_1).f3) ((rd_T31 l0_1 x4_1).f4) ((rd_T31 l0_1 x4_1).f5) ((rd_T31 l0_1 x4_1).f6) _ _ ((rd_T31 l0_1 x4_1).f7) ((rd_T31 l0_1 x4_1).f8) t205 _ ?side1 ?side2 A5.out).mono ?_); (case side1 => repeat (first | exact (Kd.C_below HR204_7.out HB.out) | (with_reducible refine Kd.C_alloc ?_ _) | (with_reducible refine Kd.C_drewN ?_ _) | (with_reducible refine Kd.C_drew ?_))); (case side2 => exact HC204_7.out); rintro e w7 ⟨v206, rfl, ho0, hb⟩; refine ⟨_, rfl, ?_⟩; have n0_ := Aside0.mk (Kd.R_elder' (by (with_reducible repeat (first | apply Kd.R_alloc | apply Kd.R_drewN | apply Kd.R_drew)); exact HO_3.out) (Kd.R_base ho0) hb); have n1_ := Aside0.mk (Kd.R_lower (Kd.R_new' ho0 (Kd.R_lt (by (with_reducible repeat (first | apply Kd.R_alloc | apply Kd.R_drewN | apply Kd.R_drew)); exact HO_3.out))) (below_size (by repeat (first | (with_reducible first | exact HB.out | apply below_alloc | apply pw_below_drewN | apply below_drew1 | refine below_set ?_ GE203.out) | exact HB.out)))); have n2_ := Aside0.mk (blk_below (g := gb203) (o := .cells #[.slice A0_0 l0_0.length c0_0, .slice (some ad204) l0_1.length c0_1] 25 (0, 0)) (by (with_reducible repeat (first | refine blk_drewN ?_ _ | refine blk_drew ?_ | refine blk_alloc ?_ _)); exact BK203.out) hb); have n3_ := Aside0.mk (below_step (by repeat (first | (with_reducible first | exact HB.out | apply below_alloc | apply pw_below_drewN | apply below_drew1 | refine below_set ?_ GE203.out) | exact HB.out)) hb); clear HO_3; clear BK203; clear HB; have HO_3 := n0_; have HO207 := n1_; have BK203 := n2_; have HB := n3_; clear n0_ n1_ n2_ n3_; (try clear hb); (try clear hb2); (try clear hk); (try clear hi); (try clear ho0)))
          go_loopg [5, 7] k1 (fun kq v5 v7 w' => ∃ (x5_2 : Int) (x7_2 : Int), v5 = .int .i64 x5_2 ∧ v7 = .int .i64 x7_2 ∧ Aside0 (astrolaberef04_Deep.l1 kq x3_1 x4_1 x5_2 t205 x7_2 l0_0 l0_1 = some r) ∧ Aside0 (kq ≤ k1) ∧ Aside0 (Kd.R (Kd.int .i64) 3 w' w.heap.size (fun k_ => some k_ ≠ (v206 : Value).ownBlock) u3 x3_1) ∧ Aside0 (Kd.R (Kd.int .i64) 3 w' w.heap.size (fun k_ => some k_ ≠ (u3 : Value).ownBlock) v206 t205) ∧ Aside0 (w'.heap[gb203]? = some (.cells #[(.slice A0_0 l0_0.length c0_0), (.slice (some ad204) l0_1.length c0_1)] 25 (0, 0))) ∧ Aside0 (Below w.heap.size w w'))
          case atStart => exact ⟨(0), (0), (by first | rfl | (simp; done) | (simp [*]; done)), (by first | rfl | (simp; done) | (simp [*]; done)), H', ⟨Nat.le_refl _⟩, ⟨by (with_reducible repeat (first | apply Kd.R_alloc | apply Kd.R_drewN | apply Kd.R_drew)); exact Kd.R_mono HO_3.out (fun _ hk => hk.2)⟩, ⟨by (with_reducible repeat (first | apply Kd.R_alloc | apply Kd.R_drewN | apply Kd.R_drew)); exact Kd.R_mono HO207.out (fun _ hk => hk.2)⟩, ⟨by (with_reducible repeat (first | refine blk_drewN ?_ _ | refine blk_drew ?_ | refine blk_alloc ?_ _)); exact BK203.out⟩, ⟨by repeat (first | (with_reducible first | exact HB.out | apply below_alloc | apply pw_below_drewN | apply below_drew1 | refine below_set ?_ GE203.out) | exact HB.out)⟩⟩
          case round =>
            clear H'
            try clear c1
            try clear c2
            try clear p2
            try clear q2
            try clear hx2
            try clear c3
            try clear c3b0
            try clear c4
            try clear c4b0
            try clear hcz6_0
            try clear hcz6_1
            try clear hfz6_0
            try clear hfz6_1
            try clear hx204_0
            try clear hx204_1
            try clear hx204_2
            try clear hx204_3
            try clear hx204_4
            try clear hx204_5
            try clear hx204_6
            try clear hx204_7
            try clear hx204_8
            try clear p2
            try clear p204
            try clear q204
            obtain ⟨x5_2, x7_2, rfl, rfl, HA, HK2, HO_3, HO_6, BK203, HB⟩ := hrel
            cases gk with
            | zero => exact absurd HA.out (by simp [astrolaberef04_Deep.l1])
            | succ k2 =>
              have H := HA.out
              clear HA
              simp only [astrolaberef04_Deep.l1] at H
              by_cases c8 : x7_2 < (t205.length : Int)
              · rw [if_pos c8] at H
                have c8b0 : decide (x7_2 < (t205.length : Int)) = true := decide_eq_true c8
                clear c8
                by_cases c9 : 0 ≤ x7_2
                · rw [if_pos c9] at H
                  have c9b0 : decide (0 ≤ x7_2) = true := decide_eq_true c9
                  clear c9
                  by_cases c10 : 0 ≤ (rd t205 x7_2)
                  · rw [if_pos c10] at H
                    have c10b0 : decide (0 ≤ (rd t205 x7_2)) = true := decide_eq_true c10
                    clear c10
                    by_cases c11 : (rd t205 x7_2) < (x3_1.length : Int)
                    · rw [if_pos c11] at H
                      have c11b0 : decide ((rd t205 x7_2) < (x3_1.length : Int)) = true := decide_eq_true c11
                      clear c11
                      by_cases c12 : (rd x3_1 (rd t205 x7_2)) > x5_2
                      · rw [if_pos c12] at H
                        have c12b0 : decide (x5_2 < (rd x3_1 (rd t205 x7_2))) = true := decide_eq_true c12
                        clear c12
                        have H' := Aside0.mk H
                        clear H
                        obtain ⟨Ao13, co13, eo13⟩ := Kd.R_slice HO_6.out
                        subst eo13
                        have p208 : 0 ≤ (x7_2 : Int) := of_decide_eq_true (by first | (with_reducible assumption) | assumption)
                        have q208 : x7_2 < (t205.length : Int) := of_decide_eq_true (by first | (with_reducible assumption) | assumption)
                        obtain ⟨ad208, e208, hx208_0⟩ := Kd.at_int (Kd.R_reads' HO_6.out).2.2 x7_2 p208 q208
                        cases e208
                        replace p208 := eq_true p208
                        replace q208 := eq_true q208
                        obtain ⟨Ao14, co14, eo14⟩ := Kd.R_slice HO_3.out
                        subst eo14
                        have p209 : 0 ≤ ((rd t205 x7_2) : Int) := of_decide_eq_true (by first | (with_reducible assumption) | assumption)
                        have q209 : (rd t205 x7_2) < (x3_1.length : Int) := of_decide_eq_true (by first | (with_reducible assumption) | assumption)
                        obtain ⟨ad209, e209, hx209_0⟩ := Kd.at_int (Kd.R_reads' HO_3.out).2.2 (rd t205 x7_2) p209 q209
                        cases e209
                        replace p209 := eq_true p209
                        replace q209 := eq_true q209
                        have p210 : 0 ≤ (x7_2 : Int) := of_decide_eq_true (by first | (with_reducible assumption) | assumption)
                        have q210 : x7_2 < (t205.length : Int) := of_decide_eq_true (by first | (with_reducible assumption) | assumption)
                        obtain ⟨ad210, e210, hx210_0⟩ := Kd.at_int (Kd.R_reads' HO_6.out).2.2 x7_2 p210 q210
                        obtain rfl : ad208 = ad210 := (by injection e210)
                        replace p210 := eq_true p210
                        replace q210 := eq_true q210
                        have p211 : 0 ≤ ((rd t205 x7_2) : Int) := of_decide_eq_true (by first | (with_reducible assumption) | assumption)
                        have q211 : (rd t205 x7_2) < (x3_1.length : Int) := of_decide_eq_true (by first | (with_reducible assumption) | assumption)
                        obtain ⟨ad211, e211, hx211_0⟩ := Kd.at_int (Kd.R_reads' HO_3.out).2.2 (rd t205 x7_2) p211 q211
                        obtain rfl : ad209 = ad211 := (by injection e211)
                        replace p211 := eq_true p211
                        replace q211 := eq_true q211
                        go_wp2
                        go_roundg k2
                        case measure => have := HK1.out; have := HK2.out; omega
                        case rel => exact ⟨(rd x3_1 (rd t205 x7_2)), (wrap64 (x7_2 + 1)), (by first | rfl | (simp; done) | (simp [*]; done)), (by first | rfl | (simp; done) | (simp [*]; done)), H', ⟨by have := HK1.out; have := HK2.out; omega⟩, ⟨by (with_reducible repeat (first | apply Kd.R_alloc | apply Kd.R_drewN | apply Kd.R_drew)); exact HO_3.out⟩, ⟨by (with_reducible repeat (first | apply Kd.R_alloc | apply Kd.R_drewN | apply Kd.R_drew)); exact HO_6.out⟩, ⟨by (with_reducible repeat (first | refine blk_drewN ?_ _ | refine blk_drew ?_ | refine blk_alloc ?_ _)); exact BK203.out⟩, ⟨by repeat (first | (with_reducible first | exact HB.out | apply below_alloc | apply pw_below_drewN | apply below_drew1 | refine below_set ?_ GE203.out) | exact HB.out)⟩⟩
                      · rw [if_neg c12] at H
                        have c12b0 : decide (x5_2 < (rd x3_1 (rd t205 x7_2))) = false := decide_eq_false c12
                        clear c12
                        have H' := Aside0.mk H
                        clear H
                        obtain ⟨Ao15, co15, eo15⟩ := Kd.R_slice HO_6.out
                        subst eo15
                        have p208 : 0 ≤ (x7_2 : Int) := of_decide_eq_true (by first | (with_reducible assumption) | assumption)
                        have q208 : x7_2 < (t205.length : Int) := of_decide_eq_true (by first | (with_reducible assumption) | assumption)
                        obtain ⟨ad208, e208, hx208_0⟩ := Kd.at_int (Kd.R_reads' HO_6.out).2.2 x7_2 p208 q208
                        cases e208
                        replace p208 := eq_true p208
                        replace q208 := eq_true q208
                        obtain ⟨Ao16, co16, eo16⟩ := Kd.R_slice HO_3.out
                        subst eo16
                        have p209 : 0 ≤ ((rd t205 x7_2) : Int) := of_decide_eq_true (by first | (with_reducible assumption) | assumption)
                        have q209 : (rd t205 x7_2) < (x3_1.length : Int) := of_decide_eq_true (by first | (with_reducible assumption) | assumption)
                        obtain ⟨ad209, e209, hx209_0⟩ := Kd.at_int (Kd.R_reads' HO_3.out).2.2 (rd t205 x7_2) p209 q209
                        cases e209
                        replace p209 := eq_true p209
                        replace q209 := eq_true q209
                        go_wp2
                        go_roundg k2
                        case measure => have := HK1.out; have := HK2.out; omega
                        case rel => exact ⟨(x5_2), (wrap64 (x7_2 + 1)), (by first | rfl | (simp; done) | (simp [*]; done)), (by first | rfl | (simp; done) | (simp [*]; done)), H', ⟨by have := HK1.out; have := HK2.out; omega⟩, ⟨by (with_reducible repeat (first | apply Kd.R_alloc | apply Kd.R_drewN | apply Kd.R_drew)); exact HO_3.out⟩, ⟨by (with_reducible repeat (first | apply Kd.R_alloc | apply Kd.R_drewN | apply Kd.R_drew)); exact HO_6.out⟩, ⟨by (with_reducible repeat (first | refine blk_drewN ?_ _ | refine blk_drew ?_ | refine blk_alloc ?_ _)); exact BK203.out⟩, ⟨by repeat (first | (with_reducible first | exact HB.out | apply below_alloc | apply pw_below_drewN | apply below_drew1 | refine below_set ?_ GE203.out) | exact HB.out)⟩⟩
                    · rw [if_neg c11] at H
                      exact absurd H (by simp)
                  · rw [if_neg c10] at H
                    exact absurd H (by simp)
                · rw [if_neg c9] at H
                  exact absurd H (by simp)
              · rw [if_neg c8] at H
                have c8b0 : decide (x7_2 < (t205.length : Int)) = false := decide_eq_false c8
                clear c8
                by_cases c17 : x3_1.length < 17592186044416
                · rw [if_pos c17] at H
                  have LMc17 := Aside0.mk c17
                  clear c17
                  obtain ⟨y212, hy212⟩ : ∃ y_ : List Int, y_ = (x3_1 ++ [wrap64 (x5_2 + 1)]) := ⟨_, rfl⟩
                  replace H : (astrolaberef04_Deep.l0 k2 y212 (wrap64 (x4_1 + 1)) l0_0 l0_1) = some r := by first | (rw [hy212]; with_reducible exact H) | (have H2_ := (Option.bind_some _ _).symm.trans H; rw [hy212]; with_reducible exact H2_) | (have H2_ := (Option.bind_some _ _).symm.trans H; with_reducible exact H2_) | with_reducible exact H | (rw [hy212]; exact H) | exact H
                  have Ny212 := Aside0.mk hy212
                  clear hy212
                  have H' := Aside0.mk H
                  clear H
                  obtain ⟨Ao18, co18, eo18⟩ := Kd.R_slice HO_6.out
                  subst eo18
                  go_wp2_with (first | ((with_reducible refine gate_builtin (b := .append) (xs := #[.tmp 43, .tmp 46]) rfl ?_); at_builtin; refine Kd.R_append (Kd.int .i64) (w0 := w) w.heap.size rfl (.tmp 43) (.tmp 46) 28 3 (.int .i64 0) 8 rfl Try.underlying28 info3 rfl (by decide) (by omega) u3 x3_1 (wrap64 (x5_2 + 1)) [.int .i64 (wrap64 (x5_2 + 1))] (fun k_ => some k_ ≠ (.slice Ao18 t205.length co18 : Value).ownBlock) (fun _ => False) rfl rfl ?aP (fun _ hk => hk.elim) ?aF ?aO ?aB ?aS ?aL ?_; (case aP => exact rfl); (case aB => exact (by repeat (first | (with_reducible first | exact HB.out | apply below_alloc | apply pw_below_drewN | apply below_drew1 | refine below_set ?_ GE203.out) | exact HB.out))); (case aF => exact (fun k_ hk => Kd.fresh' (Kd.R_lt (by (with_reducible repeat (first | apply Kd.R_alloc | apply Kd.R_drewN | apply Kd.R_drew)); exact HO_6.out)) k_ hk)); (case aO => exact (by (with_reducible repeat (first | apply Kd.R_alloc | apply Kd.R_drewN | apply Kd.R_drew)); exact HO_3.out)); (case aS => exact (below_size (by repeat (first | (with_reducible first | exact HB.out | apply below_alloc | apply pw_below_drewN | apply below_drew1 | refine below_set ?_ GE203.out) | exact HB.out)))); (case aL => have := LMc17.out; omega); intro v213 w19 ho hb hg hat; rw [← Ny212.out] at ho; have n0_ := Aside0.mk (Kd.R_after (ok := (fun _ => True)) (by (with_reducible repeat (first | apply Kd.R_alloc | apply Kd.R_drewN | apply Kd.R_drew)); exact Kd.R_mono HO_6.out (fun _ hk => ⟨trivial, hk⟩)) hg hat); have n1_ := Aside0.mk (blk_grown (g := gb203) (o := .cells #[.slice A0_0 l0_0.length c0_0, .slice (some ad204) l0_1.length c0_1] 25 (0, 0)) (by (with_reducible repeat (first | refine blk_drewN ?_ _ | refine blk_drew ?_ | refine blk_alloc ?_ _)); exact BK203.out) hg (Kd.R_ne HO_3.out BK203.out (by decide))); have n2_ := Aside0.mk (hb); have n3_ := Aside0.mk (ho); clear HO_6; clear BK203; clear HB; clear HO_3; have HO_6 := n0_; have BK203 := n1_; have HB := n2_; have HO214 := n3_; clear n0_ n1_ n2_ n3_; clear ho hb hg hat))
                  go_roundg k2
                  case measure => have := HK1.out; have := HK2.out; omega
                  case rel => exact ⟨(y212), (wrap64 (x4_1 + 1)), (by first | rfl | (simp; done) | (simp [*]; done)), H', ⟨by have := HK1.out; have := HK2.out; omega⟩, ⟨by (with_reducible repeat (first | apply Kd.R_alloc | apply Kd.R_drewN | apply Kd.R_drew)); exact Kd.R_mono HO214.out (fun _ hk => trivial)⟩, ⟨by (with_reducible repeat (first | refine blk_drewN ?_ _ | refine blk_drew ?_ | refine blk_alloc ?_ _)); exact BK203.out⟩, ⟨by repeat (first | (with_reducible first | exact HB.out | apply below_alloc | apply pw_below_drewN | apply below_drew1 | refine below_set ?_ GE203.out) | exact HB.out)⟩⟩
                · rw [if_neg c17] at H
                  exact absurd H (by simp)
        · rw [if_neg c4] at H
          exact absurd H (by simp)
      · rw [if_neg c3] at H
        have c3b0 : decide (x4_1 < (l0_1.length : Int)) = false := decide_eq_false c3
        clear c3
        obtain rfl := Option.some.inj H
        have hcz20_0 : wr.cell? ⟨gb203, 0, none⟩ = some (.slice A0_0 l0_0.length c0_0) := (blk_cell BK203.out 0).trans rfl
        have hcz20_1 : wr.cell? ⟨gb203, 1, none⟩ = some (.slice A0_1 l0_1.length c0_1) := (blk_cell BK203.out 1).trans rfl
        have hfz20_0 := blk_frozen BK203.out 0
        have hfz20_1 := blk_frozen BK203.out 1
        go_wp2
        go_ret
        exact ⟨_, by first | rfl | (simp [errW_none, errW_some] <;> rfl) | (simp [*, errW_none, errW_some] <;> rfl), by (with_reducible repeat (first | apply Kd.R_alloc | apply Kd.R_drewN | apply Kd.R_drew)); exact HO_3.out, by repeat (first | (with_reducible first | exact HB.out | apply below_alloc | apply pw_below_drewN | apply below_drew1 | refine below_set ?_ GE203.out) | exact HB.out)⟩

end Go.Proofs.Ytediidkiedifcaa.Q
