-- written by myprint.py (wip/tools) out of the translation
import Derived.Test.YtediidkiedifcaaQ0
namespace Go.Proofs.Ytediidkiedifcaa.Q
open Go.RowKit Go.Proofs.YtediidkiedifcaaW.PrintWords Go.Proofs.YtediidkiedifcaaW.PrintLast Go.Proofs.YtediidkiedifcaaW.PrintMore
attribute [local go_sem] max2_int min2_int max_two min_two max_three min_three max_four min_four   -- for this text's walks alone
set_option linter.unusedVariables false
set_option linter.unusedSimpArgs false

/-! ### astrolabelaw04_Great: function 9 -/
mutual
def astrolabelaw04_Great.j0 : Nat → Bool → List (S45) → List (S31) → Option (Bool)
  | 0, _, _, _ => none
  | k + 1, x16, x138000, x138001 => if x16 = true then (some true) else (astrolabelaw04_Great.l0 k 0 0 x138000 x138001)
def astrolabelaw04_Great.l0 : Nat → Int → Int → List (S45) → List (S31) → Option (Bool)
  | 0, _, _, _, _ => none
  | k + 1, x3, x4, x138000, x138001 => if x4 < (x138001.length : Int) then (if 0 ≤ x4 then (astrolabelaw04_Great.l0 k (wrap64 ((wrap64 ((wrap64 (x3 + (((rd_T31 x138001 x4).f7).length : Int))) + (wrap64 ((((rd_T31 x138001 x4).f4).size : Int) / 100)))) + (wrap64 ((((rd_T31 x138001 x4).f5).size : Int) / 100)))) (wrap64 (x4 + 1)) x138000 x138001) else (none)) else (astrolabelaw04_Great.l1 k x3 0 x138000 x138001)
def astrolabelaw04_Great.l1 : Nat → Int → Int → List (S45) → List (S31) → Option (Bool)
  | 0, _, _, _, _ => none
  | k + 1, x3, x5, x138000, x138001 => if x5 < (x138000.length : Int) then (if 0 ≤ x5 then (astrolabelaw04_Great.l2 k (wrap64 ((wrap64 (x3 + (((rd_T45 x138000 x5).f2).length : Int))) + (wrap64 ((((rd_T45 x138000 x5).f1).size : Int) / 100)))) x5 0 x138000 x138001) else (none)) else (some (decide (x3 > 600)))
def astrolabelaw04_Great.l2 : Nat → Int → Int → Int → List (S45) → List (S31) → Option (Bool)
  | 0, _, _, _, _, _ => none
  | k + 1, x3, x5, x6, x138000, x138001 => if 0 ≤ x5 then (if x5 < (x138000.length : Int) then (if x6 < (((rd_T45 x138000 x5).f3).length : Int) then (if x6 < 1000 then (if 0 ≤ x6 then (astrolabelaw04_Great.l2 k (wrap64 ((wrap64 (x3 + 1)) + (((rd_T47 ((rd_T45 x138000 x5).f3) x6).f5).length : Int))) x5 (wrap64 (x6 + 1)) x138000 x138001) else (none)) else (astrolabelaw04_Great.l1 k x3 (wrap64 (x5 + 1)) x138000 x138001)) else (astrolabelaw04_Great.l1 k x3 (wrap64 (x5 + 1)) x138000 x138001)) else (none)) else (none)
end
def astrolabelaw04_Great.f (k : Nat) (l0_0 : List (S45)) (l0_1 : List (S31)) : Option (Bool) := if (l0_1.length : Int) > 300 then (astrolabelaw04_Great.j0 k true l0_0 l0_1) else (astrolabelaw04_Great.j0 k (decide ((l0_0.length : Int) > 60)) l0_0 l0_1)
set_option maxHeartbeats 8000000 in
set_option maxRecDepth 100000 in
theorem astrolabelaw04_Great.calls (k : Nat) (A0_0 : Option Addr) (c0_0 : Nat) (l0_0 : List (S45)) (A0_1 : Option Addr) (c0_1 : Nat) (l0_1 : List (S31)) (r : Bool) (w : World) (hr0_0 : Kd.C k45 w A0_0 l0_0.length l0_0) (hc0_0 : l0_0.length ≤ c0_0) (hr0_1 : Kd.C k31 w A0_1 l0_1.length l0_1) (hc0_1 : l0_1.length ≤ c0_1) (h : astrolabelaw04_Great.f k l0_0 l0_1 = some r) :
    Calls Try.prog 9 #[.agg #[.slice A0_0 l0_0.length c0_0, .slice A0_1 l0_1.length c0_1]] w fun e w' => e = .returned (.bool r) ∧ Below w.heap.size w w' := by
  have hu25 := Try.underlying25
  have HR0_0 := Aside0.mk hr0_0
  have HC0_0 := Aside0.mk hc0_0
  clear hr0_0 hc0_0
  have HR0_1 := Aside0.mk hr0_1
  have HC0_1 := Aside0.mk hc0_1
  clear hr0_1 hc0_1
  have HB := Aside0.mk (Below.refl w.heap.size w)
  have H : (if (l0_1.length : Int) > 300 then (astrolabelaw04_Great.j0 k true l0_0 l0_1) else (astrolabelaw04_Great.j0 k (decide ((l0_0.length : Int) > 60)) l0_0 l0_1)) = some r := h
  clear h
  have HC2 := Aside0.mk H
  clear H
  go_enter Try.func9, Try.ntmps9
  go_upto_region 1 with (first | ((with_reducible refine gate_dst (N := 1) rfl ?_); (try (refine gate_guard (by rfl) ?_; dsimp only)); refine box_event ?hg (N := 1) ?hd (cs := #[.slice A0_0 l0_0.length c0_0, .slice A0_1 l0_1.length c0_1]) (t := 25) ?hr ?_; (case hd => rfl); (case hg => rfl); (case hr => first | (go_simp; done) | (go_simp; rfl)); intro gb137 hg w3 hbox hb; have n0_ := Aside0.mk (below_step (by repeat (first | (with_reducible first | exact HB.out | apply below_alloc | apply pw_below_drewN | apply below_drew1) | exact HB.out)) hb); have n1_ := Aside0.mk (hbox); have n2_ := Aside0.mk ((by rw [hg]; exact (below_size (by repeat (first | (with_reducible first | exact HB.out | apply below_alloc | apply pw_below_drewN | apply below_drew1) | exact HB.out))) : w.heap.size ≤ gb137)); have n3_ := Aside0.mk ((by rw [hg]; exact (below_size (by repeat (first | (with_reducible first | exact HB.out | apply below_alloc | apply pw_below_drewN | apply below_drew1) | exact HB.out))) : w.heap.size ≤ gb137)); clear HB; have HB := n0_; have BK137 := n1_; have GW137 := n2_; have GE137 := n3_; clear n0_ n1_ n2_ n3_; clear hb hbox hg))
  repeat (go_quiet (first | ((with_reducible refine gate_dst (N := 1) rfl ?_); (try (refine gate_guard (by rfl) ?_; dsimp only)); refine box_event ?hg (N := 1) ?hd (cs := #[.slice A0_0 l0_0.length c0_0, .slice A0_1 l0_1.length c0_1]) (t := 25) ?hr ?_; (case hd => rfl); (case hg => rfl); (case hr => first | (go_simp; done) | (go_simp; rfl)); intro gb137 hg w3 hbox hb; have n0_ := Aside0.mk (below_step (by repeat (first | (with_reducible first | exact HB.out | apply below_alloc | apply pw_below_drewN | apply below_drew1) | exact HB.out)) hb); have n1_ := Aside0.mk (hbox); have n2_ := Aside0.mk ((by rw [hg]; exact (below_size (by repeat (first | (with_reducible first | exact HB.out | apply below_alloc | apply pw_below_drewN | apply below_drew1) | exact HB.out))) : w.heap.size ≤ gb137)); have n3_ := Aside0.mk ((by rw [hg]; exact (below_size (by repeat (first | (with_reducible first | exact HB.out | apply below_alloc | apply pw_below_drewN | apply below_drew1) | exact HB.out))) : w.heap.size ≤ gb137)); clear HB; have HB := n0_; have BK137 := n1_; have GW137 := n2_; have GE137 := n3_; clear n0_ n1_ n2_ n3_; clear hb hbox hg)); go_upto_region 1 with (first | ((with_reducible refine gate_dst (N := 1) rfl ?_); (try (refine gate_guard (by rfl) ?_; dsimp only)); refine box_event ?hg (N := 1) ?hd (cs := #[.slice A0_0 l0_0.length c0_0, .slice A0_1 l0_1.length c0_1]) (t := 25) ?hr ?_; (case hd => rfl); (case hg => rfl); (case hr => first | (go_simp; done) | (go_simp; rfl)); intro gb137 hg w3 hbox hb; have n0_ := Aside0.mk (below_step (by repeat (first | (with_reducible first | exact HB.out | apply below_alloc | apply pw_below_drewN | apply below_drew1) | exact HB.out)) hb); have n1_ := Aside0.mk (hbox); have n2_ := Aside0.mk ((by rw [hg]; exact (below_size (by repeat (first | (with_reducible first | exact HB.out | apply below_alloc | apply pw_below_drewN | apply below_drew1) | exact HB.out))) : w.heap.size ≤ gb137)); have n3_ := Aside0.mk ((by rw [hg]; exact (below_size (by repeat (first | (with_reducible first | exact HB.out | apply below_alloc | apply pw_below_drewN | apply below_drew1) | exact HB.out))) : w.heap.size ≤ gb137)); clear HB; have HB := n0_; have BK137 := n1_; have GW137 := n2_; have GE137 := n3_; clear n0_ n1_ n2_ n3_; clear hb hbox hg)))
  (try simp only [Act.put, List.setIfInBounds_toArray, List.set_cons_zero, List.set_cons_succ])
  go_cut [16] (fun v16 wc => ∃ (kq : Nat) (x16_1 : Bool), v16 = .bool x16_1 ∧ Aside0 (astrolabelaw04_Great.j0 kq x16_1 l0_0 l0_1 = some r) ∧ Aside0 (kq ≤ k) ∧ Aside0 (wc.heap[gb137]? = some (.cells #[(.slice A0_0 l0_0.length c0_0), (.slice A0_1 l0_1.length c0_1)] 25 (0, 0))) ∧ Aside0 (Below w.heap.size w wc))
  case first =>
    have H := HC2.out
    clear HC2
    by_cases c4 : (l0_1.length : Int) > 300
    · rw [if_pos c4] at H
      have c4b0 : decide (300 < (l0_1.length : Int)) = true := decide_eq_true c4
      have c4b1 : decide (300 < l0_1.length) = true := decide_eq_true (by omega)
      clear c4
      (first | rw [c4b0] | (simp only [i64_w, i32_w]; rw [c4b0]) | skip)
      have H' := Aside0.mk H
      clear H
      have hcz5_0 : w3.cell? ⟨gb137, 0, none⟩ = some (.slice A0_0 l0_0.length c0_0) := (blk_cell BK137.out 0).trans rfl
      have hcz5_1 : w3.cell? ⟨gb137, 1, none⟩ = some (.slice A0_1 l0_1.length c0_1) := (blk_cell BK137.out 1).trans rfl
      have hfz5_0 := blk_frozen BK137.out 0
      have hfz5_1 := blk_frozen BK137.out 1
      go_wp2
      repeat (go_quiet (fail); try go_wp2)
      go_meet
      case rel => exact ⟨_, (true), (by first | rfl | (simp; done) | (simp [*]; done)), H', ⟨by first | omega | exact Nat.le_refl _⟩, ⟨by (with_reducible repeat (first | refine blk_drewN ?_ _ | refine blk_drew ?_ | refine blk_alloc ?_ _)); exact BK137.out⟩, ⟨by repeat (first | (with_reducible first | exact HB.out | apply below_alloc | apply pw_below_drewN | apply below_drew1 | refine below_set ?_ GE137.out) | exact HB.out)⟩⟩
    · rw [if_neg c4] at H
      have c4b0 : decide (300 < (l0_1.length : Int)) = false := decide_eq_false c4
      have c4b1 : decide (300 < l0_1.length) = false := decide_eq_false (by omega)
      clear c4
      (first | rw [c4b0] | (simp only [i64_w, i32_w]; rw [c4b0]) | skip)
      have H' := Aside0.mk H
      clear H
      have hcz6_0 : w3.cell? ⟨gb137, 0, none⟩ = some (.slice A0_0 l0_0.length c0_0) := (blk_cell BK137.out 0).trans rfl
      have hcz6_1 : w3.cell? ⟨gb137, 1, none⟩ = some (.slice A0_1 l0_1.length c0_1) := (blk_cell BK137.out 1).trans rfl
      have hfz6_0 := blk_frozen BK137.out 0
      have hfz6_1 := blk_frozen BK137.out 1
      go_wp2
      repeat (go_quiet (fail); try go_wp2)
      go_meet
      case rel => exact ⟨_, (decide ((l0_0.length : Int) > 60)), (by first | rfl | (simp; done) | (simp [*]; done)), H', ⟨by first | omega | exact Nat.le_refl _⟩, ⟨by (with_reducible repeat (first | refine blk_drewN ?_ _ | refine blk_drew ?_ | refine blk_alloc ?_ _)); exact BK137.out⟩, ⟨by repeat (first | (with_reducible first | exact HB.out | apply below_alloc | apply pw_below_drewN | apply below_drew1 | refine below_set ?_ GE137.out) | exact HB.out)⟩⟩
  case rest =>
    clear HC2
    try clear p2
    try clear c4
    try clear c4b0
    try clear c4b1
    try clear hcz5_0
    try clear hcz5_1
    try clear hcz6_0
    try clear hcz6_1
    try clear hfz5_0
    try clear hfz5_1
    try clear hfz6_0
    try clear hfz6_1
    obtain ⟨kq, x16_1, rfl, HA, HJ1, BK137, HB⟩ := hcut
    cases kq with
    | zero => exact absurd HA.out (by simp [astrolabelaw04_Great.j0])
    | succ kj1 =>
      have H := HA.out
      clear HA
      simp only [astrolabelaw04_Great.j0] at H
      by_cases c7 : x16_1 = true
      · subst c7
        have H1 : (some true) = some r := by rw [if_pos rfl] at H; exact H
        clear H
        have H := H1
        clear H1
        obtain rfl := Option.some.inj H
        go_wp2
        repeat (go_quiet (fail); try go_wp2)
        go_ret
        exact ⟨by first | rfl | (simp [errW_none, errW_some] <;> rfl) | (simp [*, errW_none, errW_some] <;> rfl), by repeat (first | (with_reducible first | exact HB.out | apply below_alloc | apply pw_below_drewN | apply below_drew1 | refine below_set ?_ GE137.out) | exact HB.out)⟩
      · replace c7 := Bool.eq_false_iff.mpr c7
        subst c7
        have H1 : (astrolabelaw04_Great.l0 kj1 0 0 l0_0 l0_1) = some r := by rw [if_neg (show ¬ (false = true) by decide)] at H; exact H
        clear H
        have H := H1
        clear H1
        have H' := Aside0.mk H
        clear H
        go_wp2
        repeat (go_quiet (fail); try go_wp2)
        go_loopg [3, 4] kj1 (fun kq v3 v4 w' => ∃ (x3_2 : Int) (x4_2 : Int), v3 = .int .i64 x3_2 ∧ v4 = .int .i64 x4_2 ∧ Aside0 (astrolabelaw04_Great.l0 kq x3_2 x4_2 l0_0 l0_1 = some r) ∧ Aside0 (kq ≤ kj1) ∧ Aside0 (w'.heap[gb137]? = some (.cells #[(.slice A0_0 l0_0.length c0_0), (.slice A0_1 l0_1.length c0_1)] 25 (0, 0))) ∧ Aside0 (Below w.heap.size w w'))
        case atStart => exact ⟨(0), (0), (by first | rfl | (simp; done) | (simp [*]; done)), (by first | rfl | (simp; done) | (simp [*]; done)), H', ⟨Nat.le_refl _⟩, ⟨by (with_reducible repeat (first | refine blk_drewN ?_ _ | refine blk_drew ?_ | refine blk_alloc ?_ _)); exact BK137.out⟩, ⟨by repeat (first | (with_reducible first | exact HB.out | apply below_alloc | apply pw_below_drewN | apply below_drew1 | refine below_set ?_ GE137.out) | exact HB.out)⟩⟩
        case round =>
          clear H'
          try clear p2
          try clear c4
          try clear c4b0
          try clear c4b1
          try clear c7
          try clear hcz5_0
          try clear hcz5_1
          try clear hcz6_0
          try clear hcz6_1
          try clear hfz5_0
          try clear hfz5_1
          try clear hfz6_0
          try clear hfz6_1
          try clear p2
          obtain ⟨x3_2, x4_2, rfl, rfl, HA, HK2, BK137, HB⟩ := hrel
          cases gk with
          | zero => exact absurd HA.out (by simp [astrolabelaw04_Great.l0])
          | succ k2 =>
            have H := HA.out
            clear HA
            simp only [astrolabelaw04_Great.l0] at H
            by_cases c8 : x4_2 < (l0_1.length : Int)
            · rw [if_pos c8] at H
              have c8b0 : decide (x4_2 < (l0_1.length : Int)) = true := decide_eq_true c8
              clear c8
              by_cases c9 : 0 ≤ x4_2
              · rw [if_pos c9] at H
                have c9b0 : decide (0 ≤ x4_2) = true := decide_eq_true c9
                clear c9
                have H' := Aside0.mk H
                clear H
                have hcz10_0 : wr.cell? ⟨gb137, 0, none⟩ = some (.slice A0_0 l0_0.length c0_0) := (blk_cell BK137.out 0).trans rfl
                have hcz10_1 : wr.cell? ⟨gb137, 1, none⟩ = some (.slice A0_1 l0_1.length c0_1) := (blk_cell BK137.out 1).trans rfl
                have hfz10_0 := blk_frozen BK137.out 0
                have hfz10_1 := blk_frozen BK137.out 1
                have p138 : 0 ≤ (x4_2 : Int) := of_decide_eq_true (by first | (with_reducible assumption) | assumption)
                have q138 : x4_2 < (l0_1.length : Int) := of_decide_eq_true (by first | (with_reducible assumption) | assumption)
                obtain ⟨ad138, A138_7, c138_7, e138, hx138_0, hx138_1, hx138_2, hx138_3, hx138_4, hx138_5, hx138_6, hx138_7, hx138_8, hl138_7, hi138_7⟩ := at_T31 HR0_1.out x4_2 p138 q138
                cases e138
                replace hx138_0 := (HB.out.cell (World.block_lt_of_cell? w _ hx138_0)).trans hx138_0
                replace hx138_1 := (HB.out.cell (World.block_lt_of_cell? w _ hx138_1)).trans hx138_1
                replace hx138_2 := (HB.out.cell (World.block_lt_of_cell? w _ hx138_2)).trans hx138_2
                replace hx138_3 := (HB.out.cell (World.block_lt_of_cell? w _ hx138_3)).trans hx138_3
                replace hx138_4 := (HB.out.cell (World.block_lt_of_cell? w _ hx138_4)).trans hx138_4
                replace hx138_5 := (HB.out.cell (World.block_lt_of_cell? w _ hx138_5)).trans hx138_5
                replace hx138_6 := (HB.out.cell (World.block_lt_of_cell? w _ hx138_6)).trans hx138_6
                replace hx138_7 := (HB.out.cell (World.block_lt_of_cell? w _ hx138_7)).trans hx138_7
                replace hx138_8 := (HB.out.cell (World.block_lt_of_cell? w _ hx138_8)).trans hx138_8
                have HR138_7 := Aside0.mk hi138_7
                have HC138_7 := Aside0.mk hl138_7
                clear hi138_7 hl138_7
                replace p138 := eq_true p138
                replace q138 := eq_true q138
                have p139 : 0 ≤ (x4_2 : Int) := of_decide_eq_true (by first | (with_reducible assumption) | assumption)
                have q139 : x4_2 < (l0_1.length : Int) := of_decide_eq_true (by first | (with_reducible assumption) | assumption)
                obtain ⟨ad139, A139_7, c139_7, e139, hx139_0, hx139_1, hx139_2, hx139_3, hx139_4, hx139_5, hx139_6, hx139_7, hx139_8, hl139_7, hi139_7⟩ := at_T31 HR0_1.out x4_2 p139 q139
                obtain rfl : ad138 = ad139 := (by injection e139)
                replace hx139_0 := (HB.out.cell (World.block_lt_of_cell? w _ hx139_0)).trans hx139_0
                replace hx139_1 := (HB.out.cell (World.block_lt_of_cell? w _ hx139_1)).trans hx139_1
                replace hx139_2 := (HB.out.cell (World.block_lt_of_cell? w _ hx139_2)).trans hx139_2
                replace hx139_3 := (HB.out.cell (World.block_lt_of_cell? w _ hx139_3)).trans hx139_3
                replace hx139_4 := (HB.out.cell (World.block_lt_of_cell? w _ hx139_4)).trans hx139_4
                replace hx139_5 := (HB.out.cell (World.block_lt_of_cell? w _ hx139_5)).trans hx139_5
                replace hx139_6 := (HB.out.cell (World.block_lt_of_cell? w _ hx139_6)).trans hx139_6
                replace hx139_7 := (HB.out.cell (World.block_lt_of_cell? w _ hx139_7)).trans hx139_7
                replace hx139_8 := (HB.out.cell (World.block_lt_of_cell? w _ hx139_8)).trans hx139_8
                have HR139_7 := Aside0.mk hi139_7
                have HC139_7 := Aside0.mk hl139_7
                clear hi139_7 hl139_7
                replace p139 := eq_true p139
                replace q139 := eq_true q139
                have ea_ := Option.some.inj (hx138_7.symm.trans hx139_7)
                injection ea_ with ea_ en_ ec_
                subst ea_
                subst ec_
                clear en_
                have p140 : 0 ≤ (x4_2 : Int) := of_decide_eq_true (by first | (with_reducible assumption) | assumption)
                have q140 : x4_2 < (l0_1.length : Int) := of_decide_eq_true (by first | (with_reducible assumption) | assumption)
                obtain ⟨ad140, A140_7, c140_7, e140, hx140_0, hx140_1, hx140_2, hx140_3, hx140_4, hx140_5, hx140_6, hx140_7, hx140_8, hl140_7, hi140_7⟩ := at_T31 HR0_1.out x4_2 p140 q140
                obtain rfl : ad138 = ad140 := (by injection e140)
                replace hx140_0 := (HB.out.cell (World.block_lt_of_cell? w _ hx140_0)).trans hx140_0
                replace hx140_1 := (HB.out.cell (World.block_lt_of_cell? w _ hx140_1)).trans hx140_1
                replace hx140_2 := (HB.out.cell (World.block_lt_of_cell? w _ hx140_2)).trans hx140_2
                replace hx140_3 := (HB.out.cell (World.block_lt_of_cell? w _ hx140_3)).trans hx140_3
                replace hx140_4 := (HB.out.cell (World.block_lt_of_cell? w _ hx140_4)).trans hx140_4
                replace hx140_5 := (HB.out.cell (World.block_lt_of_cell? w _ hx140_5)).trans hx140_5
                replace hx140_6 := (HB.out.cell (World.block_lt_of_cell? w _ hx140_6)).trans hx140_6
                replace hx140_7 := (HB.out.cell (World.block_lt_of_cell? w _ hx140_7)).trans hx140_7
                replace hx140_8 := (HB.out.cell (World.block_lt_of_cell? w _ hx140_8)).trans hx140_8
                have HR140_7 := Aside0.mk hi140_7
                have HC140_7 := Aside0.mk hl140_7
                clear hi140_7 hl140_7
                replace p140 := eq_true p140
                replace q140 := eq_true q140
                have ea_ := Option.some.inj (hx138_7.symm.trans hx140_7)
                injection ea_ with ea_ en_ ec_
                subst ea_
                subst ec_
                clear en_
                go_wp2
                repeat (go_quiet (fail); try go_wp2)
                go_roundg k2
                case measure => have := HJ1.out; have := HK2.out; omega
                case rel => exact ⟨(wrap64 ((wrap64 ((wrap64 (x3_2 + (((rd_T31 l0_1 x4_2).f7).length : Int))) + (wrap64 ((((rd_T31 l0_1 x4_2).f4).size : Int) / 100)))) + (wrap64 ((((rd_T31 l0_1 x4_2).f5).size : Int) / 100)))), (wrap64 (x4_2 + 1)), (by first | rfl | (simp; done) | (simp [*]; done)), (by first | rfl | (simp; done) | (simp [*]; done)), H', ⟨by have := HJ1.out; have := HK2.out; omega⟩, ⟨by (with_reducible repeat (first | refine blk_drewN ?_ _ | refine blk_drew ?_ | refine blk_alloc ?_ _)); exact BK137.out⟩, ⟨by repeat (first | (with_reducible first | exact HB.out | apply below_alloc | apply pw_below_drewN | apply below_drew1 | refine below_set ?_ GE137.out) | exact HB.out)⟩⟩
              · rw [if_neg c9] at H
                exact absurd H (by simp)
            · rw [if_neg c8] at H
              have c8b0 : decide (x4_2 < (l0_1.length : Int)) = false := decide_eq_false c8
              clear c8
              have H' := Aside0.mk H
              clear H
              have hcz11_0 : wr.cell? ⟨gb137, 0, none⟩ = some (.slice A0_0 l0_0.length c0_0) := (blk_cell BK137.out 0).trans rfl
              have hcz11_1 : wr.cell? ⟨gb137, 1, none⟩ = some (.slice A0_1 l0_1.length c0_1) := (blk_cell BK137.out 1).trans rfl
              have hfz11_0 := blk_frozen BK137.out 0
              have hfz11_1 := blk_frozen BK137.out 1
              go_wp2
              repeat (go_quiet (fail); try go_wp2)
              go_loopg [3, 5] k2 (fun kq v3 v5 w' => ∃ (x3_3 : Int) (x5_3 : Int), v3 = .int .i64 x3_3 ∧ v5 = .int .i64 x5_3 ∧ Aside0 (astrolabelaw04_Great.l1 kq x3_3 x5_3 l0_0 l0_1 = some r) ∧ Aside0 (kq ≤ k2) ∧ Aside0 (w'.heap[gb137]? = some (.cells #[(.slice A0_0 l0_0.length c0_0), (.slice A0_1 l0_1.length c0_1)] 25 (0, 0))) ∧ Aside0 (Below w.heap.size w w'))
              case atStart => exact ⟨(x3_2), (0), (by first | rfl | (simp; done) | (simp [*]; done)), (by first | rfl | (simp; done) | (simp [*]; done)), H', ⟨Nat.le_refl _⟩, ⟨by (with_reducible repeat (first | refine blk_drewN ?_ _ | refine blk_drew ?_ | refine blk_alloc ?_ _)); exact BK137.out⟩, ⟨by repeat (first | (with_reducible first | exact HB.out | apply below_alloc | apply pw_below_drewN | apply below_drew1 | refine below_set ?_ GE137.out) | exact HB.out)⟩⟩
              case round =>
                clear H'
                try clear c1
                try clear p1
                try clear q1
                try clear hx1
                try clear p2
                try clear c4
                try clear c4b0
                try clear c4b1
                try clear p6
                try clear c7
                try clear c8
                try clear c8b0
                try clear c9
                try clear c9b0
                try clear hcz10_0
                try clear hcz10_1
                try clear hcz11_0
                try clear hcz11_1
                try clear hcz5_0
                try clear hcz5_1
                try clear hcz6_0
                try clear hcz6_1
                try clear hfz10_0
                try clear hfz10_1
                try clear hfz11_0
                try clear hfz11_1
                try clear hfz5_0
                try clear hfz5_1
                try clear hfz6_0
                try clear hfz6_1
                try clear hx138_0
                try clear hx138_1
                try clear hx138_2
                try clear hx138_3
                try clear hx138_4
                try clear hx138_5
                try clear hx138_6
                try clear hx138_7
                try clear hx138_8
                try clear hx139_0
                try clear hx139_1
                try clear hx139_2
                try clear hx139_3
                try clear hx139_4
                try clear hx139_5
                try clear hx139_6
                try clear hx139_7
                try clear hx139_8
                try clear hx140_0
                try clear hx140_1
                try clear hx140_2
                try clear hx140_3
                try clear hx140_4
                try clear hx140_5
                try clear hx140_6
                try clear hx140_7
                try clear hx140_8
                try clear p138
                try clear p139
                try clear p140
                try clear p2
                try clear q138
                try clear q139
                try clear q140
                obtain ⟨x3_3, x5_3, rfl, rfl, HA, HK3, BK137, HB⟩ := hrel
                cases gk with
                | zero => exact absurd HA.out (by simp [astrolabelaw04_Great.l1])
                | succ k3 =>
                  have H := HA.out
                  clear HA
                  simp only [astrolabelaw04_Great.l1] at H
                  by_cases c12 : x5_3 < (l0_0.length : Int)
                  · rw [if_pos c12] at H
                    have c12b0 : decide (x5_3 < (l0_0.length : Int)) = true := decide_eq_true c12
                    clear c12
                    by_cases c13 : 0 ≤ x5_3
                    · rw [if_pos c13] at H
                      have c13b0 : decide (0 ≤ x5_3) = true := decide_eq_true c13
                      clear c13
                      have H' := Aside0.mk H
                      clear H
                      have hcz14_0 : wr.cell? ⟨gb137, 0, none⟩ = some (.slice A0_0 l0_0.length c0_0) := (blk_cell BK137.out 0).trans rfl
                      have hcz14_1 : wr.cell? ⟨gb137, 1, none⟩ = some (.slice A0_1 l0_1.length c0_1) := (blk_cell BK137.out 1).trans rfl
                      have hfz14_0 := blk_frozen BK137.out 0
                      have hfz14_1 := blk_frozen BK137.out 1
                      have p141 : 0 ≤ (x5_3 : Int) := of_decide_eq_true (by first | (with_reducible assumption) | assumption)
                      have q141 : x5_3 < (l0_0.length : Int) := of_decide_eq_true (by first | (with_reducible assumption) | assumption)
                      obtain ⟨ad141, A141_2, c141_2, A141_3, c141_3, e141, hx141_0, hx141_1, hx141_2, hx141_3, hx141_4, hx141_5, hx141_6, hl141_2, hi141_2, hl141_3, hi141_3⟩ := at_T45 HR0_0.out x5_3 p141 q141
                      cases e141
                      replace hx141_0 := (HB.out.cell (World.block_lt_of_cell? w _ hx141_0)).trans hx141_0
                      replace hx141_1 := (HB.out.cell (World.block_lt_of_cell? w _ hx141_1)).trans hx141_1
                      replace hx141_2 := (HB.out.cell (World.block_lt_of_cell? w _ hx141_2)).trans hx141_2
                      replace hx141_3 := (HB.out.cell (World.block_lt_of_cell? w _ hx141_3)).trans hx141_3
                      replace hx141_4 := (HB.out.cell (World.block_lt_of_cell? w _ hx141_4)).trans hx141_4
                      replace hx141_5 := (HB.out.cell (World.block_lt_of_cell? w _ hx141_5)).trans hx141_5
                      replace hx141_6 := (HB.out.cell (World.block_lt_of_cell? w _ hx141_6)).trans hx141_6
                      have HR141_2 := Aside0.mk hi141_2
                      have HC141_2 := Aside0.mk hl141_2
                      clear hi141_2 hl141_2
                      have HR141_3 := Aside0.mk hi141_3
                      have HC141_3 := Aside0.mk hl141_3
                      clear hi141_3 hl141_3
                      replace p141 := eq_true p141
                      replace q141 := eq_true q141
                      have p142 : 0 ≤ (x5_3 : Int) := of_decide_eq_true (by first | (with_reducible assumption) | assumption)
                      have q142 : x5_3 < (l0_0.length : Int) := of_decide_eq_true (by first | (with_reducible assumption) | assumption)
                      obtain ⟨ad142, A142_2, c142_2, A142_3, c142_3, e142, hx142_0, hx142_1, hx142_2, hx142_3, hx142_4, hx142_5, hx142_6, hl142_2, hi142_2, hl142_3, hi142_3⟩ := at_T45 HR0_0.out x5_3 p142 q142
                      obtain rfl : ad141 = ad142 := (by injection e142)
                      replace hx142_0 := (HB.out.cell (World.block_lt_of_cell? w _ hx142_0)).trans hx142_0
                      replace hx142_1 := (HB.out.cell (World.block_lt_of_cell? w _ hx142_1)).trans hx142_1
                      replace hx142_2 := (HB.out.cell (World.block_lt_of_cell? w _ hx142_2)).trans hx142_2
                      replace hx142_3 := (HB.out.cell (World.block_lt_of_cell? w _ hx142_3)).trans hx142_3
                      replace hx142_4 := (HB.out.cell (World.block_lt_of_cell? w _ hx142_4)).trans hx142_4
                      replace hx142_5 := (HB.out.cell (World.block_lt_of_cell? w _ hx142_5)).trans hx142_5
                      replace hx142_6 := (HB.out.cell (World.block_lt_of_cell? w _ hx142_6)).trans hx142_6
                      have HR142_2 := Aside0.mk hi142_2
                      have HC142_2 := Aside0.mk hl142_2
                      clear hi142_2 hl142_2
                      have HR142_3 := Aside0.mk hi142_3
                      have HC142_3 := Aside0.mk hl142_3
                      clear hi142_3 hl142_3
                      replace p142 := eq_true p142
                      replace q142 := eq_true q142
                      have ea_ := Option.some.inj (hx141_2.symm.trans hx142_2)
                      injection ea_ with ea_ en_ ec_
                      subst ea_
                      subst ec_
                      clear en_
                      have ea_ := Option.some.inj (hx141_3.symm.trans hx142_3)
                      injection ea_ with ea_ en_ ec_
                      subst ea_
                      subst ec_
                      clear en_
                      go_wp2
                      repeat (go_quiet (fail); try go_wp2)
                      go_loopg [3, 6] k3 (fun kq v3 v6 w' => ∃ (x3_4 : Int) (x6_4 : Int), v3 = .int .i64 x3_4 ∧ v6 = .int .i64 x6_4 ∧ Aside0 (astrolabelaw04_Great.l2 kq x3_4 x5_3 x6_4 l0_0 l0_1 = some r) ∧ Aside0 (kq ≤ k3) ∧ Aside0 (w'.heap[gb137]? = some (.cells #[(.slice (some ad141) l0_0.length c0_0), (.slice A0_1 l0_1.length c0_1)] 25 (0, 0))) ∧ Aside0 (Below w.heap.size w w'))
                      case atStart => exact ⟨(wrap64 ((wrap64 (x3_3 + (((rd_T45 l0_0 x5_3).f2).length : Int))) + (wrap64 ((((rd_T45 l0_0 x5_3).f1).size : Int) / 100)))), (0), (by first | rfl | (simp; done) | (simp [*]; done)), (by first | rfl | (simp; done) | (simp [*]; done)), H', ⟨Nat.le_refl _⟩, ⟨by (with_reducible repeat (first | refine blk_drewN ?_ _ | refine blk_drew ?_ | refine blk_alloc ?_ _)); exact BK137.out⟩, ⟨by repeat (first | (with_reducible first | exact HB.out | apply below_alloc | apply pw_below_drewN | apply below_drew1 | refine below_set ?_ GE137.out) | exact HB.out)⟩⟩
                      case round =>
                        clear H'
                        try clear c1
                        try clear p1
                        try clear q1
                        try clear hx1
                        try clear p2
                        try clear c4
                        try clear c4b0
                        try clear c4b1
                        try clear p6
                        try clear c7
                        try clear c8
                        try clear c8b0
                        try clear c9
                        try clear c9b0
                        try clear c12
                        try clear c12b0
                        try clear c13
                        try clear c13b0
                        try clear p13
                        try clear q13
                        try clear hx13
                        try clear c14
                        try clear p14
                        try clear q14
                        try clear hx14
                        try clear hcz10_0
                        try clear hcz10_1
                        try clear hcz11_0
                        try clear hcz11_1
                        try clear hcz14_0
                        try clear hcz14_1
                        try clear hcz5_0
                        try clear hcz5_1
                        try clear hcz6_0
                        try clear hcz6_1
                        try clear hfz10_0
                        try clear hfz10_1
                        try clear hfz11_0
                        try clear hfz11_1
                        try clear hfz14_0
                        try clear hfz14_1
                        try clear hfz5_0
                        try clear hfz5_1
                        try clear hfz6_0
                        try clear hfz6_1
                        try clear hx138_0
                        try clear hx138_1
                        try clear hx138_2
                        try clear hx138_3
                        try clear hx138_4
                        try clear hx138_5
                        try clear hx138_6
                        try clear hx138_7
                        try clear hx138_8
                        try clear hx139_0
                        try clear hx139_1
                        try clear hx139_2
                        try clear hx139_3
                        try clear hx139_4
                        try clear hx139_5
                        try clear hx139_6
                        try clear hx139_7
                        try clear hx139_8
                        try clear hx140_0
                        try clear hx140_1
                        try clear hx140_2
                        try clear hx140_3
                        try clear hx140_4
                        try clear hx140_5
                        try clear hx140_6
                        try clear hx140_7
                        try clear hx140_8
                        try clear hx141_0
                        try clear hx141_1
                        try clear hx141_2
                        try clear hx141_3
                        try clear hx141_4
                        try clear hx141_5
                        try clear hx141_6
                        try clear hx142_0
                        try clear hx142_1
                        try clear hx142_2
                        try clear hx142_3
                        try clear hx142_4
                        try clear hx142_5
                        try clear hx142_6
                        try clear p1
                        try clear p138
                        try clear p139
                        try clear p140
                        try clear p141
                        try clear p142
                        try clear p2
                        try clear p6
                        try clear q1
                        try clear q138
                        try clear q139
                        try clear q140
                        try clear q141
                        try clear q142
                        obtain ⟨x3_4, x6_4, rfl, rfl, HA, HK4, BK137, HB⟩ := hrel
                        cases gk with
                        | zero => exact absurd HA.out (by simp [astrolabelaw04_Great.l2])
                        | succ k4 =>
                          have H := HA.out
                          clear HA
                          simp only [astrolabelaw04_Great.l2] at H
                          by_cases c15 : 0 ≤ x5_3
                          · rw [if_pos c15] at H
                            have c15b0 : decide (0 ≤ x5_3) = true := decide_eq_true c15
                            clear c15
                            by_cases c16 : x5_3 < (l0_0.length : Int)
                            · rw [if_pos c16] at H
                              have c16b0 : decide (x5_3 < (l0_0.length : Int)) = true := decide_eq_true c16
                              clear c16
                              by_cases c17 : x6_4 < (((rd_T45 l0_0 x5_3).f3).length : Int)
                              · rw [if_pos c17] at H
                                have c17b0 : decide (x6_4 < (((rd_T45 l0_0 x5_3).f3).length : Int)) = true := decide_eq_true c17
                                clear c17
                                by_cases c18 : x6_4 < 1000
                                · rw [if_pos c18] at H
                                  have c18b0 : decide (x6_4 < 1000) = true := decide_eq_true c18
                                  clear c18
                                  by_cases c19 : 0 ≤ x6_4
                                  · rw [if_pos c19] at H
                                    have c19b0 : decide (0 ≤ x6_4) = true := decide_eq_true c19
                                    clear c19
                                    have H' := Aside0.mk H
                                    clear H
                                    have hcz20_0 : wr.cell? ⟨gb137, 0, none⟩ = some (.slice (some ad141) l0_0.length c0_0) := (blk_cell BK137.out 0).trans rfl
                                    have hcz20_1 : wr.cell? ⟨gb137, 1, none⟩ = some (.slice A0_1 l0_1.length c0_1) := (blk_cell BK137.out 1).trans rfl
                                    have hfz20_0 := blk_frozen BK137.out 0
                                    have hfz20_1 := blk_frozen BK137.out 1
                                    have p143 : 0 ≤ (x5_3 : Int) := of_decide_eq_true (by first | (with_reducible assumption) | assumption)
                                    have q143 : x5_3 < (l0_0.length : Int) := of_decide_eq_true (by first | (with_reducible assumption) | assumption)
                                    obtain ⟨ad143, A143_2, c143_2, A143_3, c143_3, e143, hx143_0, hx143_1, hx143_2, hx143_3, hx143_4, hx143_5, hx143_6, hl143_2, hi143_2, hl143_3, hi143_3⟩ := at_T45 HR0_0.out x5_3 p143 q143
                                    obtain rfl : ad141 = ad143 := (by injection e143)
                                    replace hx143_0 := (HB.out.cell (World.block_lt_of_cell? w _ hx143_0)).trans hx143_0
                                    replace hx143_1 := (HB.out.cell (World.block_lt_of_cell? w _ hx143_1)).trans hx143_1
                                    replace hx143_2 := (HB.out.cell (World.block_lt_of_cell? w _ hx143_2)).trans hx143_2
                                    replace hx143_3 := (HB.out.cell (World.block_lt_of_cell? w _ hx143_3)).trans hx143_3
                                    replace hx143_4 := (HB.out.cell (World.block_lt_of_cell? w _ hx143_4)).trans hx143_4
                                    replace hx143_5 := (HB.out.cell (World.block_lt_of_cell? w _ hx143_5)).trans hx143_5
                                    replace hx143_6 := (HB.out.cell (World.block_lt_of_cell? w _ hx143_6)).trans hx143_6
                                    have HR143_2 := Aside0.mk hi143_2
                                    have HC143_2 := Aside0.mk hl143_2
                                    clear hi143_2 hl143_2
                                    have HR143_3 := Aside0.mk hi143_3
                                    have HC143_3 := Aside0.mk hl143_3
                                    clear hi143_3 hl143_3
                                    replace p143 := eq_true p143
                                    replace q143 := eq_true q143
                                    have p144 : 0 ≤ (x5_3 : Int) := of_decide_eq_true (by first | (with_reducible assumption) | assumption)
                                    have q144 : x5_3 < (l0_0.length : Int) := of_decide_eq_true (by first | (with_reducible assumption) | assumption)
                                    obtain ⟨ad144, A144_2, c144_2, A144_3, c144_3, e144, hx144_0, hx144_1, hx144_2, hx144_3, hx144_4, hx144_5, hx144_6, hl144_2, hi144_2, hl144_3, hi144_3⟩ := at_T45 HR0_0.out x5_3 p144 q144
                                    obtain rfl : ad141 = ad144 := (by injection e144)
                                    replace hx144_0 := (HB.out.cell (World.block_lt_of_cell? w _ hx144_0)).trans hx144_0
                                    replace hx144_1 := (HB.out.cell (World.block_lt_of_cell? w _ hx144_1)).trans hx144_1
                                    replace hx144_2 := (HB.out.cell (World.block_lt_of_cell? w _ hx144_2)).trans hx144_2
                                    replace hx144_3 := (HB.out.cell (World.block_lt_of_cell? w _ hx144_3)).trans hx144_3
                                    replace hx144_4 := (HB.out.cell (World.block_lt_of_cell? w _ hx144_4)).trans hx144_4
                                    replace hx144_5 := (HB.out.cell (World.block_lt_of_cell? w _ hx144_5)).trans hx144_5
                                    replace hx144_6 := (HB.out.cell (World.block_lt_of_cell? w _ hx144_6)).trans hx144_6
                                    have HR144_2 := Aside0.mk hi144_2
                                    have HC144_2 := Aside0.mk hl144_2
                                    clear hi144_2 hl144_2
                                    have HR144_3 := Aside0.mk hi144_3
                                    have HC144_3 := Aside0.mk hl144_3
                                    clear hi144_3 hl144_3
                                    replace p144 := eq_true p144
                                    replace q144 := eq_true q144
                                    have ea_ := Option.some.inj (hx143_2.symm.trans hx144_2)
                                    injection ea_ with ea_ en_ ec_
                                    subst ea_
                                    subst ec_
                                    clear en_
                                    have ea_ := Option.some.inj (hx143_3.symm.trans hx144_3)
                                    injection ea_ with ea_ en_ ec_
                                    subst ea_
                                    subst ec_
                                    clear en_
                                    have p145 : 0 ≤ (x6_4 : Int) := of_decide_eq_true (by first | (with_reducible assumption) | assumption)
                                    have q145 : x6_4 < (((rd_T45 l0_0 x5_3).f3).length : Int) := of_decide_eq_true (by first | (with_reducible assumption) | assumption)
                                    obtain ⟨ad145, A145_5, c145_5, e145, hx145_0, hx145_1, hx145_2, hx145_3, hx145_4, hx145_5, hx145_6, hx145_7, hx145_8, hl145_5, hi145_5⟩ := at_T47 HR144_3.out x6_4 p145 q145
                                    cases e145
                                    replace hx145_0 := (HB.out.cell (World.block_lt_of_cell? w _ hx145_0)).trans hx145_0
                                    replace hx145_1 := (HB.out.cell (World.block_lt_of_cell? w _ hx145_1)).trans hx145_1
                                    replace hx145_2 := (HB.out.cell (World.block_lt_of_cell? w _ hx145_2)).trans hx145_2
                                    replace hx145_3 := (HB.out.cell (World.block_lt_of_cell? w _ hx145_3)).trans hx145_3
                                    replace hx145_4 := (HB.out.cell (World.block_lt_of_cell? w _ hx145_4)).trans hx145_4
                                    replace hx145_5 := (HB.out.cell (World.block_lt_of_cell? w _ hx145_5)).trans hx145_5
                                    replace hx145_6 := (HB.out.cell (World.block_lt_of_cell? w _ hx145_6)).trans hx145_6
                                    replace hx145_7 := (HB.out.cell (World.block_lt_of_cell? w _ hx145_7)).trans hx145_7
                                    replace hx145_8 := (HB.out.cell (World.block_lt_of_cell? w _ hx145_8)).trans hx145_8
                                    have HR145_5 := Aside0.mk hi145_5
                                    have HC145_5 := Aside0.mk hl145_5
                                    clear hi145_5 hl145_5
                                    replace p145 := eq_true p145
                                    replace q145 := eq_true q145
                                    go_wp2
                                    repeat (go_quiet (fail); try go_wp2)
                                    go_roundg k4
                                    case measure => have := HJ1.out; have := HK2.out; have := HK3.out; have := HK4.out; omega
                                    case rel => exact ⟨(wrap64 ((wrap64 (x3_4 + 1)) + (((rd_T47 ((rd_T45 l0_0 x5_3).f3) x6_4).f5).length : Int))), (wrap64 (x6_4 + 1)), (by first | rfl | (simp; done) | (simp [*]; done)), (by first | rfl | (simp; done) | (simp [*]; done)), H', ⟨by have := HJ1.out; have := HK2.out; have := HK3.out; have := HK4.out; omega⟩, ⟨by (with_reducible repeat (first | refine blk_drewN ?_ _ | refine blk_drew ?_ | refine blk_alloc ?_ _)); exact BK137.out⟩, ⟨by repeat (first | (with_reducible first | exact HB.out | apply below_alloc | apply pw_below_drewN | apply below_drew1 | refine below_set ?_ GE137.out) | exact HB.out)⟩⟩
                                  · rw [if_neg c19] at H
                                    exact absurd H (by simp)
                                · rw [if_neg c18] at H
                                  have c18b0 : decide (x6_4 < 1000) = false := decide_eq_false c18
                                  clear c18
                                  have H' := Aside0.mk H
                                  clear H
                                  have hcz21_0 : wr.cell? ⟨gb137, 0, none⟩ = some (.slice (some ad141) l0_0.length c0_0) := (blk_cell BK137.out 0).trans rfl
                                  have hcz21_1 : wr.cell? ⟨gb137, 1, none⟩ = some (.slice A0_1 l0_1.length c0_1) := (blk_cell BK137.out 1).trans rfl
                                  have hfz21_0 := blk_frozen BK137.out 0
                                  have hfz21_1 := blk_frozen BK137.out 1
                                  have p143 : 0 ≤ (x5_3 : Int) := of_decide_eq_true (by first | (with_reducible assumption) | assumption)
                                  have q143 : x5_3 < (l0_0.length : Int) := of_decide_eq_true (by first | (with_reducible assumption) | assumption)
                                  obtain ⟨ad143, A143_2, c143_2, A143_3, c143_3, e143, hx143_0, hx143_1, hx143_2, hx143_3, hx143_4, hx143_5, hx143_6, hl143_2, hi143_2, hl143_3, hi143_3⟩ := at_T45 HR0_0.out x5_3 p143 q143
                                  obtain rfl : ad141 = ad143 := (by injection e143)
                                  replace hx143_0 := (HB.out.cell (World.block_lt_of_cell? w _ hx143_0)).trans hx143_0
                                  replace hx143_1 := (HB.out.cell (World.block_lt_of_cell? w _ hx143_1)).trans hx143_1
                                  replace hx143_2 := (HB.out.cell (World.block_lt_of_cell? w _ hx143_2)).trans hx143_2
                                  replace hx143_3 := (HB.out.cell (World.block_lt_of_cell? w _ hx143_3)).trans hx143_3
                                  replace hx143_4 := (HB.out.cell (World.block_lt_of_cell? w _ hx143_4)).trans hx143_4
                                  replace hx143_5 := (HB.out.cell (World.block_lt_of_cell? w _ hx143_5)).trans hx143_5
                                  replace hx143_6 := (HB.out.cell (World.block_lt_of_cell? w _ hx143_6)).trans hx143_6
                                  have HR143_2 := Aside0.mk hi143_2
                                  have HC143_2 := Aside0.mk hl143_2
                                  clear hi143_2 hl143_2
                                  have HR143_3 := Aside0.mk hi143_3
                                  have HC143_3 := Aside0.mk hl143_3
                                  clear hi143_3 hl143_3
                                  replace p143 := eq_true p143
                                  replace q143 := eq_true q143
                                  go_wp2
                                  repeat (go_quiet (fail); try go_wp2)
                                  go_roundg k4
                                  case measure => have := HJ1.out; have := HK2.out; have := HK3.out; have := HK4.out; omega
                                  case rel => exact ⟨(x3_4), (wrap64 (x5_3 + 1)), (by first | rfl | (simp; done) | (simp [*]; done)), (by first | rfl | (simp; done) | (simp [*]; done)), H', ⟨by have := HJ1.out; have := HK2.out; have := HK3.out; have := HK4.out; omega⟩, ⟨by (with_reducible repeat (first | refine blk_drewN ?_ _ | refine blk_drew ?_ | refine blk_alloc ?_ _)); exact BK137.out⟩, ⟨by repeat (first | (with_reducible first | exact HB.out | apply below_alloc | apply pw_below_drewN | apply below_drew1 | refine below_set ?_ GE137.out) | exact HB.out)⟩⟩
                              · rw [if_neg c17] at H
                                have c17b0 : decide (x6_4 < (((rd_T45 l0_0 x5_3).f3).length : Int)) = false := decide_eq_false c17
                                clear c17
                                have H' := Aside0.mk H
                                clear H
                                have hcz22_0 : wr.cell? ⟨gb137, 0, none⟩ = some (.slice (some ad141) l0_0.length c0_0) := (blk_cell BK137.out 0).trans rfl
                                have hcz22_1 : wr.cell? ⟨gb137, 1, none⟩ = some (.slice A0_1 l0_1.length c0_1) := (blk_cell BK137.out 1).trans rfl
                                have hfz22_0 := blk_frozen BK137.out 0
                                have hfz22_1 := blk_frozen BK137.out 1
                                have p143 : 0 ≤ (x5_3 : Int) := of_decide_eq_true (by first | (with_reducible assumption) | assumption)
                                have q143 : x5_3 < (l0_0.length : Int) := of_decide_eq_true (by first | (with_reducible assumption) | assumption)
                                obtain ⟨ad143, A143_2, c143_2, A143_3, c143_3, e143, hx143_0, hx143_1, hx143_2, hx143_3, hx143_4, hx143_5, hx143_6, hl143_2, hi143_2, hl143_3, hi143_3⟩ := at_T45 HR0_0.out x5_3 p143 q143
                                obtain rfl : ad141 = ad143 := (by injection e143)
                                replace hx143_0 := (HB.out.cell (World.block_lt_of_cell? w _ hx143_0)).trans hx143_0
                                replace hx143_1 := (HB.out.cell (World.block_lt_of_cell? w _ hx143_1)).trans hx143_1
                                replace hx143_2 := (HB.out.cell (World.block_lt_of_cell? w _ hx143_2)).trans hx143_2
                                replace hx143_3 := (HB.out.cell (World.block_lt_of_cell? w _ hx143_3)).trans hx143_3
                                replace hx143_4 := (HB.out.cell (World.block_lt_of_cell? w _ hx143_4)).trans hx143_4
                                replace hx143_5 := (HB.out.cell (World.block_lt_of_cell? w _ hx143_5)).trans hx143_5
                                replace hx143_6 := (HB.out.cell (World.block_lt_of_cell? w _ hx143_6)).trans hx143_6
                                have HR143_2 := Aside0.mk hi143_2
                                have HC143_2 := Aside0.mk hl143_2
                                clear hi143_2 hl143_2
                                have HR143_3 := Aside0.mk hi143_3
                                have HC143_3 := Aside0.mk hl143_3
                                clear hi143_3 hl143_3
                                replace p143 := eq_true p143
                                replace q143 := eq_true q143
                                go_wp2
                                repeat (go_quiet (fail); try go_wp2)
                                go_roundg k4
                                case measure => have := HJ1.out; have := HK2.out; have := HK3.out; have := HK4.out; omega
                                case rel => exact ⟨(x3_4), (wrap64 (x5_3 + 1)), (by first | rfl | (simp; done) | (simp [*]; done)), (by first | rfl | (simp; done) | (simp [*]; done)), H', ⟨by have := HJ1.out; have := HK2.out; have := HK3.out; have := HK4.out; omega⟩, ⟨by (with_reducible repeat (first | refine blk_drewN ?_ _ | refine blk_drew ?_ | refine blk_alloc ?_ _)); exact BK137.out⟩, ⟨by repeat (first | (with_reducible first | exact HB.out | apply below_alloc | apply pw_below_drewN | apply below_drew1 | refine below_set ?_ GE137.out) | exact HB.out)⟩⟩
                            · rw [if_neg c16] at H
                              exact absurd H (by simp)
                          · rw [if_neg c15] at H
                            exact absurd H (by simp)
                    · rw [if_neg c13] at H
                      exact absurd H (by simp)
                  · rw [if_neg c12] at H
                    have c12b0 : decide (x5_3 < (l0_0.length : Int)) = false := decide_eq_false c12
                    clear c12
                    obtain rfl := Option.some.inj H
                    have hcz23_0 : wr.cell? ⟨gb137, 0, none⟩ = some (.slice A0_0 l0_0.length c0_0) := (blk_cell BK137.out 0).trans rfl
                    have hcz23_1 : wr.cell? ⟨gb137, 1, none⟩ = some (.slice A0_1 l0_1.length c0_1) := (blk_cell BK137.out 1).trans rfl
                    have hfz23_0 := blk_frozen BK137.out 0
                    have hfz23_1 := blk_frozen BK137.out 1
                    go_wp2
                    repeat (go_quiet (fail); try go_wp2)
                    go_ret
                    exact ⟨by first | rfl | (simp [errW_none, errW_some] <;> rfl) | (simp [*, errW_none, errW_some] <;> rfl), by repeat (first | (with_reducible first | exact HB.out | apply below_alloc | apply pw_below_drewN | apply below_drew1 | refine below_set ?_ GE137.out) | exact HB.out)⟩

end Go.Proofs.Ytediidkiedifcaa.Q
