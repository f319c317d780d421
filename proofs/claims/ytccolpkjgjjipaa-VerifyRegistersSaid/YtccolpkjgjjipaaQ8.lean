-- written by myprint.py (wip/tools) out of the translation
import Derived.Test.YtccolpkjgjjipaaQ0
namespace Go.Proofs.Ytccolpkjgjjipaa.Q
open Go.RowKit Go.Proofs.YtccolpkjgjjipaaW.PrintWords Go.Proofs.YtccolpkjgjjipaaW.PrintLast Go.Proofs.YtccolpkjgjjipaaW.PrintMore
attribute [local go_sem] max2_int min2_int max_two min_two max_three min_three max_four min_four   -- for this text's walks alone
set_option linter.unusedVariables false
set_option linter.unusedSimpArgs false

-- NOT PRINTED: function 5 (astrolabelaw17_VerifyCut)

/-! ### astrolabelaw17_top: function 19 -/
mutual
def astrolabelaw17_top.l0 : Nat → List (S47) → Int → Option (Bool)
  | 0, _, _ => none
  | k + 1, x0, x3 => if x3 < (x0.length : Int) then (if 0 ≤ x3 then (if ((rd_T47 x0 x3).f2) = 9223372036854775807 then (astrolabelaw17_top.j1 k x0 x3 true) else (if ((rd_T47 x0 x3).f3) = 9223372036854775807 then (astrolabelaw17_top.j1 k x0 x3 true) else (if ((rd_T47 x0 x3).f4) = 9223372036854775807 then (astrolabelaw17_top.j1 k x0 x3 true) else (astrolabelaw17_top.j1 k x0 x3 (((rd_T47 x0 x3).f1) == 9223372036854775807))))) else (none)) else (some false)
def astrolabelaw17_top.j1 : Nat → List (S47) → Int → Bool → Option (Bool)
  | 0, _, _, _ => none
  | k + 1, x0, x3, x39 => if x39 = true then (some true) else (astrolabelaw17_top.l0 k x0 (wrap64 (x3 + 1)))
end
def astrolabelaw17_top.f (k : Nat) (l0 : List (S47)) : Option (Bool) := astrolabelaw17_top.l0 k l0 0
theorem astrolabelaw17_top.mono_l : ∀ k, (∀ y0 y1, LeO (astrolabelaw17_top.l0 k y0 y1) (astrolabelaw17_top.l0 (k + 1) y0 y1)) ∧ (∀ y0 y1 y2, LeO (astrolabelaw17_top.j1 k y0 y1 y2) (astrolabelaw17_top.j1 (k + 1) y0 y1 y2))
  | 0 => ⟨fun _ _ r h => by simp [astrolabelaw17_top.l0] at h, fun _ _ _ r h => by simp [astrolabelaw17_top.j1] at h⟩
  | k + 1 => by
    obtain ⟨ih0, ih1⟩ := astrolabelaw17_top.mono_l k
    refine ⟨?_, ?_⟩
    · intro y0 y1
      unfold astrolabelaw17_top.l0
      repeat' first
      | (with_reducible exact ih0 _ _)
      | (with_reducible exact ih1 _ _ _)
      | (with_reducible exact LeO.refl _)
      | (with_reducible exact LeO.none _)
      | (with_reducible refine LeO.ite ?_ ?_)
      | (with_reducible refine LeO.bind ?_ (fun _ => ?_))
      | exact ih0 _ _
      | exact ih1 _ _ _
      | exact LeO.none _
      | refine LeO.ite ?_ ?_
      | refine LeO.bind ?_ (fun _ => ?_)
    · intro y0 y1 y2
      unfold astrolabelaw17_top.j1
      repeat' first
      | (with_reducible exact ih0 _ _)
      | (with_reducible exact ih1 _ _ _)
      | (with_reducible exact LeO.refl _)
      | (with_reducible exact LeO.none _)
      | (with_reducible refine LeO.ite ?_ ?_)
      | (with_reducible refine LeO.bind ?_ (fun _ => ?_))
      | exact ih0 _ _
      | exact ih1 _ _ _
      | exact LeO.none _
      | refine LeO.ite ?_ ?_
      | refine LeO.bind ?_ (fun _ => ?_)
theorem astrolabelaw17_top.mono : ∀ a0 k, LeO (astrolabelaw17_top.f k a0) (astrolabelaw17_top.f (k + 1) a0) := by
  intro a0 k
  obtain ⟨ih0, ih1⟩ := astrolabelaw17_top.mono_l k
  unfold astrolabelaw17_top.f
  repeat' first
      | (with_reducible exact ih0 _ _)
      | (with_reducible exact ih1 _ _ _)
      | (with_reducible exact LeO.refl _)
      | (with_reducible exact LeO.none _)
      | (with_reducible refine LeO.ite ?_ ?_)
      | (with_reducible refine LeO.bind ?_ (fun _ => ?_))
      | exact ih0 _ _
      | exact ih1 _ _ _
      | exact LeO.none _
      | refine LeO.ite ?_ ?_
      | refine LeO.bind ?_ (fun _ => ?_)
set_option maxHeartbeats 8000000 in
set_option maxRecDepth 100000 in
theorem astrolabelaw17_top.calls (k : Nat) (A0 : Option Addr) (c0 : Nat) (l0 : List (S47)) (r : Bool) (w : World) (hr0 : Kd.C k47 w A0 l0.length l0) (hc0 : l0.length ≤ c0) (h : astrolabelaw17_top.f k l0 = some r) :
    Calls Try.prog 19 #[.slice A0 l0.length c0] w fun e w' => e = .returned (.bool r) ∧ Drawn0 w w' := by
  have HR0 := Aside0.mk hr0
  have HC0 := Aside0.mk hc0
  clear hr0 hc0
  have H : (astrolabelaw17_top.l0 k l0 0) = some r := h
  clear h
  have H' := Aside0.mk H
  clear H
  go_enter Try.func19, Try.ntmps19
  go_wp2
  go_loopg [3] k (fun kq v3 w' => ∃ (x3_1 : Int), v3 = .int .i64 x3_1 ∧ Aside0 (astrolabelaw17_top.l0 kq l0 x3_1 = some r) ∧ Aside0 (kq ≤ k) ∧ Drawn0 w w')
  case atStart => exact ⟨(0), (by first | rfl | (simp; done) | (simp [*]; done)), H', ⟨Nat.le_refl _⟩, by repeat (first | exact Drawn0.refl _ | apply Drawn0.step)⟩
  case round =>
    clear H'
    try clear c1
    obtain ⟨x3_1, rfl, HA, HK1, ⟨m1, rfl⟩⟩ := hrel
    cases gk with
    | zero => exact absurd HA.out (by simp [astrolabelaw17_top.l0])
    | succ k1 =>
      have H := HA.out
      clear HA
      simp only [astrolabelaw17_top.l0] at H
      by_cases c2 : x3_1 < (l0.length : Int)
      · rw [if_pos c2] at H
        have c2b0 : decide (x3_1 < (l0.length : Int)) = true := decide_eq_true c2
        clear c2
        have HC3 := Aside0.mk H
        clear H
        go_upto_region 4 with (fail)
        go_cut [39] (fun v39 wc => ∃ (kq : Nat) (x39_2 : Bool), v39 = .bool x39_2 ∧ Aside0 (astrolabelaw17_top.j1 kq l0 x3_1 x39_2 = some r) ∧ Aside0 (kq ≤ k1) ∧ Drawn0 w wc)
        case first =>
          have H := HC3.out
          clear HC3
          by_cases c4 : 0 ≤ x3_1
          · rw [if_pos c4] at H
            have c4b0 : decide (0 ≤ x3_1) = true := decide_eq_true c4
            clear c4
            (first | rw [c4b0] | (simp only [i64_w, i32_w]; rw [c4b0]) | skip)
            by_cases c5 : ((rd_T47 l0 x3_1).f2) = 9223372036854775807
            · rw [if_pos c5] at H
              have c5b0 : (((rd_T47 l0 x3_1).f2) == 9223372036854775807) = true := beq_iff_eq.mpr c5
              have c5b1 : (((rd_T47 l0 x3_1).f2) != 9223372036854775807) = false := bne_eq_false_iff_eq.mpr c5
              clear c5
              have H' := Aside0.mk H
              clear H
              have p497 : 0 ≤ (x3_1 : Int) := of_decide_eq_true (by first | (with_reducible assumption) | assumption)
              have q497 : x3_1 < (l0.length : Int) := of_decide_eq_true (by first | (with_reducible assumption) | assumption)
              obtain ⟨ad497, e497, hx497_0, hx497_1, hx497_2, hx497_3, hx497_4, hx497_5⟩ := at_T47 HR0.out x3_1 p497 q497
              cases e497
              replace p497 := eq_true p497
              replace q497 := eq_true q497
              go_wp2
              go_meet
              case rel => exact ⟨_, (true), (by first | rfl | (simp; done) | (simp [*]; done)), H', ⟨by have := HK1.out; first | omega | exact Nat.le_refl _⟩, by repeat (first | exact Drawn0.refl _ | apply Drawn0.step)⟩
            · rw [if_neg c5] at H
              have c5b0 : (((rd_T47 l0 x3_1).f2) == 9223372036854775807) = false := beq_eq_false_iff_ne.mpr c5
              have c5b1 : (((rd_T47 l0 x3_1).f2) != 9223372036854775807) = true := bne_iff_ne.mpr c5
              by_cases c6 : ((rd_T47 l0 x3_1).f3) = 9223372036854775807
              · rw [if_pos c6] at H
                have c6b0 : (((rd_T47 l0 x3_1).f3) == 9223372036854775807) = true := beq_iff_eq.mpr c6
                have c6b1 : (((rd_T47 l0 x3_1).f3) != 9223372036854775807) = false := bne_eq_false_iff_eq.mpr c6
                clear c6
                have H' := Aside0.mk H
                clear H
                have p497 : 0 ≤ (x3_1 : Int) := of_decide_eq_true (by first | (with_reducible assumption) | assumption)
                have q497 : x3_1 < (l0.length : Int) := of_decide_eq_true (by first | (with_reducible assumption) | assumption)
                obtain ⟨ad497, e497, hx497_0, hx497_1, hx497_2, hx497_3, hx497_4, hx497_5⟩ := at_T47 HR0.out x3_1 p497 q497
                cases e497
                replace p497 := eq_true p497
                replace q497 := eq_true q497
                have p498 : 0 ≤ (x3_1 : Int) := of_decide_eq_true (by first | (with_reducible assumption) | assumption)
                have q498 : x3_1 < (l0.length : Int) := of_decide_eq_true (by first | (with_reducible assumption) | assumption)
                obtain ⟨ad498, e498, hx498_0, hx498_1, hx498_2, hx498_3, hx498_4, hx498_5⟩ := at_T47 HR0.out x3_1 p498 q498
                obtain rfl : ad497 = ad498 := (by injection e498)
                replace p498 := eq_true p498
                replace q498 := eq_true q498
                go_wp2
                go_meet
                case rel => exact ⟨_, (true), (by first | rfl | (simp; done) | (simp [*]; done)), H', ⟨by have := HK1.out; first | omega | exact Nat.le_refl _⟩, by repeat (first | exact Drawn0.refl _ | apply Drawn0.step)⟩
              · rw [if_neg c6] at H
                have c6b0 : (((rd_T47 l0 x3_1).f3) == 9223372036854775807) = false := beq_eq_false_iff_ne.mpr c6
                have c6b1 : (((rd_T47 l0 x3_1).f3) != 9223372036854775807) = true := bne_iff_ne.mpr c6
                by_cases c7 : ((rd_T47 l0 x3_1).f4) = 9223372036854775807
                · rw [if_pos c7] at H
                  have c7b0 : (((rd_T47 l0 x3_1).f4) == 9223372036854775807) = true := beq_iff_eq.mpr c7
                  have c7b1 : (((rd_T47 l0 x3_1).f4) != 9223372036854775807) = false := bne_eq_false_iff_eq.mpr c7
                  clear c7
                  have H' := Aside0.mk H
                  clear H
                  have p497 : 0 ≤ (x3_1 : Int) := of_decide_eq_true (by first | (with_reducible assumption) | assumption)
                  have q497 : x3_1 < (l0.length : Int) := of_decide_eq_true (by first | (with_reducible assumption) | assumption)
                  obtain ⟨ad497, e497, hx497_0, hx497_1, hx497_2, hx497_3, hx497_4, hx497_5⟩ := at_T47 HR0.out x3_1 p497 q497
                  cases e497
                  replace p497 := eq_true p497
                  replace q497 := eq_true q497
                  have p498 : 0 ≤ (x3_1 : Int) := of_decide_eq_true (by first | (with_reducible assumption) | assumption)
                  have q498 : x3_1 < (l0.length : Int) := of_decide_eq_true (by first | (with_reducible assumption) | assumption)
                  obtain ⟨ad498, e498, hx498_0, hx498_1, hx498_2, hx498_3, hx498_4, hx498_5⟩ := at_T47 HR0.out x3_1 p498 q498
                  obtain rfl : ad497 = ad498 := (by injection e498)
                  replace p498 := eq_true p498
                  replace q498 := eq_true q498
                  have p499 : 0 ≤ (x3_1 : Int) := of_decide_eq_true (by first | (with_reducible assumption) | assumption)
                  have q499 : x3_1 < (l0.length : Int) := of_decide_eq_true (by first | (with_reducible assumption) | assumption)
                  obtain ⟨ad499, e499, hx499_0, hx499_1, hx499_2, hx499_3, hx499_4, hx499_5⟩ := at_T47 HR0.out x3_1 p499 q499
                  obtain rfl : ad497 = ad499 := (by injection e499)
                  replace p499 := eq_true p499
                  replace q499 := eq_true q499
                  go_wp2
                  go_meet
                  case rel => exact ⟨_, (true), (by first | rfl | (simp; done) | (simp [*]; done)), H', ⟨by have := HK1.out; first | omega | exact Nat.le_refl _⟩, by repeat (first | exact Drawn0.refl _ | apply Drawn0.step)⟩
                · rw [if_neg c7] at H
                  have c7b0 : (((rd_T47 l0 x3_1).f4) == 9223372036854775807) = false := beq_eq_false_iff_ne.mpr c7
                  have c7b1 : (((rd_T47 l0 x3_1).f4) != 9223372036854775807) = true := bne_iff_ne.mpr c7
                  have H' := Aside0.mk H
                  clear H
                  have p497 : 0 ≤ (x3_1 : Int) := of_decide_eq_true (by first | (with_reducible assumption) | assumption)
                  have q497 : x3_1 < (l0.length : Int) := of_decide_eq_true (by first | (with_reducible assumption) | assumption)
                  obtain ⟨ad497, e497, hx497_0, hx497_1, hx497_2, hx497_3, hx497_4, hx497_5⟩ := at_T47 HR0.out x3_1 p497 q497
                  cases e497
                  replace p497 := eq_true p497
                  replace q497 := eq_true q497
                  have p498 : 0 ≤ (x3_1 : Int) := of_decide_eq_true (by first | (with_reducible assumption) | assumption)
                  have q498 : x3_1 < (l0.length : Int) := of_decide_eq_true (by first | (with_reducible assumption) | assumption)
                  obtain ⟨ad498, e498, hx498_0, hx498_1, hx498_2, hx498_3, hx498_4, hx498_5⟩ := at_T47 HR0.out x3_1 p498 q498
                  obtain rfl : ad497 = ad498 := (by injection e498)
                  replace p498 := eq_true p498
                  replace q498 := eq_true q498
                  have p499 : 0 ≤ (x3_1 : Int) := of_decide_eq_true (by first | (with_reducible assumption) | assumption)
                  have q499 : x3_1 < (l0.length : Int) := of_decide_eq_true (by first | (with_reducible assumption) | assumption)
                  obtain ⟨ad499, e499, hx499_0, hx499_1, hx499_2, hx499_3, hx499_4, hx499_5⟩ := at_T47 HR0.out x3_1 p499 q499
                  obtain rfl : ad497 = ad499 := (by injection e499)
                  replace p499 := eq_true p499
                  replace q499 := eq_true q499
                  have p500 : 0 ≤ (x3_1 : Int) := of_decide_eq_true (by first | (with_reducible assumption) | assumption)
                  have q500 : x3_1 < (l0.length : Int) := of_decide_eq_true (by first | (with_reducible assumption) | assumption)
                  obtain ⟨ad500, e500, hx500_0, hx500_1, hx500_2, hx500_3, hx500_4, hx500_5⟩ := at_T47 HR0.out x3_1 p500 q500
                  obtain rfl : ad497 = ad500 := (by injection e500)
                  replace p500 := eq_true p500
                  replace q500 := eq_true q500
                  go_wp2
                  go_meet
                  case rel => exact ⟨_, ((((rd_T47 l0 x3_1).f1) == 9223372036854775807)), (by first | rfl | (simp; done) | (simp [*]; done)), H', ⟨by have := HK1.out; first | omega | exact Nat.le_refl _⟩, by repeat (first | exact Drawn0.refl _ | apply Drawn0.step)⟩
          · rw [if_neg c4] at H
            exact absurd H (by simp)
        case rest =>
          clear HC3
          try clear c1
          try clear c2
          try clear c2b0
          try clear p2
          try clear c4
          try clear c4b0
          try clear p4
          try clear q4
          try clear hx4
          try clear c5
          try clear c5b0
          try clear c5b1
          try clear p5
          try clear q5
          try clear hx5
          try clear c6
          try clear c6b0
          try clear c6b1
          try clear c7
          try clear c7b0
          try clear c7b1
          try clear hx497_0
          try clear hx497_1
          try clear hx497_2
          try clear hx497_3
          try clear hx497_4
          try clear hx497_5
          try clear hx498_0
          try clear hx498_1
          try clear hx498_2
          try clear hx498_3
          try clear hx498_4
          try clear hx498_5
          try clear hx499_0
          try clear hx499_1
          try clear hx499_2
          try clear hx499_3
          try clear hx499_4
          try clear hx499_5
          try clear hx500_0
          try clear hx500_1
          try clear hx500_2
          try clear hx500_3
          try clear hx500_4
          try clear hx500_5
          try clear p497
          try clear p498
          try clear p499
          try clear p500
          try clear q497
          try clear q498
          try clear q499
          try clear q500
          obtain ⟨kq, x39_2, rfl, HA, HJ2, ⟨mc2, rfl⟩⟩ := hcut
          cases kq with
          | zero => exact absurd HA.out (by simp [astrolabelaw17_top.j1])
          | succ kj2 =>
            have H := HA.out
            clear HA
            simp only [astrolabelaw17_top.j1] at H
            by_cases c8 : x39_2 = true
            · subst c8
              have H1 : (some true) = some r := by rw [if_pos rfl] at H; exact H
              clear H
              have H := H1
              clear H1
              obtain rfl := Option.some.inj H
              go_wp2
              go_ret
              exact ⟨by first | rfl | (simp; done) | (simp [*]; done), by repeat (first | exact Drawn0.refl _ | apply Drawn0.step)⟩
            · replace c8 := Bool.eq_false_iff.mpr c8
              subst c8
              have H1 : (astrolabelaw17_top.l0 kj2 l0 (wrap64 (x3_1 + 1))) = some r := by rw [if_neg (show ¬ (false = true) by decide)] at H; exact H
              clear H
              have H := H1
              clear H1
              have H' := Aside0.mk H
              clear H
              go_wp2
              go_roundg kj2
              case measure => have := HK1.out; have := HJ2.out; omega
              case rel => exact ⟨(wrap64 (x3_1 + 1)), (by first | rfl | (simp; done) | (simp [*]; done)), H', ⟨by have := HK1.out; have := HJ2.out; omega⟩, by repeat (first | exact Drawn0.refl _ | apply Drawn0.step)⟩
      · rw [if_neg c2] at H
        have c2b0 : decide (x3_1 < (l0.length : Int)) = false := decide_eq_false c2
        clear c2
        obtain rfl := Option.some.inj H
        go_wp2
        go_ret
        exact ⟨by first | rfl | (simp; done) | (simp [*]; done), by repeat (first | exact Drawn0.refl _ | apply Drawn0.step)⟩

end Go.Proofs.Ytccolpkjgjjipaa.Q
