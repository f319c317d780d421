-- written by myprint.py (wip/tools) out of the translation
import Derived.Test.YtgalkkolbobmbaaGreatQ0
import Derived.Test.YtgalkkolbobmbaaGreatQ3
import Derived.Test.YtgalkkolbobmbaaGreatQ4
import Derived.Test.YtgalkkolbobmbaaGreatQ6
namespace Go.Proofs.YtgalkkolbobmbaaGreat.Q
open Go.RowKit Go.Proofs.YtgalkkolbobmbaaGreatW.PrintWords Go.Proofs.YtgalkkolbobmbaaGreatW.PrintLast Go.Proofs.YtgalkkolbobmbaaGreatW.PrintMore
attribute [local go_sem] max2_int min2_int max_two min_two max_three min_three max_four min_four   -- for this text's walks alone
set_option linter.unusedVariables false
set_option linter.unusedSimpArgs false

/-! ### astrolaberef01_Lerp: function 81 -/
mutual
def astrolaberef01_Lerp.j0 : Nat → Int → Int → Int → Int → Option (Int × Int)
  | 0, _, _, _, _ => none
  | k + 1, x0, x1, x2, x3 => if x3 > 32 then (astrolaberef01_Lerp.j1 k x0 x1 x2 32) else (astrolaberef01_Lerp.j1 k x0 x1 x2 x3)
def astrolaberef01_Lerp.j1 : Nat → Int → Int → Int → Int → Option (Int × Int)
  | 0, _, _, _, _ => none
  | k + 1, x0, x1, x2, x3 => astrolaberef01_Lerp.l0 k x0 x1 x2 x3 1 0
def astrolaberef01_Lerp.l0 : Nat → Int → Int → Int → Int → Int → Int → Option (Int × Int)
  | 0, _, _, _, _, _, _ => none
  | k + 1, x0, x1, x2, x3, x10, x11 => if x11 < x3 then (astrolaberef01_Lerp.l0 k x0 x1 x2 x3 (wrap64 (2 * x10)) (wrap64 (x11 + 1))) else (if x2 < 0 then (astrolaberef01_Lerp.j3 k x0 x1 x3 x10 0) else (astrolaberef01_Lerp.j3 k x0 x1 x3 x10 x2))
def astrolaberef01_Lerp.j3 : Nat → Int → Int → Int → Int → Int → Option (Int × Int)
  | 0, _, _, _, _, _ => none
  | k + 1, x0, x1, x3, x10, x12 => if x12 > x10 then (astrolaberef01_Lerp.j4 k x0 x1 x3 x10) else (astrolaberef01_Lerp.j4 k x0 x1 x3 x12)
def astrolaberef01_Lerp.j4 : Nat → Int → Int → Int → Int → Option (Int × Int)
  | 0, _, _, _, _ => none
  | k + 1, x0, x1, x3, x12 => (astrolaberef01_Diff.f k x1 x0).bind fun bt247 => ((astrolaberef01_Of.f k bt247.1).bind fun bt249 => ((astrolaberef01_Of.f k x12).bind fun bt253 => ((astrolaberef01_Mul.f k bt249.1 bt249.2 bt253.1 bt253.2).bind fun bt257 => ((astrolaberef01_Down.f bt257.1 bt257.2 x3).bind fun bt261 => ((astrolaberef01_Held.f k bt261.1 bt261.2).bind fun bt265 => ((astrolaberef01_Sum.f k x0 bt265.1).bind fun bt267 => (if (wrap64 ((wrap64 (bt247.2 + bt265.2)) + bt267.2)) > 0 then (some (bt267.1, 1)) else (some (bt267.1, 0)))))))))
end
def astrolaberef01_Lerp.f (k : Nat) (a0 : Int) (a1 : Int) (a2 : Int) (a3 : Int) : Option (Int × Int) := if a3 < 0 then (astrolaberef01_Lerp.j0 k a0 a1 a2 0) else (astrolaberef01_Lerp.j0 k a0 a1 a2 a3)
theorem astrolaberef01_Lerp.mono_l : ∀ k, (∀ y0 y1 y2 y3, LeO (astrolaberef01_Lerp.j0 k y0 y1 y2 y3) (astrolaberef01_Lerp.j0 (k + 1) y0 y1 y2 y3)) ∧ (∀ y0 y1 y2 y3, LeO (astrolaberef01_Lerp.j1 k y0 y1 y2 y3) (astrolaberef01_Lerp.j1 (k + 1) y0 y1 y2 y3)) ∧ (∀ y0 y1 y2 y3 y4 y5, LeO (astrolaberef01_Lerp.l0 k y0 y1 y2 y3 y4 y5) (astrolaberef01_Lerp.l0 (k + 1) y0 y1 y2 y3 y4 y5)) ∧ (∀ y0 y1 y2 y3 y4, LeO (astrolaberef01_Lerp.j3 k y0 y1 y2 y3 y4) (astrolaberef01_Lerp.j3 (k + 1) y0 y1 y2 y3 y4)) ∧ (∀ y0 y1 y2 y3, LeO (astrolaberef01_Lerp.j4 k y0 y1 y2 y3) (astrolaberef01_Lerp.j4 (k + 1) y0 y1 y2 y3))
  | 0 => ⟨fun _ _ _ _ r h => by simp [astrolaberef01_Lerp.j0] at h, fun _ _ _ _ r h => by simp [astrolaberef01_Lerp.j1] at h, fun _ _ _ _ _ _ r h => by simp [astrolaberef01_Lerp.l0] at h, fun _ _ _ _ _ r h => by simp [astrolaberef01_Lerp.j3] at h, fun _ _ _ _ r h => by simp [astrolaberef01_Lerp.j4] at h⟩
  | k + 1 => by
    obtain ⟨ih0, ih1, ih2, ih3, ih4⟩ := astrolaberef01_Lerp.mono_l k
    refine ⟨?_, ?_, ?_, ?_, ?_⟩
    · intro y0 y1 y2 y3
      unfold astrolaberef01_Lerp.j0
      repeat' first
      | (with_reducible exact ih0 _ _ _ _)
      | (with_reducible exact ih1 _ _ _ _)
      | (with_reducible exact ih2 _ _ _ _ _ _)
      | (with_reducible exact ih3 _ _ _ _ _)
      | (with_reducible exact ih4 _ _ _ _)
      | (with_reducible exact astrolaberef01_Diff.mono _ _ _)
      | (with_reducible exact astrolaberef01_Held.mono _ _ _)
      | (with_reducible exact astrolaberef01_Mul.mono _ _ _ _ _)
      | (with_reducible exact astrolaberef01_Of.mono _ _)
      | (with_reducible exact astrolaberef01_Sum.mono _ _ _)
      | (with_reducible exact LeO.refl _)
      | (with_reducible exact LeO.none _)
      | (with_reducible refine LeO.ite ?_ ?_)
      | (with_reducible refine LeO.bind ?_ (fun _ => ?_))
      | exact ih0 _ _ _ _
      | exact ih1 _ _ _ _
      | exact ih2 _ _ _ _ _ _
      | exact ih3 _ _ _ _ _
      | exact ih4 _ _ _ _
      | exact astrolaberef01_Diff.mono _ _ _
      | exact astrolaberef01_Held.mono _ _ _
      | exact astrolaberef01_Mul.mono _ _ _ _ _
      | exact astrolaberef01_Of.mono _ _
      | exact astrolaberef01_Sum.mono _ _ _
      | exact LeO.none _
      | refine LeO.ite ?_ ?_
      | refine LeO.bind ?_ (fun _ => ?_)
    · intro y0 y1 y2 y3
      unfold astrolaberef01_Lerp.j1
      repeat' first
      | (with_reducible exact ih0 _ _ _ _)
      | (with_reducible exact ih1 _ _ _ _)
      | (with_reducible exact ih2 _ _ _ _ _ _)
      | (with_reducible exact ih3 _ _ _ _ _)
      | (with_reducible exact ih4 _ _ _ _)
      | (with_reducible exact astrolaberef01_Diff.mono _ _ _)
      | (with_reducible exact astrolaberef01_Held.mono _ _ _)
      | (with_reducible exact astrolaberef01_Mul.mono _ _ _ _ _)
      | (with_reducible exact astrolaberef01_Of.mono _ _)
      | (with_reducible exact astrolaberef01_Sum.mono _ _ _)
      | (with_reducible exact LeO.refl _)
      | (with_reducible exact LeO.none _)
      | (with_reducible refine LeO.ite ?_ ?_)
      | (with_reducible refine LeO.bind ?_ (fun _ => ?_))
      | exact ih0 _ _ _ _
      | exact ih1 _ _ _ _
      | exact ih2 _ _ _ _ _ _
      | exact ih3 _ _ _ _ _
      | exact ih4 _ _ _ _
      | exact astrolaberef01_Diff.mono _ _ _
      | exact astrolaberef01_Held.mono _ _ _
      | exact astrolaberef01_Mul.mono _ _ _ _ _
      | exact astrolaberef01_Of.mono _ _
      | exact astrolaberef01_Sum.mono _ _ _
      | exact LeO.none _
      | refine LeO.ite ?_ ?_
      | refine LeO.bind ?_ (fun _ => ?_)
    · intro y0 y1 y2 y3 y4 y5
      unfold astrolaberef01_Lerp.l0
      repeat' first
      | (with_reducible exact ih0 _ _ _ _)
      | (with_reducible exact ih1 _ _ _ _)
      | (with_reducible exact ih2 _ _ _ _ _ _)
      | (with_reducible exact ih3 _ _ _ _ _)
      | (with_reducible exact ih4 _ _ _ _)
      | (with_reducible exact astrolaberef01_Diff.mono _ _ _)
      | (with_reducible exact astrolaberef01_Held.mono _ _ _)
      | (with_reducible exact astrolaberef01_Mul.mono _ _ _ _ _)
      | (with_reducible exact astrolaberef01_Of.mono _ _)
      | (with_reducible exact astrolaberef01_Sum.mono _ _ _)
      | (with_reducible exact LeO.refl _)
      | (with_reducible exact LeO.none _)
      | (with_reducible refine LeO.ite ?_ ?_)
      | (with_reducible refine LeO.bind ?_ (fun _ => ?_))
      | exact ih0 _ _ _ _
      | exact ih1 _ _ _ _
      | exact ih2 _ _ _ _ _ _
      | exact ih3 _ _ _ _ _
      | exact ih4 _ _ _ _
      | exact astrolaberef01_Diff.mono _ _ _
      | exact astrolaberef01_Held.mono _ _ _
      | exact astrolaberef01_Mul.mono _ _ _ _ _
      | exact astrolaberef01_Of.mono _ _
      | exact astrolaberef01_Sum.mono _ _ _
      | exact LeO.none _
      | refine LeO.ite ?_ ?_
      | refine LeO.bind ?_ (fun _ => ?_)
    · intro y0 y1 y2 y3 y4
      unfold astrolaberef01_Lerp.j3
      repeat' first
      | (with_reducible exact ih0 _ _ _ _)
      | (with_reducible exact ih1 _ _ _ _)
      | (with_reducible exact ih2 _ _ _ _ _ _)
      | (with_reducible exact ih3 _ _ _ _ _)
      | (with_reducible exact ih4 _ _ _ _)
      | (with_reducible exact astrolaberef01_Diff.mono _ _ _)
      | (with_reducible exact astrolaberef01_Held.mono _ _ _)
      | (with_reducible exact astrolaberef01_Mul.mono _ _ _ _ _)
      | (with_reducible exact astrolaberef01_Of.mono _ _)
      | (with_reducible exact astrolaberef01_Sum.mono _ _ _)
      | (with_reducible exact LeO.refl _)
      | (with_reducible exact LeO.none _)
      | (with_reducible refine LeO.ite ?_ ?_)
      | (with_reducible refine LeO.bind ?_ (fun _ => ?_))
      | exact ih0 _ _ _ _
      | exact ih1 _ _ _ _
      | exact ih2 _ _ _ _ _ _
      | exact ih3 _ _ _ _ _
      | exact ih4 _ _ _ _
      | exact astrolaberef01_Diff.mono _ _ _
      | exact astrolaberef01_Held.mono _ _ _
      | exact astrolaberef01_Mul.mono _ _ _ _ _
      | exact astrolaberef01_Of.mono _ _
      | exact astrolaberef01_Sum.mono _ _ _
      | exact LeO.none _
      | refine LeO.ite ?_ ?_
      | refine LeO.bind ?_ (fun _ => ?_)
    · intro y0 y1 y2 y3
      unfold astrolaberef01_Lerp.j4
      repeat' first
      | (with_reducible exact ih0 _ _ _ _)
      | (with_reducible exact ih1 _ _ _ _)
      | (with_reducible exact ih2 _ _ _ _ _ _)
      | (with_reducible exact ih3 _ _ _ _ _)
      | (with_reducible exact ih4 _ _ _ _)
      | (with_reducible exact astrolaberef01_Diff.mono _ _ _)
      | (with_reducible exact astrolaberef01_Held.mono _ _ _)
      | (with_reducible exact astrolaberef01_Mul.mono _ _ _ _ _)
      | (with_reducible exact astrolaberef01_Of.mono _ _)
      | (with_reducible exact astrolaberef01_Sum.mono _ _ _)
      | (with_reducible exact LeO.refl _)
      | (with_reducible exact LeO.none _)
      | (with_reducible refine LeO.ite ?_ ?_)
      | (with_reducible refine LeO.bind ?_ (fun _ => ?_))
      | exact ih0 _ _ _ _
      | exact ih1 _ _ _ _
      | exact ih2 _ _ _ _ _ _
      | exact ih3 _ _ _ _ _
      | exact ih4 _ _ _ _
      | exact astrolaberef01_Diff.mono _ _ _
      | exact astrolaberef01_Held.mono _ _ _
      | exact astrolaberef01_Mul.mono _ _ _ _ _
      | exact astrolaberef01_Of.mono _ _
      | exact astrolaberef01_Sum.mono _ _ _
      | exact LeO.none _
      | refine LeO.ite ?_ ?_
      | refine LeO.bind ?_ (fun _ => ?_)
theorem astrolaberef01_Lerp.mono : ∀ a0 a1 a2 a3 k, LeO (astrolaberef01_Lerp.f k a0 a1 a2 a3) (astrolaberef01_Lerp.f (k + 1) a0 a1 a2 a3) := by
  intro a0 a1 a2 a3 k
  obtain ⟨ih0, ih1, ih2, ih3, ih4⟩ := astrolaberef01_Lerp.mono_l k
  unfold astrolaberef01_Lerp.f
  repeat' first
      | (with_reducible exact ih0 _ _ _ _)
      | (with_reducible exact ih1 _ _ _ _)
      | (with_reducible exact ih2 _ _ _ _ _ _)
      | (with_reducible exact ih3 _ _ _ _ _)
      | (with_reducible exact ih4 _ _ _ _)
      | (with_reducible exact astrolaberef01_Diff.mono _ _ _)
      | (with_reducible exact astrolaberef01_Held.mono _ _ _)
      | (with_reducible exact astrolaberef01_Mul.mono _ _ _ _ _)
      | (with_reducible exact astrolaberef01_Of.mono _ _)
      | (with_reducible exact astrolaberef01_Sum.mono _ _ _)
      | (with_reducible exact LeO.refl _)
      | (with_reducible exact LeO.none _)
      | (with_reducible refine LeO.ite ?_ ?_)
      | (with_reducible refine LeO.bind ?_ (fun _ => ?_))
      | exact ih0 _ _ _ _
      | exact ih1 _ _ _ _
      | exact ih2 _ _ _ _ _ _
      | exact ih3 _ _ _ _ _
      | exact ih4 _ _ _ _
      | exact astrolaberef01_Diff.mono _ _ _
      | exact astrolaberef01_Held.mono _ _ _
      | exact astrolaberef01_Mul.mono _ _ _ _ _
      | exact astrolaberef01_Of.mono _ _
      | exact astrolaberef01_Sum.mono _ _ _
      | exact LeO.none _
      | refine LeO.ite ?_ ?_
      | refine LeO.bind ?_ (fun _ => ?_)
set_option maxHeartbeats 8000000 in
set_option maxRecDepth 100000 in
theorem astrolaberef01_Lerp.calls (k : Nat) (a0 : Int) (a1 : Int) (a2 : Int) (a3 : Int) (r1 : Int) (r2 : Int) (w : World) (h : astrolaberef01_Lerp.f k a0 a1 a2 a3 = some (r1, r2)) :
    Calls Tryz.prog 81 #[.int .i64 a0, .int .i64 a1, .int .i64 a2, .int .i64 a3] w fun e w' => e = .returned (.tuple #[.int .i64 r1, .int .i64 r2]) ∧ Below w.heap.size w w' := by
  have HB := Aside0.mk (Below.refl w.heap.size w)
  have H : (if a3 < 0 then (astrolaberef01_Lerp.j0 k a0 a1 a2 0) else (astrolaberef01_Lerp.j0 k a0 a1 a2 a3)) = some (r1, r2) := h
  clear h
  have HC5 := Aside0.mk H
  clear H
  go_enter Tryz.func81, Tryz.ntmps81
  go_upto_if 20 with (fail)
  go_cut [3] (fun v3 wc => ∃ (kq : Nat) (x3_4 : Int), v3 = .int .i64 x3_4 ∧ Aside0 (astrolaberef01_Lerp.j0 kq a0 a1 a2 x3_4 = some (r1, r2)) ∧ Aside0 (kq ≤ k) ∧ Aside0 (Below w.heap.size w wc))
  case first =>
    have H := HC5.out
    clear HC5
    by_cases c6 : a3 < 0
    · rw [if_pos c6] at H
      have c6b0 : decide (a3 < 0) = true := decide_eq_true c6
      clear c6
      (first | rw [c6b0] | (simp only [i64_w, i32_w]; rw [c6b0]) | skip)
      have H' := Aside0.mk H
      clear H
      go_wp2
      go_meet
      case rel => exact ⟨_, (0), (by first | rfl | (simp; done) | (simp [*]; done)), H', ⟨by first | omega | exact Nat.le_refl _⟩, ⟨by repeat (first | (with_reducible first | exact HB.out | apply below_alloc | apply pw_below_drewN | apply below_drew1) | exact HB.out)⟩⟩
    · rw [if_neg c6] at H
      have c6b0 : decide (a3 < 0) = false := decide_eq_false c6
      clear c6
      (first | rw [c6b0] | (simp only [i64_w, i32_w]; rw [c6b0]) | skip)
      have H' := Aside0.mk H
      clear H
      go_wp2
      go_meet
      case rel => exact ⟨_, (a3), (by first | rfl | (simp; done) | (simp [*]; done)), H', ⟨by first | omega | exact Nat.le_refl _⟩, ⟨by repeat (first | (with_reducible first | exact HB.out | apply below_alloc | apply pw_below_drewN | apply below_drew1) | exact HB.out)⟩⟩
  case rest =>
    clear HC5
    try clear p2
    try clear c6
    try clear c6b0
    obtain ⟨kq, x3_4, rfl, HA, HJ4, HB⟩ := hcut
    cases kq with
    | zero => exact absurd HA.out (by simp [astrolaberef01_Lerp.j0])
    | succ kj4 =>
      have H := HA.out
      clear HA
      simp only [astrolaberef01_Lerp.j0] at H
      have HC7 := Aside0.mk H
      clear H
      go_upto_if 22 with (fail)
      go_cut [3] (fun v3 wc => ∃ (kq : Nat) (x3_6 : Int), v3 = .int .i64 x3_6 ∧ Aside0 (astrolaberef01_Lerp.j1 kq a0 a1 a2 x3_6 = some (r1, r2)) ∧ Aside0 (kq ≤ kj4) ∧ Aside0 (Below w.heap.size w wc))
      case first =>
        have H := HC7.out
        clear HC7
        by_cases c8 : x3_4 > 32
        · rw [if_pos c8] at H
          have c8b0 : decide (32 < x3_4) = true := decide_eq_true c8
          clear c8
          (first | rw [c8b0] | (simp only [i64_w, i32_w]; rw [c8b0]) | skip)
          have H' := Aside0.mk H
          clear H
          go_wp2
          go_meet
          case rel => exact ⟨_, (32), (by first | rfl | (simp; done) | (simp [*]; done)), H', ⟨by have := HJ4.out; first | omega | exact Nat.le_refl _⟩, ⟨by repeat (first | (with_reducible first | exact HB.out | apply below_alloc | apply pw_below_drewN | apply below_drew1) | exact HB.out)⟩⟩
        · rw [if_neg c8] at H
          have c8b0 : decide (32 < x3_4) = false := decide_eq_false c8
          clear c8
          (first | rw [c8b0] | (simp only [i64_w, i32_w]; rw [c8b0]) | skip)
          have H' := Aside0.mk H
          clear H
          go_wp2
          go_meet
          case rel => exact ⟨_, (x3_4), (by first | rfl | (simp; done) | (simp [*]; done)), H', ⟨by have := HJ4.out; first | omega | exact Nat.le_refl _⟩, ⟨by repeat (first | (with_reducible first | exact HB.out | apply below_alloc | apply pw_below_drewN | apply below_drew1) | exact HB.out)⟩⟩
      case rest =>
        clear HC7
        try clear p2
        try clear c6
        try clear c6b0
        try clear c8
        try clear c8b0
        try clear p2
        obtain ⟨kq, x3_6, rfl, HA, HJ6, HB⟩ := hcut
        cases kq with
        | zero => exact absurd HA.out (by simp [astrolaberef01_Lerp.j1])
        | succ kj6 =>
          have H := HA.out
          clear HA
          simp only [astrolaberef01_Lerp.j1] at H
          have H' := Aside0.mk H
          clear H
          go_wp2
          go_loopg [10, 11] kj6 (fun kq v10 v11 w' => ∃ (x10_3 : Int) (x11_3 : Int), v10 = .int .i64 x10_3 ∧ v11 = .int .i64 x11_3 ∧ Aside0 (astrolaberef01_Lerp.l0 kq a0 a1 a2 x3_6 x10_3 x11_3 = some (r1, r2)) ∧ Aside0 (kq ≤ kj6) ∧ Aside0 (Below w.heap.size w w'))
          case atStart => exact ⟨(1), (0), (by first | rfl | (simp; done) | (simp [*]; done)), (by first | rfl | (simp; done) | (simp [*]; done)), H', ⟨Nat.le_refl _⟩, ⟨by repeat (first | (with_reducible first | exact HB.out | apply below_alloc | apply pw_below_drewN | apply below_drew1) | exact HB.out)⟩⟩
          case round =>
            clear H'
            try clear p2
            try clear c6
            try clear c6b0
            try clear c8
            try clear c8b0
            try clear p2
            obtain ⟨x10_3, x11_3, rfl, rfl, HA, HK3, HB⟩ := hrel
            cases gk with
            | zero => exact absurd HA.out (by simp [astrolaberef01_Lerp.l0])
            | succ k3 =>
              have H := HA.out
              clear HA
              simp only [astrolaberef01_Lerp.l0] at H
              by_cases c9 : x11_3 < x3_6
              · rw [if_pos c9] at H
                have c9b0 : decide (x11_3 < x3_6) = true := decide_eq_true c9
                clear c9
                have H' := Aside0.mk H
                clear H
                go_wp2
                go_roundg k3
                case measure => have := HJ4.out; have := HJ6.out; have := HK3.out; omega
                case rel => exact ⟨(wrap64 (2 * x10_3)), (wrap64 (x11_3 + 1)), (by first | rfl | (simp; done) | (simp [*]; done)), (by first | rfl | (simp; done) | (simp [*]; done)), H', ⟨by have := HJ4.out; have := HJ6.out; have := HK3.out; omega⟩, ⟨by repeat (first | (with_reducible first | exact HB.out | apply below_alloc | apply pw_below_drewN | apply below_drew1) | exact HB.out)⟩⟩
              · rw [if_neg c9] at H
                have c9b0 : decide (x11_3 < x3_6) = false := decide_eq_false c9
                clear c9
                have HC10 := Aside0.mk H
                clear H
                go_upto_if 32 with (fail)
                go_cut [12] (fun v12 wc => ∃ (kq : Nat) (x12_9 : Int), v12 = .int .i64 x12_9 ∧ Aside0 (astrolaberef01_Lerp.j3 kq a0 a1 x3_6 x10_3 x12_9 = some (r1, r2)) ∧ Aside0 (kq ≤ k3) ∧ Aside0 (Below w.heap.size w wc))
                case first =>
                  have H := HC10.out
                  clear HC10
                  by_cases c11 : a2 < 0
                  · rw [if_pos c11] at H
                    have c11b0 : decide (a2 < 0) = true := decide_eq_true c11
                    clear c11
                    (first | rw [c11b0] | (simp only [i64_w, i32_w]; rw [c11b0]) | skip)
                    have H' := Aside0.mk H
                    clear H
                    go_wp2
                    go_meet
                    case rel => exact ⟨_, (0), (by first | rfl | (simp; done) | (simp [*]; done)), H', ⟨by have := HJ4.out; have := HJ6.out; have := HK3.out; first | omega | exact Nat.le_refl _⟩, ⟨by repeat (first | (with_reducible first | exact HB.out | apply below_alloc | apply pw_below_drewN | apply below_drew1) | exact HB.out)⟩⟩
                  · rw [if_neg c11] at H
                    have c11b0 : decide (a2 < 0) = false := decide_eq_false c11
                    clear c11
                    (first | rw [c11b0] | (simp only [i64_w, i32_w]; rw [c11b0]) | skip)
                    have H' := Aside0.mk H
                    clear H
                    go_wp2
                    go_meet
                    case rel => exact ⟨_, (a2), (by first | rfl | (simp; done) | (simp [*]; done)), H', ⟨by have := HJ4.out; have := HJ6.out; have := HK3.out; first | omega | exact Nat.le_refl _⟩, ⟨by repeat (first | (with_reducible first | exact HB.out | apply below_alloc | apply pw_below_drewN | apply below_drew1) | exact HB.out)⟩⟩
                case rest =>
                  clear HC10
                  try clear c1
                  try clear p2
                  try clear c6
                  try clear c6b0
                  try clear p6
                  try clear c8
                  try clear c8b0
                  try clear c9
                  try clear c9b0
                  try clear c11
                  try clear c11b0
                  try clear p2
                  obtain ⟨kq, x12_9, rfl, HA, HJ9, HB⟩ := hcut
                  cases kq with
                  | zero => exact absurd HA.out (by simp [astrolaberef01_Lerp.j3])
                  | succ kj9 =>
                    have H := HA.out
                    clear HA
                    simp only [astrolaberef01_Lerp.j3] at H
                    have HC12 := Aside0.mk H
                    clear H
                    go_upto_if 35 with (fail)
                    go_cut [12] (fun v12 wc => ∃ (kq : Nat) (x12_11 : Int), v12 = .int .i64 x12_11 ∧ Aside0 (astrolaberef01_Lerp.j4 kq a0 a1 x3_6 x12_11 = some (r1, r2)) ∧ Aside0 (kq ≤ kj9) ∧ Aside0 (Below w.heap.size w wc))
                    case first =>
                      have H := HC12.out
                      clear HC12
                      by_cases c13 : x12_9 > x10_3
                      · rw [if_pos c13] at H
                        have c13b0 : decide (x10_3 < x12_9) = true := decide_eq_true c13
                        clear c13
                        (first | rw [c13b0] | (simp only [i64_w, i32_w]; rw [c13b0]) | skip)
                        have H' := Aside0.mk H
                        clear H
                        go_wp2
                        go_meet
                        case rel => exact ⟨_, (x10_3), (by first | rfl | (simp; done) | (simp [*]; done)), H', ⟨by have := HJ4.out; have := HJ6.out; have := HK3.out; have := HJ9.out; first | omega | exact Nat.le_refl _⟩, ⟨by repeat (first | (with_reducible first | exact HB.out | apply below_alloc | apply pw_below_drewN | apply below_drew1) | exact HB.out)⟩⟩
                      · rw [if_neg c13] at H
                        have c13b0 : decide (x10_3 < x12_9) = false := decide_eq_false c13
                        clear c13
                        (first | rw [c13b0] | (simp only [i64_w, i32_w]; rw [c13b0]) | skip)
                        have H' := Aside0.mk H
                        clear H
                        go_wp2
                        go_meet
                        case rel => exact ⟨_, (x12_9), (by first | rfl | (simp; done) | (simp [*]; done)), H', ⟨by have := HJ4.out; have := HJ6.out; have := HK3.out; have := HJ9.out; first | omega | exact Nat.le_refl _⟩, ⟨by repeat (first | (with_reducible first | exact HB.out | apply below_alloc | apply pw_below_drewN | apply below_drew1) | exact HB.out)⟩⟩
                    case rest =>
                      clear HC12
                      try clear c1
                      try clear p2
                      try clear c6
                      try clear c6b0
                      try clear p6
                      try clear c8
                      try clear c8b0
                      try clear c9
                      try clear c9b0
                      try clear c11
                      try clear c11b0
                      try clear c13
                      try clear c13b0
                      try clear p2
                      try clear p6
                      obtain ⟨kq, x12_11, rfl, HA, HJ11, HB⟩ := hcut
                      cases kq with
                      | zero => exact absurd HA.out (by simp [astrolaberef01_Lerp.j4])
                      | succ kj11 =>
                        have H := HA.out
                        clear HA
                        simp only [astrolaberef01_Lerp.j4] at H
                        replace H := Option.bind_eq_some_iff.mp H
                        obtain ⟨⟨t247, t248⟩, A140, H⟩ := H
                        replace H : ((astrolaberef01_Of.f kj11 t247).bind fun bt249 => ((astrolaberef01_Of.f kj11 x12_11).bind fun bt253 => ((astrolaberef01_Mul.f kj11 bt249.1 bt249.2 bt253.1 bt253.2).bind fun bt257 => ((astrolaberef01_Down.f bt257.1 bt257.2 x3_6).bind fun bt261 => ((astrolaberef01_Held.f kj11 bt261.1 bt261.2).bind fun bt265 => ((astrolaberef01_Sum.f kj11 a0 bt265.1).bind fun bt267 => (if (wrap64 ((wrap64 (t248 + bt265.2)) + bt267.2)) > 0 then (some (bt267.1, 1)) else (some (bt267.1, 0))))))))) = some (r1, r2) := H
                        have A14 := Aside0.mk A140
                        clear A140
                        replace H := Option.bind_eq_some_iff.mp H
                        obtain ⟨⟨t249, t252⟩, A150, H⟩ := H
                        replace H : ((astrolaberef01_Of.f kj11 x12_11).bind fun bt253 => ((astrolaberef01_Mul.f kj11 t249 t252 bt253.1 bt253.2).bind fun bt257 => ((astrolaberef01_Down.f bt257.1 bt257.2 x3_6).bind fun bt261 => ((astrolaberef01_Held.f kj11 bt261.1 bt261.2).bind fun bt265 => ((astrolaberef01_Sum.f kj11 a0 bt265.1).bind fun bt267 => (if (wrap64 ((wrap64 (t248 + bt265.2)) + bt267.2)) > 0 then (some (bt267.1, 1)) else (some (bt267.1, 0)))))))) = some (r1, r2) := H
                        have A15 := Aside0.mk A150
                        clear A150
                        replace H := Option.bind_eq_some_iff.mp H
                        obtain ⟨⟨t253, t256⟩, A160, H⟩ := H
                        replace H : ((astrolaberef01_Mul.f kj11 t249 t252 t253 t256).bind fun bt257 => ((astrolaberef01_Down.f bt257.1 bt257.2 x3_6).bind fun bt261 => ((astrolaberef01_Held.f kj11 bt261.1 bt261.2).bind fun bt265 => ((astrolaberef01_Sum.f kj11 a0 bt265.1).bind fun bt267 => (if (wrap64 ((wrap64 (t248 + bt265.2)) + bt267.2)) > 0 then (some (bt267.1, 1)) else (some (bt267.1, 0))))))) = some (r1, r2) := H
                        have A16 := Aside0.mk A160
                        clear A160
                        replace H := Option.bind_eq_some_iff.mp H
                        obtain ⟨⟨t257, t260⟩, A170, H⟩ := H
                        replace H : ((astrolaberef01_Down.f t257 t260 x3_6).bind fun bt261 => ((astrolaberef01_Held.f kj11 bt261.1 bt261.2).bind fun bt265 => ((astrolaberef01_Sum.f kj11 a0 bt265.1).bind fun bt267 => (if (wrap64 ((wrap64 (t248 + bt265.2)) + bt267.2)) > 0 then (some (bt267.1, 1)) else (some (bt267.1, 0)))))) = some (r1, r2) := H
                        have A17 := Aside0.mk A170
                        clear A170
                        replace H := Option.bind_eq_some_iff.mp H
                        obtain ⟨⟨t261, t264⟩, A180, H⟩ := H
                        replace H : ((astrolaberef01_Held.f kj11 t261 t264).bind fun bt265 => ((astrolaberef01_Sum.f kj11 a0 bt265.1).bind fun bt267 => (if (wrap64 ((wrap64 (t248 + bt265.2)) + bt267.2)) > 0 then (some (bt267.1, 1)) else (some (bt267.1, 0))))) = some (r1, r2) := H
                        have A18 := Aside0.mk A180
                        clear A180
                        replace H := Option.bind_eq_some_iff.mp H
                        obtain ⟨⟨t265, t266⟩, A190, H⟩ := H
                        replace H : ((astrolaberef01_Sum.f kj11 a0 t265).bind fun bt267 => (if (wrap64 ((wrap64 (t248 + t266)) + bt267.2)) > 0 then (some (bt267.1, 1)) else (some (bt267.1, 0)))) = some (r1, r2) := H
                        have A19 := Aside0.mk A190
                        clear A190
                        replace H := Option.bind_eq_some_iff.mp H
                        obtain ⟨⟨t267, t268⟩, A200, H⟩ := H
                        replace H : (if (wrap64 ((wrap64 (t248 + t266)) + t268)) > 0 then (some (t267, 1)) else (some (t267, 0))) = some (r1, r2) := H
                        have A20 := Aside0.mk A200
                        clear A200
                        by_cases c21 : (wrap64 ((wrap64 (t248 + t266)) + t268)) > 0
                        · rw [if_pos c21] at H
                          have c21b0 : decide (0 < (wrap64 ((wrap64 (t248 + t266)) + t268))) = true := decide_eq_true c21
                          clear c21
                          simp only [Option.some.injEq, Prod.mk.injEq] at H
                          obtain ⟨rfl, rfl⟩ := H
                          go_wp2_with (first | ((with_reducible refine gate_callee (f := 137) rfl ?_); refine goesL_ (some 40) rfl rfl Tryz.func137 (by kernel_rfl) rfl #[.int .i64 a1, .int .i64 a0] rfl (by (try simp only [List.map_toArray, List.map_cons, List.map_nil]); first | done | rfl | (simp only [List.length_drop, List.length_take]; rfl)) ?_; (with_reducible refine (astrolaberef01_Diff.calls kj11 a1 a0 t247 t248 _ A14.out).mono ?_); rintro e w22 ⟨rfl, hb⟩; refine ⟨_, rfl, ?_⟩; have n0_ := Aside0.mk (below_step (by repeat (first | (with_reducible first | exact HB.out | apply below_alloc | apply pw_below_drewN | apply below_drew1) | exact HB.out)) hb); clear HB; have HB := n0_; clear n0_; (try clear hb); (try clear hb2); (try clear hk); (try clear hi)) | ((with_reducible refine gate_callee (f := 141) rfl ?_); refine goesL_ (some 45) rfl rfl Tryz.func141 (by kernel_rfl) rfl #[.int .i64 t247] rfl (by (try simp only [List.map_toArray, List.map_cons, List.map_nil]); first | done | rfl | (simp only [List.length_drop, List.length_take]; rfl)) ?_; (with_reducible refine (astrolaberef01_Of.calls kj11 t247 t249 t252 _ A15.out).mono ?_); rintro e w23 ⟨v250, rfl, ho0, hb⟩; refine ⟨_, rfl, ?_⟩; have n0_ := Aside0.mk (Kd.R_lower ho0 (below_size (by repeat (first | (with_reducible first | exact HB.out | apply below_alloc | apply pw_below_drewN | apply below_drew1) | exact HB.out)))); have n1_ := Aside0.mk (below_step (by repeat (first | (with_reducible first | exact HB.out | apply below_alloc | apply pw_below_drewN | apply below_drew1) | exact HB.out)) hb); clear HB; have HO251 := n0_; have HB := n1_; clear n0_ n1_; (try clear hb); (try clear hb2); (try clear hk); (try clear hi); (try clear ho0)) | ((with_reducible refine gate_callee (f := 141) rfl ?_); refine goesL_ (some 47) rfl rfl Tryz.func141 (by kernel_rfl) rfl #[.int .i64 x12_11] rfl (by (try simp only [List.map_toArray, List.map_cons, List.map_nil]); first | done | rfl | (simp only [List.length_drop, List.length_take]; rfl)) ?_; (with_reducible refine (astrolaberef01_Of.calls kj11 x12_11 t253 t256 _ A16.out).mono ?_); rintro e w24 ⟨v254, rfl, ho0, hb⟩; refine ⟨_, rfl, ?_⟩; have n0_ := Aside0.mk (Kd.R_elder' (by (with_reducible repeat (first | apply Kd.R_alloc | apply Kd.R_drewN | apply Kd.R_drew)); exact HO251.out) (Kd.R_base ho0) hb); have n1_ := Aside0.mk (Kd.R_lower (Kd.R_new' ho0 (Kd.R_lt (by (with_reducible repeat (first | apply Kd.R_alloc | apply Kd.R_drewN | apply Kd.R_drew)); exact HO251.out))) (below_size (by repeat (first | (with_reducible first | exact HB.out | apply below_alloc | apply pw_below_drewN | apply below_drew1) | exact HB.out)))); have n2_ := Aside0.mk (below_step (by repeat (first | (with_reducible first | exact HB.out | apply below_alloc | apply pw_below_drewN | apply below_drew1) | exact HB.out)) hb); clear HO251; clear HB; have HO251 := n0_; have HO255 := n1_; have HB := n2_; clear n0_ n1_ n2_; (try clear hb); (try clear hb2); (try clear hk); (try clear hi); (try clear ho0); obtain ⟨Ao25, co25, eo25⟩ := Kd.R_slice HO251.out; subst eo25; obtain ⟨Ao26, co26, eo26⟩ := Kd.R_slice HO255.out; subst eo26) | ((with_reducible refine gate_callee (f := 140) rfl ?_); refine goesL_ (some 48) rfl rfl Tryz.func140 (by kernel_rfl) rfl #[.agg #[.slice Ao25 t249.length co25, .bool t252], .agg #[.slice Ao26 t253.length co26, .bool t256]] rfl (by (try simp only [List.map_toArray, List.map_cons, List.map_nil]); first | done | rfl | (simp only [List.length_drop, List.length_take]; rfl)) ?_; (with_reducible refine (astrolaberef01_Mul.calls kj11 _ _ t249 t252 _ _ t253 t256 t257 t260 _ ?side1 ?side2 ?side3 ?side4 A17.out).mono ?_); (case side1 => repeat (first | exact (Kd.R_reads' HO251.out).2.2 | (with_reducible refine Kd.C_alloc ?_ _) | (with_reducible refine Kd.C_drewN ?_ _) | (with_reducible refine Kd.C_drew ?_))); (case side2 => exact (Kd.R_reads' HO251.out).2.1); (case side3 => repeat (first | exact (Kd.R_reads' HO255.out).2.2 | (with_reducible refine Kd.C_alloc ?_ _) | (with_reducible refine Kd.C_drewN ?_ _) | (with_reducible refine Kd.C_drew ?_))); (case side4 => exact (Kd.R_reads' HO255.out).2.1); rintro e w27 ⟨v258, rfl, ho0, hb⟩; refine ⟨_, rfl, ?_⟩; have n0_ := Aside0.mk (Kd.R_below (by (with_reducible repeat (first | apply Kd.R_alloc | apply Kd.R_drewN | apply Kd.R_drew)); exact HO251.out) hb); have n1_ := Aside0.mk (Kd.R_below (by (with_reducible repeat (first | apply Kd.R_alloc | apply Kd.R_drewN | apply Kd.R_drew)); exact HO255.out) hb); have n2_ := Aside0.mk (Kd.V_lower (Kd.V_mono (ok' := fun k_ => some k_ ≠ (.slice Ao25 t249.length co25 : Value).ownBlock ∧ some k_ ≠ (.slice Ao26 t253.length co26 : Value).ownBlock) ho0 (fun k_ hk_ => ⟨(Kd.fresh' (Kd.R_lt (by (with_reducible repeat (first | apply Kd.R_alloc | apply Kd.R_drewN | apply Kd.R_drew)); exact HO251.out)) k_ hk_), (Kd.fresh' (Kd.R_lt (by (with_reducible repeat (first | apply Kd.R_alloc | apply Kd.R_drewN | apply Kd.R_drew)); exact HO255.out)) k_ hk_)⟩)) (below_size (by repeat (first | (with_reducible first | exact HB.out | apply below_alloc | apply pw_below_drewN | apply below_drew1) | exact HB.out)))); have n3_ := Aside0.mk (below_step (by repeat (first | (with_reducible first | exact HB.out | apply below_alloc | apply pw_below_drewN | apply below_drew1) | exact HB.out)) hb); clear HO251; clear HO255; clear HB; have HO251 := n0_; have HO255 := n1_; have HO259 := n2_; have HB := n3_; clear n0_ n1_ n2_ n3_; (try clear hb); (try clear hb2); (try clear hk); (try clear hi); (try clear ho0); obtain ⟨Ao28, co28, eo28⟩ := Kd.V_slice HO259.out; subst eo28) | ((with_reducible refine gate_callee (f := 139) rfl ?_); refine goesL_ (some 50) rfl rfl Tryz.func139 (by kernel_rfl) rfl #[.agg #[.slice Ao28 t257.length co28, .bool t260], .int .i64 x3_6] rfl (by (try simp only [List.map_toArray, List.map_cons, List.map_nil]); first | done | rfl | (simp only [List.length_drop, List.length_take]; rfl)) ?_; (with_reducible refine (astrolaberef01_Down.calls (fun k_ => (some k_ ≠ (.slice Ao25 t249.length co25 : Value).ownBlock ∧ some k_ ≠ (.slice Ao26 t253.length co26 : Value).ownBlock)) _ _ t257 t260 x3_6 t261 t264 _ ?side1 A18.out).mono ?_); (case side1 => exact HO259.out); rintro e w29 ⟨v262, rfl, ho0, hb⟩; refine ⟨_, rfl, ?_⟩; have n0_ := Aside0.mk (Kd.R_below (by (with_reducible repeat (first | apply Kd.R_alloc | apply Kd.R_drewN | apply Kd.R_drew)); exact HO251.out) hb); have n1_ := Aside0.mk (Kd.R_below (by (with_reducible repeat (first | apply Kd.R_alloc | apply Kd.R_drewN | apply Kd.R_drew)); exact HO255.out) hb); have n2_ := Aside0.mk (Kd.V_below (by (with_reducible repeat (first | apply Kd.V_alloc | apply Kd.V_drewN | apply Kd.V_drew)); exact HO259.out) hb); have n3_ := Aside0.mk (Kd.V_lower (Kd.V_mono (ok' := fun k_ => some k_ ≠ (.slice Ao25 t249.length co25 : Value).ownBlock ∧ some k_ ≠ (.slice Ao26 t253.length co26 : Value).ownBlock) ho0 (fun k_ hk_ => ⟨Or.elim hk_ (fun hs_ => hs_.1) (fun hn_ => (Kd.fresh' (Kd.R_lt (by (with_reducible repeat (first | apply Kd.R_alloc | apply Kd.R_drewN | apply Kd.R_drew)); exact HO251.out)) k_ hn_)), Or.elim hk_ (fun hs_ => hs_.2) (fun hn_ => (Kd.fresh' (Kd.R_lt (by (with_reducible repeat (first | apply Kd.R_alloc | apply Kd.R_drewN | apply Kd.R_drew)); exact HO255.out)) k_ hn_))⟩)) (below_size (by repeat (first | (with_reducible first | exact HB.out | apply below_alloc | apply pw_below_drewN | apply below_drew1) | exact HB.out)))); have n4_ := Aside0.mk (below_step (by repeat (first | (with_reducible first | exact HB.out | apply below_alloc | apply pw_below_drewN | apply below_drew1) | exact HB.out)) hb); clear HO251; clear HO255; clear HO259; clear HB; have HO251 := n0_; have HO255 := n1_; have HO259 := n2_; have HO263 := n3_; have HB := n4_; clear n0_ n1_ n2_ n3_ n4_; (try clear hb); (try clear hb2); (try clear hk); (try clear hi); (try clear ho0); obtain ⟨Ao30, co30, eo30⟩ := Kd.V_slice HO263.out; subst eo30) | ((with_reducible refine gate_callee (f := 138) rfl ?_); refine goesL_ (some 51) rfl rfl Tryz.func138 (by kernel_rfl) rfl #[.agg #[.slice Ao30 t261.length co30, .bool t264]] rfl (by (try simp only [List.map_toArray, List.map_cons, List.map_nil]); first | done | rfl | (simp only [List.length_drop, List.length_take]; rfl)) ?_; (with_reducible refine (astrolaberef01_Held.calls kj11 _ _ t261 t264 t265 t266 _ ?side1 ?side2 A19.out).mono ?_); (case side1 => repeat (first | exact (Kd.V_reads' HO263.out).2.2 | (with_reducible refine Kd.C_alloc ?_ _) | (with_reducible refine Kd.C_drewN ?_ _) | (with_reducible refine Kd.C_drew ?_))); (case side2 => exact (Kd.V_reads' HO263.out).2.1); rintro e w31 ⟨rfl, hb⟩; refine ⟨_, rfl, ?_⟩; have n0_ := Aside0.mk (Kd.R_below (by (with_reducible repeat (first | apply Kd.R_alloc | apply Kd.R_drewN | apply Kd.R_drew)); exact HO251.out) hb); have n1_ := Aside0.mk (Kd.R_below (by (with_reducible repeat (first | apply Kd.R_alloc | apply Kd.R_drewN | apply Kd.R_drew)); exact HO255.out) hb); have n2_ := Aside0.mk (Kd.V_below (by (with_reducible repeat (first | apply Kd.V_alloc | apply Kd.V_drewN | apply Kd.V_drew)); exact HO259.out) hb); have n3_ := Aside0.mk (Kd.V_below (by (with_reducible repeat (first | apply Kd.V_alloc | apply Kd.V_drewN | apply Kd.V_drew)); exact HO263.out) hb); have n4_ := Aside0.mk (below_step (by repeat (first | (with_reducible first | exact HB.out | apply below_alloc | apply pw_below_drewN | apply below_drew1) | exact HB.out)) hb); clear HO251; clear HO255; clear HO259; clear HO263; clear HB; have HO251 := n0_; have HO255 := n1_; have HO259 := n2_; have HO263 := n3_; have HB := n4_; clear n0_ n1_ n2_ n3_ n4_; (try clear hb); (try clear hb2); (try clear hk); (try clear hi)) | ((with_reducible refine gate_callee (f := 142) rfl ?_); refine goesL_ (some 57) rfl rfl Tryz.func142 (by kernel_rfl) rfl #[.int .i64 a0, .int .i64 t265] rfl (by (try simp only [List.map_toArray, List.map_cons, List.map_nil]); first | done | rfl | (simp only [List.length_drop, List.length_take]; rfl)) ?_; (with_reducible refine (astrolaberef01_Sum.calls kj11 a0 t265 t267 t268 _ A20.out).mono ?_); rintro e w32 ⟨rfl, hb⟩; refine ⟨_, rfl, ?_⟩; have n0_ := Aside0.mk (Kd.R_below (by (with_reducible repeat (first | apply Kd.R_alloc | apply Kd.R_drewN | apply Kd.R_drew)); exact HO251.out) hb); have n1_ := Aside0.mk (Kd.R_below (by (with_reducible repeat (first | apply Kd.R_alloc | apply Kd.R_drewN | apply Kd.R_drew)); exact HO255.out) hb); have n2_ := Aside0.mk (Kd.V_below (by (with_reducible repeat (first | apply Kd.V_alloc | apply Kd.V_drewN | apply Kd.V_drew)); exact HO259.out) hb); have n3_ := Aside0.mk (Kd.V_below (by (with_reducible repeat (first | apply Kd.V_alloc | apply Kd.V_drewN | apply Kd.V_drew)); exact HO263.out) hb); have n4_ := Aside0.mk (below_step (by repeat (first | (with_reducible first | exact HB.out | apply below_alloc | apply pw_below_drewN | apply below_drew1) | exact HB.out)) hb); clear HO251; clear HO255; clear HO259; clear HO263; clear HB; have HO251 := n0_; have HO255 := n1_; have HO259 := n2_; have HO263 := n3_; have HB := n4_; clear n0_ n1_ n2_ n3_ n4_; (try clear hb); (try clear hb2); (try clear hk); (try clear hi)))
                          go_ret2
                          exact ⟨by first | rfl | (simp [errW_none, errW_some] <;> rfl) | (simp [*, errW_none, errW_some] <;> rfl), by repeat (first | (with_reducible first | exact HB.out | apply below_alloc | apply pw_below_drewN | apply below_drew1) | exact HB.out)⟩
                        · rw [if_neg c21] at H
                          have c21b0 : decide (0 < (wrap64 ((wrap64 (t248 + t266)) + t268))) = false := decide_eq_false c21
                          clear c21
                          simp only [Option.some.injEq, Prod.mk.injEq] at H
                          obtain ⟨rfl, rfl⟩ := H
                          go_wp2_with (first | ((with_reducible refine gate_callee (f := 137) rfl ?_); refine goesL_ (some 40) rfl rfl Tryz.func137 (by kernel_rfl) rfl #[.int .i64 a1, .int .i64 a0] rfl (by (try simp only [List.map_toArray, List.map_cons, List.map_nil]); first | done | rfl | (simp only [List.length_drop, List.length_take]; rfl)) ?_; (with_reducible refine (astrolaberef01_Diff.calls kj11 a1 a0 t247 t248 _ A14.out).mono ?_); rintro e w33 ⟨rfl, hb⟩; refine ⟨_, rfl, ?_⟩; have n0_ := Aside0.mk (below_step (by repeat (first | (with_reducible first | exact HB.out | apply below_alloc | apply pw_below_drewN | apply below_drew1) | exact HB.out)) hb); clear HB; have HB := n0_; clear n0_; (try clear hb); (try clear hb2); (try clear hk); (try clear hi)) | ((with_reducible refine gate_callee (f := 141) rfl ?_); refine goesL_ (some 45) rfl rfl Tryz.func141 (by kernel_rfl) rfl #[.int .i64 t247] rfl (by (try simp only [List.map_toArray, List.map_cons, List.map_nil]); first | done | rfl | (simp only [List.length_drop, List.length_take]; rfl)) ?_; (with_reducible refine (astrolaberef01_Of.calls kj11 t247 t249 t252 _ A15.out).mono ?_); rintro e w34 ⟨v250, rfl, ho0, hb⟩; refine ⟨_, rfl, ?_⟩; have n0_ := Aside0.mk (Kd.R_lower ho0 (below_size (by repeat (first | (with_reducible first | exact HB.out | apply below_alloc | apply pw_below_drewN | apply below_drew1) | exact HB.out)))); have n1_ := Aside0.mk (below_step (by repeat (first | (with_reducible first | exact HB.out | apply below_alloc | apply pw_below_drewN | apply below_drew1) | exact HB.out)) hb); clear HB; have HO251 := n0_; have HB := n1_; clear n0_ n1_; (try clear hb); (try clear hb2); (try clear hk); (try clear hi); (try clear ho0)) | ((with_reducible refine gate_callee (f := 141) rfl ?_); refine goesL_ (some 47) rfl rfl Tryz.func141 (by kernel_rfl) rfl #[.int .i64 x12_11] rfl (by (try simp only [List.map_toArray, List.map_cons, List.map_nil]); first | done | rfl | (simp only [List.length_drop, List.length_take]; rfl)) ?_; (with_reducible refine (astrolaberef01_Of.calls kj11 x12_11 t253 t256 _ A16.out).mono ?_); rintro e w35 ⟨v254, rfl, ho0, hb⟩; refine ⟨_, rfl, ?_⟩; have n0_ := Aside0.mk (Kd.R_elder' (by (with_reducible repeat (first | apply Kd.R_alloc | apply Kd.R_drewN | apply Kd.R_drew)); exact HO251.out) (Kd.R_base ho0) hb); have n1_ := Aside0.mk (Kd.R_lower (Kd.R_new' ho0 (Kd.R_lt (by (with_reducible repeat (first | apply Kd.R_alloc | apply Kd.R_drewN | apply Kd.R_drew)); exact HO251.out))) (below_size (by repeat (first | (with_reducible first | exact HB.out | apply below_alloc | apply pw_below_drewN | apply below_drew1) | exact HB.out)))); have n2_ := Aside0.mk (below_step (by repeat (first | (with_reducible first | exact HB.out | apply below_alloc | apply pw_below_drewN | apply below_drew1) | exact HB.out)) hb); clear HO251; clear HB; have HO251 := n0_; have HO255 := n1_; have HB := n2_; clear n0_ n1_ n2_; (try clear hb); (try clear hb2); (try clear hk); (try clear hi); (try clear ho0); obtain ⟨Ao36, co36, eo36⟩ := Kd.R_slice HO251.out; subst eo36; obtain ⟨Ao37, co37, eo37⟩ := Kd.R_slice HO255.out; subst eo37) | ((with_reducible refine gate_callee (f := 140) rfl ?_); refine goesL_ (some 48) rfl rfl Tryz.func140 (by kernel_rfl) rfl #[.agg #[.slice Ao36 t249.length co36, .bool t252], .agg #[.slice Ao37 t253.length co37, .bool t256]] rfl (by (try simp only [List.map_toArray, List.map_cons, List.map_nil]); first | done | rfl | (simp only [List.length_drop, List.length_take]; rfl)) ?_; (with_reducible refine (astrolaberef01_Mul.calls kj11 _ _ t249 t252 _ _ t253 t256 t257 t260 _ ?side1 ?side2 ?side3 ?side4 A17.out).mono ?_); (case side1 => repeat (first | exact (Kd.R_reads' HO251.out).2.2 | (with_reducible refine Kd.C_alloc ?_ _) | (with_reducible refine Kd.C_drewN ?_ _) | (with_reducible refine Kd.C_drew ?_))); (case side2 => exact (Kd.R_reads' HO251.out).2.1); (case side3 => repeat (first | exact (Kd.R_reads' HO255.out).2.2 | (with_reducible refine Kd.C_alloc ?_ _) | (with_reducible refine Kd.C_drewN ?_ _) | (with_reducible refine Kd.C_drew ?_))); (case side4 => exact (Kd.R_reads' HO255.out).2.1); rintro e w38 ⟨v258, rfl, ho0, hb⟩; refine ⟨_, rfl, ?_⟩; have n0_ := Aside0.mk (Kd.R_below (by (with_reducible repeat (first | apply Kd.R_alloc | apply Kd.R_drewN | apply Kd.R_drew)); exact HO251.out) hb); have n1_ := Aside0.mk (Kd.R_below (by (with_reducible repeat (first | apply Kd.R_alloc | apply Kd.R_drewN | apply Kd.R_drew)); exact HO255.out) hb); have n2_ := Aside0.mk (Kd.V_lower (Kd.V_mono (ok' := fun k_ => some k_ ≠ (.slice Ao36 t249.length co36 : Value).ownBlock ∧ some k_ ≠ (.slice Ao37 t253.length co37 : Value).ownBlock) ho0 (fun k_ hk_ => ⟨(Kd.fresh' (Kd.R_lt (by (with_reducible repeat (first | apply Kd.R_alloc | apply Kd.R_drewN | apply Kd.R_drew)); exact HO251.out)) k_ hk_), (Kd.fresh' (Kd.R_lt (by (with_reducible repeat (first | apply Kd.R_alloc | apply Kd.R_drewN | apply Kd.R_drew)); exact HO255.out)) k_ hk_)⟩)) (below_size (by repeat (first | (with_reducible first | exact HB.out | apply below_alloc | apply pw_below_drewN | apply below_drew1) | exact HB.out)))); have n3_ := Aside0.mk (below_step (by repeat (first | (with_reducible first | exact HB.out | apply below_alloc | apply pw_below_drewN | apply below_drew1) | exact HB.out)) hb); clear HO251; clear HO255; clear HB; have HO251 := n0_; have HO255 := n1_; have HO259 := n2_; have HB := n3_; clear n0_ n1_ n2_ n3_; (try clear hb); (try clear hb2); (try clear hk); (try clear hi); (try clear ho0); obtain ⟨Ao39, co39, eo39⟩ := Kd.V_slice HO259.out; subst eo39) | ((with_reducible refine gate_callee (f := 139) rfl ?_); refine goesL_ (some 50) rfl rfl Tryz.func139 (by kernel_rfl) rfl #[.agg #[.slice Ao39 t257.length co39, .bool t260], .int .i64 x3_6] rfl (by (try simp only [List.map_toArray, List.map_cons, List.map_nil]); first | done | rfl | (simp only [List.length_drop, List.length_take]; rfl)) ?_; (with_reducible refine (astrolaberef01_Down.calls (fun k_ => (some k_ ≠ (.slice Ao36 t249.length co36 : Value).ownBlock ∧ some k_ ≠ (.slice Ao37 t253.length co37 : Value).ownBlock)) _ _ t257 t260 x3_6 t261 t264 _ ?side1 A18.out).mono ?_); (case side1 => exact HO259.out); rintro e w40 ⟨v262, rfl, ho0, hb⟩; refine ⟨_, rfl, ?_⟩; have n0_ := Aside0.mk (Kd.R_below (by (with_reducible repeat (first | apply Kd.R_alloc | apply Kd.R_drewN | apply Kd.R_drew)); exact HO251.out) hb); have n1_ := Aside0.mk (Kd.R_below (by (with_reducible repeat (first | apply Kd.R_alloc | apply Kd.R_drewN | apply Kd.R_drew)); exact HO255.out) hb); have n2_ := Aside0.mk (Kd.V_below (by (with_reducible repeat (first | apply Kd.V_alloc | apply Kd.V_drewN | apply Kd.V_drew)); exact HO259.out) hb); have n3_ := Aside0.mk (Kd.V_lower (Kd.V_mono (ok' := fun k_ => some k_ ≠ (.slice Ao36 t249.length co36 : Value).ownBlock ∧ some k_ ≠ (.slice Ao37 t253.length co37 : Value).ownBlock) ho0 (fun k_ hk_ => ⟨Or.elim hk_ (fun hs_ => hs_.1) (fun hn_ => (Kd.fresh' (Kd.R_lt (by (with_reducible repeat (first | apply Kd.R_alloc | apply Kd.R_drewN | apply Kd.R_drew)); exact HO251.out)) k_ hn_)), Or.elim hk_ (fun hs_ => hs_.2) (fun hn_ => (Kd.fresh' (Kd.R_lt (by (with_reducible repeat (first | apply Kd.R_alloc | apply Kd.R_drewN | apply Kd.R_drew)); exact HO255.out)) k_ hn_))⟩)) (below_size (by repeat (first | (with_reducible first | exact HB.out | apply below_alloc | apply pw_below_drewN | apply below_drew1) | exact HB.out)))); have n4_ := Aside0.mk (below_step (by repeat (first | (with_reducible first | exact HB.out | apply below_alloc | apply pw_below_drewN | apply below_drew1) | exact HB.out)) hb); clear HO251; clear HO255; clear HO259; clear HB; have HO251 := n0_; have HO255 := n1_; have HO259 := n2_; have HO263 := n3_; have HB := n4_; clear n0_ n1_ n2_ n3_ n4_; (try clear hb); (try clear hb2); (try clear hk); (try clear hi); (try clear ho0); obtain ⟨Ao41, co41, eo41⟩ := Kd.V_slice HO263.out; subst eo41) | ((with_reducible refine gate_callee (f := 138) rfl ?_); refine goesL_ (some 51) rfl rfl Tryz.func138 (by kernel_rfl) rfl #[.agg #[.slice Ao41 t261.length co41, .bool t264]] rfl (by (try simp only [List.map_toArray, List.map_cons, List.map_nil]); first | done | rfl | (simp only [List.length_drop, List.length_take]; rfl)) ?_; (with_reducible refine (astrolaberef01_Held.calls kj11 _ _ t261 t264 t265 t266 _ ?side1 ?side2 A19.out).mono ?_); (case side1 => repeat (first | exact (Kd.V_reads' HO263.out).2.2 | (with_reducible refine Kd.C_alloc ?_ _) | (with_reducible refine Kd.C_drewN ?_ _) | (with_reducible refine Kd.C_drew ?_))); (case side2 => exact (Kd.V_reads' HO263.out).2.1); rintro e w42 ⟨rfl, hb⟩; refine ⟨_, rfl, ?_⟩; have n0_ := Aside0.mk (Kd.R_below (by (with_reducible repeat (first | apply Kd.R_alloc | apply Kd.R_drewN | apply Kd.R_drew)); exact HO251.out) hb); have n1_ := Aside0.mk (Kd.R_below (by (with_reducible repeat (first | apply Kd.R_alloc | apply Kd.R_drewN | apply Kd.R_drew)); exact HO255.out) hb); have n2_ := Aside0.mk (Kd.V_below (by (with_reducible repeat (first | apply Kd.V_alloc | apply Kd.V_drewN | apply Kd.V_drew)); exact HO259.out) hb); have n3_ := Aside0.mk (Kd.V_below (by (with_reducible repeat (first | apply Kd.V_alloc | apply Kd.V_drewN | apply Kd.V_drew)); exact HO263.out) hb); have n4_ := Aside0.mk (below_step (by repeat (first | (with_reducible first | exact HB.out | apply below_alloc | apply pw_below_drewN | apply below_drew1) | exact HB.out)) hb); clear HO251; clear HO255; clear HO259; clear HO263; clear HB; have HO251 := n0_; have HO255 := n1_; have HO259 := n2_; have HO263 := n3_; have HB := n4_; clear n0_ n1_ n2_ n3_ n4_; (try clear hb); (try clear hb2); (try clear hk); (try clear hi)) | ((with_reducible refine gate_callee (f := 142) rfl ?_); refine goesL_ (some 57) rfl rfl Tryz.func142 (by kernel_rfl) rfl #[.int .i64 a0, .int .i64 t265] rfl (by (try simp only [List.map_toArray, List.map_cons, List.map_nil]); first | done | rfl | (simp only [List.length_drop, List.length_take]; rfl)) ?_; (with_reducible refine (astrolaberef01_Sum.calls kj11 a0 t265 t267 t268 _ A20.out).mono ?_); rintro e w43 ⟨rfl, hb⟩; refine ⟨_, rfl, ?_⟩; have n0_ := Aside0.mk (Kd.R_below (by (with_reducible repeat (first | apply Kd.R_alloc | apply Kd.R_drewN | apply Kd.R_drew)); exact HO251.out) hb); have n1_ := Aside0.mk (Kd.R_below (by (with_reducible repeat (first | apply Kd.R_alloc | apply Kd.R_drewN | apply Kd.R_drew)); exact HO255.out) hb); have n2_ := Aside0.mk (Kd.V_below (by (with_reducible repeat (first | apply Kd.V_alloc | apply Kd.V_drewN | apply Kd.V_drew)); exact HO259.out) hb); have n3_ := Aside0.mk (Kd.V_below (by (with_reducible repeat (first | apply Kd.V_alloc | apply Kd.V_drewN | apply Kd.V_drew)); exact HO263.out) hb); have n4_ := Aside0.mk (below_step (by repeat (first | (with_reducible first | exact HB.out | apply below_alloc | apply pw_below_drewN | apply below_drew1) | exact HB.out)) hb); clear HO251; clear HO255; clear HO259; clear HO263; clear HB; have HO251 := n0_; have HO255 := n1_; have HO259 := n2_; have HO263 := n3_; have HB := n4_; clear n0_ n1_ n2_ n3_ n4_; (try clear hb); (try clear hb2); (try clear hk); (try clear hi)))
                          go_ret2
                          exact ⟨by first | rfl | (simp [errW_none, errW_some] <;> rfl) | (simp [*, errW_none, errW_some] <;> rfl), by repeat (first | (with_reducible first | exact HB.out | apply below_alloc | apply pw_below_drewN | apply below_drew1) | exact HB.out)⟩

/-! ### astrolaberef19_Or: function 82 -/
def astrolaberef19_Or.j0 : Nat → Int → Int → Int → Bool → Option (Int)
  | 0, _, _, _, _ => none
  | k + 1, x0, x1, x5, x13 => if x13 = true then (if x0 ≥ 2 then (some (1 + 2)) else (if x1 ≥ 2 then (some (1 + 2)) else (some 1))) else (if x0 ≥ 2 then (some (wrap64 (x5 + 2))) else (if x1 ≥ 2 then (some (wrap64 (x5 + 2))) else (some x5)))
def astrolaberef19_Or.f (k : Nat) (a0 : Int) (a1 : Int) : Option (Int) := if (Int.tmod a0 2) = 1 then (astrolaberef19_Or.j0 k a0 a1 0 true) else (astrolaberef19_Or.j0 k a0 a1 0 ((Int.tmod a1 2) == 1))
theorem astrolaberef19_Or.mono_l : ∀ k, (∀ y0 y1 y2 y3, LeO (astrolaberef19_Or.j0 k y0 y1 y2 y3) (astrolaberef19_Or.j0 (k + 1) y0 y1 y2 y3))
  | 0 => fun _ _ _ _ r h => by simp [astrolaberef19_Or.j0] at h
  | k + 1 => by
    have ih0 := astrolaberef19_Or.mono_l k
    · intro y0 y1 y2 y3
      unfold astrolaberef19_Or.j0
      repeat' first
      | (with_reducible exact ih0 _ _ _ _)
      | (with_reducible exact LeO.refl _)
      | (with_reducible exact LeO.none _)
      | (with_reducible refine LeO.ite ?_ ?_)
      | (with_reducible refine LeO.bind ?_ (fun _ => ?_))
      | exact ih0 _ _ _ _
      | exact LeO.none _
      | refine LeO.ite ?_ ?_
      | refine LeO.bind ?_ (fun _ => ?_)
theorem astrolaberef19_Or.mono : ∀ a0 a1 k, LeO (astrolaberef19_Or.f k a0 a1) (astrolaberef19_Or.f (k + 1) a0 a1) := by
  intro a0 a1 k
  have ih0 := astrolaberef19_Or.mono_l k
  unfold astrolaberef19_Or.f
  repeat' first
      | (with_reducible exact ih0 _ _ _ _)
      | (with_reducible exact LeO.refl _)
      | (with_reducible exact LeO.none _)
      | (with_reducible refine LeO.ite ?_ ?_)
      | (with_reducible refine LeO.bind ?_ (fun _ => ?_))
      | exact ih0 _ _ _ _
      | exact LeO.none _
      | refine LeO.ite ?_ ?_
      | refine LeO.bind ?_ (fun _ => ?_)
set_option maxHeartbeats 8000000 in
set_option maxRecDepth 100000 in
theorem astrolaberef19_Or.calls (k : Nat) (a0 : Int) (a1 : Int) (r : Int) (w : World) (h : astrolaberef19_Or.f k a0 a1 = some r) :
    Calls Tryz.prog 82 #[.int .i64 a0, .int .i64 a1] w fun e w' => e = .returned (.int .i64 r) ∧ Drawn0 w w' := by
  have H : (if (Int.tmod a0 2) = 1 then (astrolaberef19_Or.j0 k a0 a1 0 true) else (astrolaberef19_Or.j0 k a0 a1 0 ((Int.tmod a1 2) == 1))) = some r := h
  clear h
  have HC3 := Aside0.mk H
  clear H
  go_enter Tryz.func82, Tryz.ntmps82
  go_upto_region 2 with (fail)
  go_cut [13] (fun v13 wc => ∃ (kq : Nat) (x13_2 : Bool), v13 = .bool x13_2 ∧ Aside0 (astrolaberef19_Or.j0 kq a0 a1 0 x13_2 = some r) ∧ Aside0 (kq ≤ k) ∧ Drawn0 w wc)
  case first =>
    have H := HC3.out
    clear HC3
    by_cases c4 : (Int.tmod a0 2) = 1
    · rw [if_pos c4] at H
      have c4b0 : ((Int.tmod a0 2) == 1) = true := beq_iff_eq.mpr c4
      have c4b1 : ((Int.tmod a0 2) != 1) = false := bne_eq_false_iff_eq.mpr c4
      clear c4
      (first | rw [c4b0] | (simp only [i64_w, i32_w]; rw [c4b0]) | skip)
      have H' := Aside0.mk H
      clear H
      go_wp2
      go_meet
      case rel => exact ⟨_, (true), (by first | rfl | (simp; done) | (simp [*]; done)), H', ⟨by first | omega | exact Nat.le_refl _⟩, by repeat (first | exact Drawn0.refl _ | apply Drawn0.step)⟩
    · rw [if_neg c4] at H
      have c4b0 : ((Int.tmod a0 2) == 1) = false := beq_eq_false_iff_ne.mpr c4
      have c4b1 : ((Int.tmod a0 2) != 1) = true := bne_iff_ne.mpr c4
      (first | rw [c4b0] | (simp only [i64_w, i32_w]; rw [c4b0]) | skip)
      have H' := Aside0.mk H
      clear H
      go_wp2
      go_meet
      case rel => exact ⟨_, (((Int.tmod a1 2) == 1)), (by first | rfl | (simp; done) | (simp [*]; done)), H', ⟨by first | omega | exact Nat.le_refl _⟩, by repeat (first | exact Drawn0.refl _ | apply Drawn0.step)⟩
  case rest =>
    clear HC3
    try clear p2
    try clear c4
    try clear c4b0
    try clear c4b1
    obtain ⟨kq, x13_2, rfl, HA, HJ2, ⟨mc2, rfl⟩⟩ := hcut
    cases kq with
    | zero => exact absurd HA.out (by simp [astrolaberef19_Or.j0])
    | succ kj2 =>
      have H := HA.out
      clear HA
      simp only [astrolaberef19_Or.j0] at H
      by_cases c5 : x13_2 = true
      · subst c5
        have H1 : (if a0 ≥ 2 then (some (1 + 2)) else (if a1 ≥ 2 then (some (1 + 2)) else (some 1))) = some r := by rw [if_pos rfl] at H; exact H
        clear H
        have H := H1
        clear H1
        by_cases c6 : a0 ≥ 2
        · rw [if_pos c6] at H
          have c6b0 : decide (2 ≤ a0) = true := decide_eq_true c6
          clear c6
          obtain rfl := Option.some.inj H
          go_wp2
          go_ret
          exact ⟨by first | rfl | (simp; done) | (simp [*]; done), by repeat (first | exact Drawn0.refl _ | apply Drawn0.step)⟩
        · rw [if_neg c6] at H
          have c6b0 : decide (2 ≤ a0) = false := decide_eq_false c6
          clear c6
          by_cases c7 : a1 ≥ 2
          · rw [if_pos c7] at H
            have c7b0 : decide (2 ≤ a1) = true := decide_eq_true c7
            clear c7
            obtain rfl := Option.some.inj H
            go_wp2
            go_ret
            exact ⟨by first | rfl | (simp; done) | (simp [*]; done), by repeat (first | exact Drawn0.refl _ | apply Drawn0.step)⟩
          · rw [if_neg c7] at H
            have c7b0 : decide (2 ≤ a1) = false := decide_eq_false c7
            clear c7
            obtain rfl := Option.some.inj H
            go_wp2
            go_ret
            exact ⟨by first | rfl | (simp; done) | (simp [*]; done), by repeat (first | exact Drawn0.refl _ | apply Drawn0.step)⟩
      · replace c5 := Bool.eq_false_iff.mpr c5
        subst c5
        have H1 : (if a0 ≥ 2 then (some (wrap64 (0 + 2))) else (if a1 ≥ 2 then (some (wrap64 (0 + 2))) else (some 0))) = some r := by rw [if_neg (show ¬ (false = true) by decide)] at H; exact H
        clear H
        have H := H1
        clear H1
        by_cases c8 : a0 ≥ 2
        · rw [if_pos c8] at H
          have c8b0 : decide (2 ≤ a0) = true := decide_eq_true c8
          clear c8
          obtain rfl := Option.some.inj H
          go_wp2
          go_ret
          exact ⟨by first | rfl | (simp [wrap64]; done) | (simp [*]; done), by repeat (first | exact Drawn0.refl _ | apply Drawn0.step)⟩
        · rw [if_neg c8] at H
          have c8b0 : decide (2 ≤ a0) = false := decide_eq_false c8
          clear c8
          by_cases c9 : a1 ≥ 2
          · rw [if_pos c9] at H
            have c9b0 : decide (2 ≤ a1) = true := decide_eq_true c9
            clear c9
            obtain rfl := Option.some.inj H
            go_wp2
            go_ret
            exact ⟨by first | rfl | (simp [wrap64]; done) | (simp [*]; done), by repeat (first | exact Drawn0.refl _ | apply Drawn0.step)⟩
          · rw [if_neg c9] at H
            have c9b0 : decide (2 ≤ a1) = false := decide_eq_false c9
            clear c9
            obtain rfl := Option.some.inj H
            go_wp2
            go_ret
            exact ⟨by first | rfl | (simp; done) | (simp [*]; done), by repeat (first | exact Drawn0.refl _ | apply Drawn0.step)⟩

end Go.Proofs.YtgalkkolbobmbaaGreat.Q
