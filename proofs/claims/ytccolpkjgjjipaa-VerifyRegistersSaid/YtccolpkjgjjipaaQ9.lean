-- written by myprint.py (wip/tools) out of the translation
import Derived.Test.YtccolpkjgjjipaaQ0
namespace Go.Proofs.Ytccolpkjgjjipaa.Q
open Go.RowKit Go.Proofs.YtccolpkjgjjipaaW.PrintWords Go.Proofs.YtccolpkjgjjipaaW.PrintLast Go.Proofs.YtccolpkjgjjipaaW.PrintMore
attribute [local go_sem] max2_int min2_int max_two min_two max_three min_three max_four min_four   -- for this text's walks alone
set_option linter.unusedVariables false
set_option linter.unusedSimpArgs false

/-! ### astrolaberef17_Registers: function 21 -/
mutual
def astrolaberef17_Registers.l0 : Nat → List (S47) → Int → Int → Option (Int)
  | 0, _, _, _ => none
  | k + 1, x0, x3, x4 => if x4 < (x0.length : Int) then (if 0 ≤ x4 then (if ((rd_T47 x0 x4).f0) < 1 then (astrolaberef17_Registers.j1 k x0 x3 x4 true ((rd_T47 x0 x4).f0) ((rd_T47 x0 x4).f1) ((rd_T47 x0 x4).f2) ((rd_T47 x0 x4).f3) ((rd_T47 x0 x4).f4) ((rd_T47 x0 x4).f5)) else (astrolaberef17_Registers.j1 k x0 x3 x4 (decide (((rd_T47 x0 x4).f0) > 22)) ((rd_T47 x0 x4).f0) ((rd_T47 x0 x4).f1) ((rd_T47 x0 x4).f2) ((rd_T47 x0 x4).f3) ((rd_T47 x0 x4).f4) ((rd_T47 x0 x4).f5))) else (none)) else (some x3)
def astrolaberef17_Registers.j1 : Nat → List (S47) → Int → Int → Bool → Int → Int → Int → Int → Int → Int → Option (Int)
  | 0, _, _, _, _, _, _, _, _, _, _ => none
  | k + 1, x0, x3, x4, x23, x503000, x503001, x503002, x503003, x503004, x503005 => if x23 = true then (astrolaberef17_Registers.l0 k x0 x3 (wrap64 (x4 + 1))) else (if x503000 ≤ 18 then (astrolaberef17_Registers.j2 k x0 x3 x4 (decide (x503001 ≥ x3)) x503000 x503001 x503002 x503003 x503004 x503005) else (astrolaberef17_Registers.j2 k x0 x3 x4 false x503000 x503001 x503002 x503003 x503004 x503005))
def astrolaberef17_Registers.j2 : Nat → List (S47) → Int → Int → Bool → Int → Int → Int → Int → Int → Int → Option (Int)
  | 0, _, _, _, _, _, _, _, _, _, _ => none
  | k + 1, x0, x3, x4, x32, x503000, x503001, x503002, x503003, x503004, x503005 => if x32 = true then (astrolaberef17_Registers.j3 k x0 (wrap64 (x503001 + 1)) x4 x503000 x503001 x503002 x503003 x503004 x503005) else (astrolaberef17_Registers.j3 k x0 x3 x4 x503000 x503001 x503002 x503003 x503004 x503005)
def astrolaberef17_Registers.j3 : Nat → List (S47) → Int → Int → Int → Int → Int → Int → Int → Int → Option (Int)
  | 0, _, _, _, _, _, _, _, _, _ => none
  | k + 1, x0, x3, x4, x503000, x503001, x503002, x503003, x503004, x503005 => if x503000 ≥ 6 then (astrolaberef17_Registers.j4 k x0 x3 x4 (decide (x503002 ≥ x3)) x503000 x503001 x503002 x503003 x503004 x503005) else (astrolaberef17_Registers.j4 k x0 x3 x4 false x503000 x503001 x503002 x503003 x503004 x503005)
def astrolaberef17_Registers.j4 : Nat → List (S47) → Int → Int → Bool → Int → Int → Int → Int → Int → Int → Option (Int)
  | 0, _, _, _, _, _, _, _, _, _, _ => none
  | k + 1, x0, x3, x4, x44, x503000, x503001, x503002, x503003, x503004, x503005 => if x44 = true then (astrolaberef17_Registers.j5 k x0 (wrap64 (x503002 + 1)) x4 x503000 x503001 x503002 x503003 x503004 x503005) else (astrolaberef17_Registers.j5 k x0 x3 x4 x503000 x503001 x503002 x503003 x503004 x503005)
def astrolaberef17_Registers.j5 : Nat → List (S47) → Int → Int → Int → Int → Int → Int → Int → Int → Option (Int)
  | 0, _, _, _, _, _, _, _, _, _ => none
  | k + 1, x0, x3, x4, x503000, x503001, x503002, x503003, x503004, x503005 => if x503000 ≥ 9 then (if x503000 ≤ 18 then (astrolaberef17_Registers.j6 k x0 x3 x4 (decide (x503003 ≥ x3)) x503000 x503001 x503002 x503003 x503004 x503005) else (astrolaberef17_Registers.j6 k x0 x3 x4 false x503000 x503001 x503002 x503003 x503004 x503005)) else (astrolaberef17_Registers.j6 k x0 x3 x4 false x503000 x503001 x503002 x503003 x503004 x503005)
def astrolaberef17_Registers.j6 : Nat → List (S47) → Int → Int → Bool → Int → Int → Int → Int → Int → Int → Option (Int)
  | 0, _, _, _, _, _, _, _, _, _, _ => none
  | k + 1, x0, x3, x4, x61, x503000, x503001, x503002, x503003, x503004, x503005 => if x61 = true then (astrolaberef17_Registers.j7 k x0 (wrap64 (x503003 + 1)) x4 x503000 x503001 x503002 x503003 x503004 x503005) else (astrolaberef17_Registers.j7 k x0 x3 x4 x503000 x503001 x503002 x503003 x503004 x503005)
def astrolaberef17_Registers.j7 : Nat → List (S47) → Int → Int → Int → Int → Int → Int → Int → Int → Option (Int)
  | 0, _, _, _, _, _, _, _, _, _ => none
  | k + 1, x0, x3, x4, x503000, x503001, x503002, x503003, x503004, x503005 => if x503000 = 18 then (if x503004 ≥ x3 then (astrolaberef17_Registers.l0 k x0 (wrap64 (x503004 + 1)) (wrap64 (x4 + 1))) else (astrolaberef17_Registers.l0 k x0 x3 (wrap64 (x4 + 1)))) else (astrolaberef17_Registers.l0 k x0 x3 (wrap64 (x4 + 1)))
end
def astrolaberef17_Registers.f (k : Nat) (l0 : List (S47)) : Option (Int) := astrolaberef17_Registers.l0 k l0 0 0
theorem astrolaberef17_Registers.mono_l : ∀ k, (∀ y0 y1 y2, LeO (astrolaberef17_Registers.l0 k y0 y1 y2) (astrolaberef17_Registers.l0 (k + 1) y0 y1 y2)) ∧ (∀ y0 y1 y2 y3 y4 y5 y6 y7 y8 y9, LeO (astrolaberef17_Registers.j1 k y0 y1 y2 y3 y4 y5 y6 y7 y8 y9) (astrolaberef17_Registers.j1 (k + 1) y0 y1 y2 y3 y4 y5 y6 y7 y8 y9)) ∧ (∀ y0 y1 y2 y3 y4 y5 y6 y7 y8 y9, LeO (astrolaberef17_Registers.j2 k y0 y1 y2 y3 y4 y5 y6 y7 y8 y9) (astrolaberef17_Registers.j2 (k + 1) y0 y1 y2 y3 y4 y5 y6 y7 y8 y9)) ∧ (∀ y0 y1 y2 y3 y4 y5 y6 y7 y8, LeO (astrolaberef17_Registers.j3 k y0 y1 y2 y3 y4 y5 y6 y7 y8) (astrolaberef17_Registers.j3 (k + 1) y0 y1 y2 y3 y4 y5 y6 y7 y8)) ∧ (∀ y0 y1 y2 y3 y4 y5 y6 y7 y8 y9, LeO (astrolaberef17_Registers.j4 k y0 y1 y2 y3 y4 y5 y6 y7 y8 y9) (astrolaberef17_Registers.j4 (k + 1) y0 y1 y2 y3 y4 y5 y6 y7 y8 y9)) ∧ (∀ y0 y1 y2 y3 y4 y5 y6 y7 y8, LeO (astrolaberef17_Registers.j5 k y0 y1 y2 y3 y4 y5 y6 y7 y8) (astrolaberef17_Registers.j5 (k + 1) y0 y1 y2 y3 y4 y5 y6 y7 y8)) ∧ (∀ y0 y1 y2 y3 y4 y5 y6 y7 y8 y9, LeO (astrolaberef17_Registers.j6 k y0 y1 y2 y3 y4 y5 y6 y7 y8 y9) (astrolaberef17_Registers.j6 (k + 1) y0 y1 y2 y3 y4 y5 y6 y7 y8 y9)) ∧ (∀ y0 y1 y2 y3 y4 y5 y6 y7 y8, LeO (astrolaberef17_Registers.j7 k y0 y1 y2 y3 y4 y5 y6 y7 y8) (astrolaberef17_Registers.j7 (k + 1) y0 y1 y2 y3 y4 y5 y6 y7 y8))
  | 0 => ⟨fun _ _ _ r h => by simp [astrolaberef17_Registers.l0] at h, fun _ _ _ _ _ _ _ _ _ _ r h => by simp [astrolaberef17_Registers.j1] at h, fun _ _ _ _ _ _ _ _ _ _ r h => by simp [astrolaberef17_Registers.j2] at h, fun _ _ _ _ _ _ _ _ _ r h => by simp [astrolaberef17_Registers.j3] at h, fun _ _ _ _ _ _ _ _ _ _ r h => by simp [astrolaberef17_Registers.j4] at h, fun _ _ _ _ _ _ _ _ _ r h => by simp [astrolaberef17_Registers.j5] at h, fun _ _ _ _ _ _ _ _ _ _ r h => by simp [astrolaberef17_Registers.j6] at h, fun _ _ _ _ _ _ _ _ _ r h => by simp [astrolaberef17_Registers.j7] at h⟩
  | k + 1 => by
    obtain ⟨ih0, ih1, ih2, ih3, ih4, ih5, ih6, ih7⟩ := astrolaberef17_Registers.mono_l k
    refine ⟨?_, ?_, ?_, ?_, ?_, ?_, ?_, ?_⟩
    · intro y0 y1 y2
      unfold astrolaberef17_Registers.l0
      repeat' first
      | (with_reducible exact ih0 _ _ _)
      | (with_reducible exact ih1 _ _ _ _ _ _ _ _ _ _)
      | (with_reducible exact ih2 _ _ _ _ _ _ _ _ _ _)
      | (with_reducible exact ih3 _ _ _ _ _ _ _ _ _)
      | (with_reducible exact ih4 _ _ _ _ _ _ _ _ _ _)
      | (with_reducible exact ih5 _ _ _ _ _ _ _ _ _)
      | (with_reducible exact ih6 _ _ _ _ _ _ _ _ _ _)
      | (with_reducible exact ih7 _ _ _ _ _ _ _ _ _)
      | (with_reducible exact LeO.refl _)
      | (with_reducible exact LeO.none _)
      | (with_reducible refine LeO.ite ?_ ?_)
      | (with_reducible refine LeO.bind ?_ (fun _ => ?_))
      | exact ih0 _ _ _
      | exact ih1 _ _ _ _ _ _ _ _ _ _
      | exact ih2 _ _ _ _ _ _ _ _ _ _
      | exact ih3 _ _ _ _ _ _ _ _ _
      | exact ih4 _ _ _ _ _ _ _ _ _ _
      | exact ih5 _ _ _ _ _ _ _ _ _
      | exact ih6 _ _ _ _ _ _ _ _ _ _
      | exact ih7 _ _ _ _ _ _ _ _ _
      | exact LeO.none _
      | refine LeO.ite ?_ ?_
      | refine LeO.bind ?_ (fun _ => ?_)
    · intro y0 y1 y2 y3 y4 y5 y6 y7 y8 y9
      unfold astrolaberef17_Registers.j1
      repeat' first
      | (with_reducible exact ih0 _ _ _)
      | (with_reducible exact ih1 _ _ _ _ _ _ _ _ _ _)
      | (with_reducible exact ih2 _ _ _ _ _ _ _ _ _ _)
      | (with_reducible exact ih3 _ _ _ _ _ _ _ _ _)
      | (with_reducible exact ih4 _ _ _ _ _ _ _ _ _ _)
      | (with_reducible exact ih5 _ _ _ _ _ _ _ _ _)
      | (with_reducible exact ih6 _ _ _ _ _ _ _ _ _ _)
      | (with_reducible exact ih7 _ _ _ _ _ _ _ _ _)
      | (with_reducible exact LeO.refl _)
      | (with_reducible exact LeO.none _)
      | (with_reducible refine LeO.ite ?_ ?_)
      | (with_reducible refine LeO.bind ?_ (fun _ => ?_))
      | exact ih0 _ _ _
      | exact ih1 _ _ _ _ _ _ _ _ _ _
      | exact ih2 _ _ _ _ _ _ _ _ _ _
      | exact ih3 _ _ _ _ _ _ _ _ _
      | exact ih4 _ _ _ _ _ _ _ _ _ _
      | exact ih5 _ _ _ _ _ _ _ _ _
      | exact ih6 _ _ _ _ _ _ _ _ _ _
      | exact ih7 _ _ _ _ _ _ _ _ _
      | exact LeO.none _
      | refine LeO.ite ?_ ?_
      | refine LeO.bind ?_ (fun _ => ?_)
    · intro y0 y1 y2 y3 y4 y5 y6 y7 y8 y9
      unfold astrolaberef17_Registers.j2
      repeat' first
      | (with_reducible exact ih0 _ _ _)
      | (with_reducible exact ih1 _ _ _ _ _ _ _ _ _ _)
      | (with_reducible exact ih2 _ _ _ _ _ _ _ _ _ _)
      | (with_reducible exact ih3 _ _ _ _ _ _ _ _ _)
      | (with_reducible exact ih4 _ _ _ _ _ _ _ _ _ _)
      | (with_reducible exact ih5 _ _ _ _ _ _ _ _ _)
      | (with_reducible exact ih6 _ _ _ _ _ _ _ _ _ _)
      | (with_reducible exact ih7 _ _ _ _ _ _ _ _ _)
      | (with_reducible exact LeO.refl _)
      | (with_reducible exact LeO.none _)
      | (with_reducible refine LeO.ite ?_ ?_)
      | (with_reducible refine LeO.bind ?_ (fun _ => ?_))
      | exact ih0 _ _ _
      | exact ih1 _ _ _ _ _ _ _ _ _ _
      | exact ih2 _ _ _ _ _ _ _ _ _ _
      | exact ih3 _ _ _ _ _ _ _ _ _
      | exact ih4 _ _ _ _ _ _ _ _ _ _
      | exact ih5 _ _ _ _ _ _ _ _ _
      | exact ih6 _ _ _ _ _ _ _ _ _ _
      | exact ih7 _ _ _ _ _ _ _ _ _
      | exact LeO.none _
      | refine LeO.ite ?_ ?_
      | refine LeO.bind ?_ (fun _ => ?_)
    · intro y0 y1 y2 y3 y4 y5 y6 y7 y8
      unfold astrolaberef17_Registers.j3
      repeat' first
      | (with_reducible exact ih0 _ _ _)
      | (with_reducible exact ih1 _ _ _ _ _ _ _ _ _ _)
      | (with_reducible exact ih2 _ _ _ _ _ _ _ _ _ _)
      | (with_reducible exact ih3 _ _ _ _ _ _ _ _ _)
      | (with_reducible exact ih4 _ _ _ _ _ _ _ _ _ _)
      | (with_reducible exact ih5 _ _ _ _ _ _ _ _ _)
      | (with_reducible exact ih6 _ _ _ _ _ _ _ _ _ _)
      | (with_reducible exact ih7 _ _ _ _ _ _ _ _ _)
      | (with_reducible exact LeO.refl _)
      | (with_reducible exact LeO.none _)
      | (with_reducible refine LeO.ite ?_ ?_)
      | (with_reducible refine LeO.bind ?_ (fun _ => ?_))
      | exact ih0 _ _ _
      | exact ih1 _ _ _ _ _ _ _ _ _ _
      | exact ih2 _ _ _ _ _ _ _ _ _ _
      | exact ih3 _ _ _ _ _ _ _ _ _
      | exact ih4 _ _ _ _ _ _ _ _ _ _
      | exact ih5 _ _ _ _ _ _ _ _ _
      | exact ih6 _ _ _ _ _ _ _ _ _ _
      | exact ih7 _ _ _ _ _ _ _ _ _
      | exact LeO.none _
      | refine LeO.ite ?_ ?_
      | refine LeO.bind ?_ (fun _ => ?_)
    · intro y0 y1 y2 y3 y4 y5 y6 y7 y8 y9
      unfold astrolaberef17_Registers.j4
      repeat' first
      | (with_reducible exact ih0 _ _ _)
      | (with_reducible exact ih1 _ _ _ _ _ _ _ _ _ _)
      | (with_reducible exact ih2 _ _ _ _ _ _ _ _ _ _)
      | (with_reducible exact ih3 _ _ _ _ _ _ _ _ _)
      | (with_reducible exact ih4 _ _ _ _ _ _ _ _ _ _)
      | (with_reducible exact ih5 _ _ _ _ _ _ _ _ _)
      | (with_reducible exact ih6 _ _ _ _ _ _ _ _ _ _)
      | (with_reducible exact ih7 _ _ _ _ _ _ _ _ _)
      | (with_reducible exact LeO.refl _)
      | (with_reducible exact LeO.none _)
      | (with_reducible refine LeO.ite ?_ ?_)
      | (with_reducible refine LeO.bind ?_ (fun _ => ?_))
      | exact ih0 _ _ _
      | exact ih1 _ _ _ _ _ _ _ _ _ _
      | exact ih2 _ _ _ _ _ _ _ _ _ _
      | exact ih3 _ _ _ _ _ _ _ _ _
      | exact ih4 _ _ _ _ _ _ _ _ _ _
      | exact ih5 _ _ _ _ _ _ _ _ _
      | exact ih6 _ _ _ _ _ _ _ _ _ _
      | exact ih7 _ _ _ _ _ _ _ _ _
      | exact LeO.none _
      | refine LeO.ite ?_ ?_
      | refine LeO.bind ?_ (fun _ => ?_)
    · intro y0 y1 y2 y3 y4 y5 y6 y7 y8
      unfold astrolaberef17_Registers.j5
      repeat' first
      | (with_reducible exact ih0 _ _ _)
      | (with_reducible exact ih1 _ _ _ _ _ _ _ _ _ _)
      | (with_reducible exact ih2 _ _ _ _ _ _ _ _ _ _)
      | (with_reducible exact ih3 _ _ _ _ _ _ _ _ _)
      | (with_reducible exact ih4 _ _ _ _ _ _ _ _ _ _)
      | (with_reducible exact ih5 _ _ _ _ _ _ _ _ _)
      | (with_reducible exact ih6 _ _ _ _ _ _ _ _ _ _)
      | (with_reducible exact ih7 _ _ _ _ _ _ _ _ _)
      | (with_reducible exact LeO.refl _)
      | (with_reducible exact LeO.none _)
      | (with_reducible refine LeO.ite ?_ ?_)
      | (with_reducible refine LeO.bind ?_ (fun _ => ?_))
      | exact ih0 _ _ _
      | exact ih1 _ _ _ _ _ _ _ _ _ _
      | exact ih2 _ _ _ _ _ _ _ _ _ _
      | exact ih3 _ _ _ _ _ _ _ _ _
      | exact ih4 _ _ _ _ _ _ _ _ _ _
      | exact ih5 _ _ _ _ _ _ _ _ _
      | exact ih6 _ _ _ _ _ _ _ _ _ _
      | exact ih7 _ _ _ _ _ _ _ _ _
      | exact LeO.none _
      | refine LeO.ite ?_ ?_
      | refine LeO.bind ?_ (fun _ => ?_)
    · intro y0 y1 y2 y3 y4 y5 y6 y7 y8 y9
      unfold astrolaberef17_Registers.j6
      repeat' first
      | (with_reducible exact ih0 _ _ _)
      | (with_reducible exact ih1 _ _ _ _ _ _ _ _ _ _)
      | (with_reducible exact ih2 _ _ _ _ _ _ _ _ _ _)
      | (with_reducible exact ih3 _ _ _ _ _ _ _ _ _)
      | (with_reducible exact ih4 _ _ _ _ _ _ _ _ _ _)
      | (with_reducible exact ih5 _ _ _ _ _ _ _ _ _)
      | (with_reducible exact ih6 _ _ _ _ _ _ _ _ _ _)
      | (with_reducible exact ih7 _ _ _ _ _ _ _ _ _)
      | (with_reducible exact LeO.refl _)
      | (with_reducible exact LeO.none _)
      | (with_reducible refine LeO.ite ?_ ?_)
      | (with_reducible refine LeO.bind ?_ (fun _ => ?_))
      | exact ih0 _ _ _
      | exact ih1 _ _ _ _ _ _ _ _ _ _
      | exact ih2 _ _ _ _ _ _ _ _ _ _
      | exact ih3 _ _ _ _ _ _ _ _ _
      | exact ih4 _ _ _ _ _ _ _ _ _ _
      | exact ih5 _ _ _ _ _ _ _ _ _
      | exact ih6 _ _ _ _ _ _ _ _ _ _
      | exact ih7 _ _ _ _ _ _ _ _ _
      | exact LeO.none _
      | refine LeO.ite ?_ ?_
      | refine LeO.bind ?_ (fun _ => ?_)
    · intro y0 y1 y2 y3 y4 y5 y6 y7 y8
      unfold astrolaberef17_Registers.j7
      repeat' first
      | (with_reducible exact ih0 _ _ _)
      | (with_reducible exact ih1 _ _ _ _ _ _ _ _ _ _)
      | (with_reducible exact ih2 _ _ _ _ _ _ _ _ _ _)
      | (with_reducible exact ih3 _ _ _ _ _ _ _ _ _)
      | (with_reducible exact ih4 _ _ _ _ _ _ _ _ _ _)
      | (with_reducible exact ih5 _ _ _ _ _ _ _ _ _)
      | (with_reducible exact ih6 _ _ _ _ _ _ _ _ _ _)
      | (with_reducible exact ih7 _ _ _ _ _ _ _ _ _)
      | (with_reducible exact LeO.refl _)
      | (with_reducible exact LeO.none _)
      | (with_reducible refine LeO.ite ?_ ?_)
      | (with_reducible refine LeO.bind ?_ (fun _ => ?_))
      | exact ih0 _ _ _
      | exact ih1 _ _ _ _ _ _ _ _ _ _
      | exact ih2 _ _ _ _ _ _ _ _ _ _
      | exact ih3 _ _ _ _ _ _ _ _ _
      | exact ih4 _ _ _ _ _ _ _ _ _ _
      | exact ih5 _ _ _ _ _ _ _ _ _
      | exact ih6 _ _ _ _ _ _ _ _ _ _
      | exact ih7 _ _ _ _ _ _ _ _ _
      | exact LeO.none _
      | refine LeO.ite ?_ ?_
      | refine LeO.bind ?_ (fun _ => ?_)
theorem astrolaberef17_Registers.mono : ∀ a0 k, LeO (astrolaberef17_Registers.f k a0) (astrolaberef17_Registers.f (k + 1) a0) := by
  intro a0 k
  obtain ⟨ih0, ih1, ih2, ih3, ih4, ih5, ih6, ih7⟩ := astrolaberef17_Registers.mono_l k
  unfold astrolaberef17_Registers.f
  repeat' first
      | (with_reducible exact ih0 _ _ _)
      | (with_reducible exact ih1 _ _ _ _ _ _ _ _ _ _)
      | (with_reducible exact ih2 _ _ _ _ _ _ _ _ _ _)
      | (with_reducible exact ih3 _ _ _ _ _ _ _ _ _)
      | (with_reducible exact ih4 _ _ _ _ _ _ _ _ _ _)
      | (with_reducible exact ih5 _ _ _ _ _ _ _ _ _)
      | (with_reducible exact ih6 _ _ _ _ _ _ _ _ _ _)
      | (with_reducible exact ih7 _ _ _ _ _ _ _ _ _)
      | (with_reducible exact LeO.refl _)
      | (with_reducible exact LeO.none _)
      | (with_reducible refine LeO.ite ?_ ?_)
      | (with_reducible refine LeO.bind ?_ (fun _ => ?_))
      | exact ih0 _ _ _
      | exact ih1 _ _ _ _ _ _ _ _ _ _
      | exact ih2 _ _ _ _ _ _ _ _ _ _
      | exact ih3 _ _ _ _ _ _ _ _ _
      | exact ih4 _ _ _ _ _ _ _ _ _ _
      | exact ih5 _ _ _ _ _ _ _ _ _
      | exact ih6 _ _ _ _ _ _ _ _ _ _
      | exact ih7 _ _ _ _ _ _ _ _ _
      | exact LeO.none _
      | refine LeO.ite ?_ ?_
      | refine LeO.bind ?_ (fun _ => ?_)
set_option maxHeartbeats 8000000 in
set_option maxRecDepth 100000 in
theorem astrolaberef17_Registers.calls (k : Nat) (A0 : Option Addr) (c0 : Nat) (l0 : List (S47)) (r : Int) (w : World) (hr0 : Kd.C k47 w A0 l0.length l0) (hc0 : l0.length ≤ c0) (h : astrolaberef17_Registers.f k l0 = some r) :
    Calls Try.prog 21 #[.slice A0 l0.length c0] w fun e w' => e = .returned (.int .i64 r) ∧ Below w.heap.size w w' := by
  have hu47 := Try.underlying47
  have HR0 := Aside0.mk hr0
  have HC0 := Aside0.mk hc0
  clear hr0 hc0
  have HB := Aside0.mk (Below.refl w.heap.size w)
  have H : (astrolaberef17_Registers.l0 k l0 0 0) = some r := h
  clear h
  have H' := Aside0.mk H
  clear H
  go_enter Try.func21, Try.ntmps21
  go_wp2
  go_loopg [3, 4] k (fun kq v3 v4 w' => ∃ (x3_1 : Int) (x4_1 : Int), v3 = .int .i64 x3_1 ∧ v4 = .int .i64 x4_1 ∧ Aside0 (astrolaberef17_Registers.l0 kq l0 x3_1 x4_1 = some r) ∧ Aside0 (kq ≤ k) ∧ Aside0 (Below w.heap.size w w'))
  case atStart => exact ⟨(0), (0), (by first | rfl | (simp; done) | (simp [*]; done)), (by first | rfl | (simp; done) | (simp [*]; done)), H', ⟨Nat.le_refl _⟩, ⟨by repeat (first | (with_reducible first | exact HB.out | apply below_alloc | apply pw_below_drewN | apply below_drew1) | exact HB.out)⟩⟩
  case round =>
    clear H'
    obtain ⟨x3_1, x4_1, rfl, rfl, HA, HK1, HB⟩ := hrel
    cases gk with
    | zero => exact absurd HA.out (by simp [astrolaberef17_Registers.l0])
    | succ k1 =>
      have H := HA.out
      clear HA
      simp only [astrolaberef17_Registers.l0] at H
      by_cases c2 : x4_1 < (l0.length : Int)
      · rw [if_pos c2] at H
        have c2b0 : decide (x4_1 < (l0.length : Int)) = true := decide_eq_true c2
        clear c2
        by_cases c3 : 0 ≤ x4_1
        · rw [if_pos c3] at H
          have c3b0 : decide (0 ≤ x4_1) = true := decide_eq_true c3
          clear c3
          have HC4 := Aside0.mk H
          clear H
          have p501 : 0 ≤ (x4_1 : Int) := of_decide_eq_true (by first | (with_reducible assumption) | assumption)
          have q501 : x4_1 < (l0.length : Int) := of_decide_eq_true (by first | (with_reducible assumption) | assumption)
          obtain ⟨ad501, e501, hx501_0, hx501_1, hx501_2, hx501_3, hx501_4, hx501_5⟩ := at_T47 HR0.out x4_1 p501 q501
          cases e501
          replace hx501_0 := (HB.out.cell (World.block_lt_of_cell? w _ hx501_0)).trans hx501_0
          replace hx501_1 := (HB.out.cell (World.block_lt_of_cell? w _ hx501_1)).trans hx501_1
          replace hx501_2 := (HB.out.cell (World.block_lt_of_cell? w _ hx501_2)).trans hx501_2
          replace hx501_3 := (HB.out.cell (World.block_lt_of_cell? w _ hx501_3)).trans hx501_3
          replace hx501_4 := (HB.out.cell (World.block_lt_of_cell? w _ hx501_4)).trans hx501_4
          replace hx501_5 := (HB.out.cell (World.block_lt_of_cell? w _ hx501_5)).trans hx501_5
          replace p501 := eq_true p501
          replace q501 := eq_true q501
          go_upto_region 6 with (first | ((with_reducible refine gate_dst (N := 5) rfl ?_); refine box_event ?hg (N := 5) ?hd (cs := #[.int .i64 0, .int .i64 0, .int .i64 0, .int .i64 0, .int .i64 0, .int .i64 0]) (t := 47) ?hr ?_; (case hd => rfl); (case hg => rfl); (case hr => first | (go_simp; done) | (go_simp; rfl)); intro gb502 hg w5 hbox hb; have n0_ := Aside0.mk (below_step (by repeat (first | (with_reducible first | exact HB.out | apply below_alloc | apply pw_below_drewN | apply below_drew1) | exact HB.out)) hb); have n1_ := Aside0.mk (hbox); have n2_ := Aside0.mk ((by rw [hg]; exact (below_size (by repeat (first | (with_reducible first | exact HB.out | apply below_alloc | apply pw_below_drewN | apply below_drew1) | exact HB.out))) : w.heap.size ≤ gb502)); have n3_ := Aside0.mk ((by rw [hg]; exact (below_size (by repeat (first | (with_reducible first | exact HB.out | apply below_alloc | apply pw_below_drewN | apply below_drew1) | exact HB.out))) : w.heap.size ≤ gb502)); clear HB; have HB := n0_; have BK502 := n1_; have GW502 := n2_; have GE502 := n3_; clear n0_ n1_ n2_ n3_; clear hb hbox hg; have hcz6_0 : w5.cell? ⟨gb502, 0, none⟩ = some (.int .i64 0) := (blk_cell BK502.out 0).trans rfl; have hcz6_1 : w5.cell? ⟨gb502, 1, none⟩ = some (.int .i64 0) := (blk_cell BK502.out 1).trans rfl; have hcz6_2 : w5.cell? ⟨gb502, 2, none⟩ = some (.int .i64 0) := (blk_cell BK502.out 2).trans rfl; have hcz6_3 : w5.cell? ⟨gb502, 3, none⟩ = some (.int .i64 0) := (blk_cell BK502.out 3).trans rfl; have hcz6_4 : w5.cell? ⟨gb502, 4, none⟩ = some (.int .i64 0) := (blk_cell BK502.out 4).trans rfl; have hcz6_5 : w5.cell? ⟨gb502, 5, none⟩ = some (.int .i64 0) := (blk_cell BK502.out 5).trans rfl; have hfz6_0 := blk_frozen BK502.out 0; have hfz6_1 := blk_frozen BK502.out 1; have hfz6_2 := blk_frozen BK502.out 2; have hfz6_3 := blk_frozen BK502.out 3; have hfz6_4 := blk_frozen BK502.out 4; have hfz6_5 := blk_frozen BK502.out 5))
          (try simp only [Act.put, List.setIfInBounds_toArray, List.set_cons_zero, List.set_cons_succ])
          go_cut [23] (fun v23 wc => ∃ (kq : Nat) (x23_3 : Bool), v23 = .bool x23_3 ∧ Aside0 (astrolaberef17_Registers.j1 kq l0 x3_1 x4_1 x23_3 ((rd_T47 l0 x4_1).f0) ((rd_T47 l0 x4_1).f1) ((rd_T47 l0 x4_1).f2) ((rd_T47 l0 x4_1).f3) ((rd_T47 l0 x4_1).f4) ((rd_T47 l0 x4_1).f5) = some r) ∧ Aside0 (kq ≤ k1) ∧ Aside0 (wc.heap[gb502]? = some (.cells #[.int .i64 ((rd_T47 l0 x4_1).f0), .int .i64 ((rd_T47 l0 x4_1).f1), .int .i64 ((rd_T47 l0 x4_1).f2), .int .i64 ((rd_T47 l0 x4_1).f3), .int .i64 ((rd_T47 l0 x4_1).f4), .int .i64 ((rd_T47 l0 x4_1).f5)] 47 (0, 0))) ∧ Aside0 (Below w.heap.size w wc))
          case first =>
            have H := HC4.out
            clear HC4
            by_cases c7 : ((rd_T47 l0 x4_1).f0) < 1
            · rw [if_pos c7] at H
              have c7b0 : decide (((rd_T47 l0 x4_1).f0) < 1) = true := decide_eq_true c7
              clear c7
              (first | rw [c7b0] | (simp only [i64_w, i32_w]; rw [c7b0]) | skip)
              have H' := Aside0.mk H
              clear H
              have hcz8_0 : w5.cell? ⟨gb502, 0, none⟩ = some (.int .i64 0) := (blk_cell BK502.out 0).trans rfl
              have hcz8_1 : w5.cell? ⟨gb502, 1, none⟩ = some (.int .i64 0) := (blk_cell BK502.out 1).trans rfl
              have hcz8_2 : w5.cell? ⟨gb502, 2, none⟩ = some (.int .i64 0) := (blk_cell BK502.out 2).trans rfl
              have hcz8_3 : w5.cell? ⟨gb502, 3, none⟩ = some (.int .i64 0) := (blk_cell BK502.out 3).trans rfl
              have hcz8_4 : w5.cell? ⟨gb502, 4, none⟩ = some (.int .i64 0) := (blk_cell BK502.out 4).trans rfl
              have hcz8_5 : w5.cell? ⟨gb502, 5, none⟩ = some (.int .i64 0) := (blk_cell BK502.out 5).trans rfl
              have hfz8_0 := blk_frozen BK502.out 0
              have hfz8_1 := blk_frozen BK502.out 1
              have hfz8_2 := blk_frozen BK502.out 2
              have hfz8_3 := blk_frozen BK502.out 3
              have hfz8_4 := blk_frozen BK502.out 4
              have hfz8_5 := blk_frozen BK502.out 5
              go_wp2
              go_meet
              case rel => exact ⟨_, (true), (by first | rfl | (simp; done) | (simp [*]; done)), H', ⟨by have := HK1.out; first | omega | exact Nat.le_refl _⟩, ⟨by (with_reducible repeat (first | refine blk_drewN ?_ _ | refine blk_drew ?_ | refine blk_alloc ?_ _)); refine blk_put (cs := #[.int .i64 ((rd_T47 l0 x4_1).f0), .int .i64 ((rd_T47 l0 x4_1).f1), .int .i64 ((rd_T47 l0 x4_1).f2), .int .i64 ((rd_T47 l0 x4_1).f3), .int .i64 ((rd_T47 l0 x4_1).f4), .int .i64 0]) ?_ 5 _ rfl; (with_reducible repeat (first | refine blk_drewN ?_ _ | refine blk_drew ?_ | refine blk_alloc ?_ _)); refine blk_put (cs := #[.int .i64 ((rd_T47 l0 x4_1).f0), .int .i64 ((rd_T47 l0 x4_1).f1), .int .i64 ((rd_T47 l0 x4_1).f2), .int .i64 ((rd_T47 l0 x4_1).f3), .int .i64 0, .int .i64 0]) ?_ 4 _ rfl; (with_reducible repeat (first | refine blk_drewN ?_ _ | refine blk_drew ?_ | refine blk_alloc ?_ _)); refine blk_put (cs := #[.int .i64 ((rd_T47 l0 x4_1).f0), .int .i64 ((rd_T47 l0 x4_1).f1), .int .i64 ((rd_T47 l0 x4_1).f2), .int .i64 0, .int .i64 0, .int .i64 0]) ?_ 3 _ rfl; (with_reducible repeat (first | refine blk_drewN ?_ _ | refine blk_drew ?_ | refine blk_alloc ?_ _)); refine blk_put (cs := #[.int .i64 ((rd_T47 l0 x4_1).f0), .int .i64 ((rd_T47 l0 x4_1).f1), .int .i64 0, .int .i64 0, .int .i64 0, .int .i64 0]) ?_ 2 _ rfl; (with_reducible repeat (first | refine blk_drewN ?_ _ | refine blk_drew ?_ | refine blk_alloc ?_ _)); refine blk_put (cs := #[.int .i64 ((rd_T47 l0 x4_1).f0), .int .i64 0, .int .i64 0, .int .i64 0, .int .i64 0, .int .i64 0]) ?_ 1 _ rfl; (with_reducible repeat (first | refine blk_drewN ?_ _ | refine blk_drew ?_ | refine blk_alloc ?_ _)); refine blk_put (cs := #[.int .i64 0, .int .i64 0, .int .i64 0, .int .i64 0, .int .i64 0, .int .i64 0]) ?_ 0 _ rfl; (with_reducible repeat (first | refine blk_drewN ?_ _ | refine blk_drew ?_ | refine blk_alloc ?_ _)); exact BK502.out⟩, ⟨by repeat (first | (with_reducible first | exact HB.out | apply below_alloc | apply pw_below_drewN | apply below_drew1 | refine below_set ?_ GE502.out) | exact HB.out)⟩⟩
            · rw [if_neg c7] at H
              have c7b0 : decide (((rd_T47 l0 x4_1).f0) < 1) = false := decide_eq_false c7
              clear c7
              (first | rw [c7b0] | (simp only [i64_w, i32_w]; rw [c7b0]) | skip)
              have H' := Aside0.mk H
              clear H
              have hcz9_0 : w5.cell? ⟨gb502, 0, none⟩ = some (.int .i64 0) := (blk_cell BK502.out 0).trans rfl
              have hcz9_1 : w5.cell? ⟨gb502, 1, none⟩ = some (.int .i64 0) := (blk_cell BK502.out 1).trans rfl
              have hcz9_2 : w5.cell? ⟨gb502, 2, none⟩ = some (.int .i64 0) := (blk_cell BK502.out 2).trans rfl
              have hcz9_3 : w5.cell? ⟨gb502, 3, none⟩ = some (.int .i64 0) := (blk_cell BK502.out 3).trans rfl
              have hcz9_4 : w5.cell? ⟨gb502, 4, none⟩ = some (.int .i64 0) := (blk_cell BK502.out 4).trans rfl
              have hcz9_5 : w5.cell? ⟨gb502, 5, none⟩ = some (.int .i64 0) := (blk_cell BK502.out 5).trans rfl
              have hfz9_0 := blk_frozen BK502.out 0
              have hfz9_1 := blk_frozen BK502.out 1
              have hfz9_2 := blk_frozen BK502.out 2
              have hfz9_3 := blk_frozen BK502.out 3
              have hfz9_4 := blk_frozen BK502.out 4
              have hfz9_5 := blk_frozen BK502.out 5
              go_wp2
              go_meet
              case rel => exact ⟨_, (decide (((rd_T47 l0 x4_1).f0) > 22)), (by first | rfl | (simp; done) | (simp [*]; done)), H', ⟨by have := HK1.out; first | omega | exact Nat.le_refl _⟩, ⟨by (with_reducible repeat (first | refine blk_drewN ?_ _ | refine blk_drew ?_ | refine blk_alloc ?_ _)); refine blk_put (cs := #[.int .i64 ((rd_T47 l0 x4_1).f0), .int .i64 ((rd_T47 l0 x4_1).f1), .int .i64 ((rd_T47 l0 x4_1).f2), .int .i64 ((rd_T47 l0 x4_1).f3), .int .i64 ((rd_T47 l0 x4_1).f4), .int .i64 0]) ?_ 5 _ rfl; (with_reducible repeat (first | refine blk_drewN ?_ _ | refine blk_drew ?_ | refine blk_alloc ?_ _)); refine blk_put (cs := #[.int .i64 ((rd_T47 l0 x4_1).f0), .int .i64 ((rd_T47 l0 x4_1).f1), .int .i64 ((rd_T47 l0 x4_1).f2), .int .i64 ((rd_T47 l0 x4_1).f3), .int .i64 0, .int .i64 0]) ?_ 4 _ rfl; (with_reducible repeat (first | refine blk_drewN ?_ _ | refine blk_drew ?_ | refine blk_alloc ?_ _)); refine blk_put (cs := #[.int .i64 ((rd_T47 l0 x4_1).f0), .int .i64 ((rd_T47 l0 x4_1).f1), .int .i64 ((rd_T47 l0 x4_1).f2), .int .i64 0, .int .i64 0, .int .i64 0]) ?_ 3 _ rfl; (with_reducible repeat (first | refine blk_drewN ?_ _ | refine blk_drew ?_ | refine blk_alloc ?_ _)); refine blk_put (cs := #[.int .i64 ((rd_T47 l0 x4_1).f0), .int .i64 ((rd_T47 l0 x4_1).f1), .int .i64 0, .int .i64 0, .int .i64 0, .int .i64 0]) ?_ 2 _ rfl; (with_reducible repeat (first | refine blk_drewN ?_ _ | refine blk_drew ?_ | refine blk_alloc ?_ _)); refine blk_put (cs := #[.int .i64 ((rd_T47 l0 x4_1).f0), .int .i64 0, .int .i64 0, .int .i64 0, .int .i64 0, .int .i64 0]) ?_ 1 _ rfl; (with_reducible repeat (first | refine blk_drewN ?_ _ | refine blk_drew ?_ | refine blk_alloc ?_ _)); refine blk_put (cs := #[.int .i64 0, .int .i64 0, .int .i64 0, .int .i64 0, .int .i64 0, .int .i64 0]) ?_ 0 _ rfl; (with_reducible repeat (first | refine blk_drewN ?_ _ | refine blk_drew ?_ | refine blk_alloc ?_ _)); exact BK502.out⟩, ⟨by repeat (first | (with_reducible first | exact HB.out | apply below_alloc | apply pw_below_drewN | apply below_drew1 | refine below_set ?_ GE502.out) | exact HB.out)⟩⟩
          case rest =>
            clear HC4
            try clear c2
            try clear c2b0
            try clear p2
            try clear c3
            try clear c3b0
            try clear p5
            try clear q5
            try clear hx5
            try clear c7
            try clear c7b0
            try clear hcz6_0
            try clear hcz6_1
            try clear hcz6_2
            try clear hcz6_3
            try clear hcz6_4
            try clear hcz6_5
            try clear hcz8_0
            try clear hcz8_1
            try clear hcz8_2
            try clear hcz8_3
            try clear hcz8_4
            try clear hcz8_5
            try clear hcz9_0
            try clear hcz9_1
            try clear hcz9_2
            try clear hcz9_3
            try clear hcz9_4
            try clear hcz9_5
            try clear hfz6_0
            try clear hfz6_1
            try clear hfz6_2
            try clear hfz6_3
            try clear hfz6_4
            try clear hfz6_5
            try clear hfz8_0
            try clear hfz8_1
            try clear hfz8_2
            try clear hfz8_3
            try clear hfz8_4
            try clear hfz8_5
            try clear hfz9_0
            try clear hfz9_1
            try clear hfz9_2
            try clear hfz9_3
            try clear hfz9_4
            try clear hfz9_5
            try clear hx501_0
            try clear hx501_1
            try clear hx501_2
            try clear hx501_3
            try clear hx501_4
            try clear hx501_5
            try clear p501
            try clear q501
            obtain ⟨kq, x23_3, rfl, HA, HJ3, BK502, HB⟩ := hcut
            cases kq with
            | zero => exact absurd HA.out (by simp [astrolaberef17_Registers.j1])
            | succ kj3 =>
              have H := HA.out
              clear HA
              simp only [astrolaberef17_Registers.j1] at H
              by_cases c10 : x23_3 = true
              · subst c10
                have H1 : (astrolaberef17_Registers.l0 kj3 l0 x3_1 (wrap64 (x4_1 + 1))) = some r := by rw [if_pos rfl] at H; exact H
                clear H
                have H := H1
                clear H1
                have H' := Aside0.mk H
                clear H
                go_wp2
                go_roundg kj3
                case measure => have := HK1.out; have := HJ3.out; omega
                case rel => exact ⟨(x3_1), (wrap64 (x4_1 + 1)), (by first | rfl | (simp; done) | (simp [*]; done)), (by first | rfl | (simp; done) | (simp [*]; done)), H', ⟨by have := HK1.out; have := HJ3.out; omega⟩, ⟨by repeat (first | (with_reducible first | exact HB.out | apply below_alloc | apply pw_below_drewN | apply below_drew1 | refine below_set ?_ GE502.out) | exact HB.out)⟩⟩
              · replace c10 := Bool.eq_false_iff.mpr c10
                subst c10
                have H1 : (if ((rd_T47 l0 x4_1).f0) ≤ 18 then (astrolaberef17_Registers.j2 kj3 l0 x3_1 x4_1 (decide (((rd_T47 l0 x4_1).f1) ≥ x3_1)) ((rd_T47 l0 x4_1).f0) ((rd_T47 l0 x4_1).f1) ((rd_T47 l0 x4_1).f2) ((rd_T47 l0 x4_1).f3) ((rd_T47 l0 x4_1).f4) ((rd_T47 l0 x4_1).f5)) else (astrolaberef17_Registers.j2 kj3 l0 x3_1 x4_1 false ((rd_T47 l0 x4_1).f0) ((rd_T47 l0 x4_1).f1) ((rd_T47 l0 x4_1).f2) ((rd_T47 l0 x4_1).f3) ((rd_T47 l0 x4_1).f4) ((rd_T47 l0 x4_1).f5))) = some r := by rw [if_neg (show ¬ (false = true) by decide)] at H; exact H
                clear H
                have H := H1
                clear H1
                have HC11 := Aside0.mk H
                clear H
                go_upto_region 7 with (fail)
                go_cut [32] (fun v32 wc => ∃ (kq : Nat) (x32_10 : Bool), v32 = .bool x32_10 ∧ Aside0 (astrolaberef17_Registers.j2 kq l0 x3_1 x4_1 x32_10 ((rd_T47 l0 x4_1).f0) ((rd_T47 l0 x4_1).f1) ((rd_T47 l0 x4_1).f2) ((rd_T47 l0 x4_1).f3) ((rd_T47 l0 x4_1).f4) ((rd_T47 l0 x4_1).f5) = some r) ∧ Aside0 (kq ≤ kj3) ∧ Aside0 (wc.heap[gb502]? = some (.cells #[.int .i64 ((rd_T47 l0 x4_1).f0), .int .i64 ((rd_T47 l0 x4_1).f1), .int .i64 ((rd_T47 l0 x4_1).f2), .int .i64 ((rd_T47 l0 x4_1).f3), .int .i64 ((rd_T47 l0 x4_1).f4), .int .i64 ((rd_T47 l0 x4_1).f5)] 47 (0, 0))) ∧ Aside0 (Below w.heap.size w wc))
                case first =>
                  have H := HC11.out
                  clear HC11
                  by_cases c12 : ((rd_T47 l0 x4_1).f0) ≤ 18
                  · rw [if_pos c12] at H
                    have c12b0 : decide (((rd_T47 l0 x4_1).f0) ≤ 18) = true := decide_eq_true c12
                    clear c12
                    (first | rw [c12b0] | (simp only [i64_w, i32_w]; rw [c12b0]) | skip)
                    have H' := Aside0.mk H
                    clear H
                    have hcz13_0 : wc.cell? ⟨gb502, 0, none⟩ = some (.int .i64 ((rd_T47 l0 x4_1).f0)) := (blk_cell BK502.out 0).trans rfl
                    have hcz13_1 : wc.cell? ⟨gb502, 1, none⟩ = some (.int .i64 ((rd_T47 l0 x4_1).f1)) := (blk_cell BK502.out 1).trans rfl
                    have hcz13_2 : wc.cell? ⟨gb502, 2, none⟩ = some (.int .i64 ((rd_T47 l0 x4_1).f2)) := (blk_cell BK502.out 2).trans rfl
                    have hcz13_3 : wc.cell? ⟨gb502, 3, none⟩ = some (.int .i64 ((rd_T47 l0 x4_1).f3)) := (blk_cell BK502.out 3).trans rfl
                    have hcz13_4 : wc.cell? ⟨gb502, 4, none⟩ = some (.int .i64 ((rd_T47 l0 x4_1).f4)) := (blk_cell BK502.out 4).trans rfl
                    have hcz13_5 : wc.cell? ⟨gb502, 5, none⟩ = some (.int .i64 ((rd_T47 l0 x4_1).f5)) := (blk_cell BK502.out 5).trans rfl
                    have hfz13_0 := blk_frozen BK502.out 0
                    have hfz13_1 := blk_frozen BK502.out 1
                    have hfz13_2 := blk_frozen BK502.out 2
                    have hfz13_3 := blk_frozen BK502.out 3
                    have hfz13_4 := blk_frozen BK502.out 4
                    have hfz13_5 := blk_frozen BK502.out 5
                    go_wp2
                    go_meet
                    case rel => exact ⟨_, (decide (((rd_T47 l0 x4_1).f1) ≥ x3_1)), (by first | rfl | (simp; done) | (simp [*]; done)), H', ⟨by have := HK1.out; have := HJ3.out; first | omega | exact Nat.le_refl _⟩, ⟨by (with_reducible repeat (first | refine blk_drewN ?_ _ | refine blk_drew ?_ | refine blk_alloc ?_ _)); exact BK502.out⟩, ⟨by repeat (first | (with_reducible first | exact HB.out | apply below_alloc | apply pw_below_drewN | apply below_drew1 | refine below_set ?_ GE502.out) | exact HB.out)⟩⟩
                  · rw [if_neg c12] at H
                    have c12b0 : decide (((rd_T47 l0 x4_1).f0) ≤ 18) = false := decide_eq_false c12
                    clear c12
                    (first | rw [c12b0] | (simp only [i64_w, i32_w]; rw [c12b0]) | skip)
                    have H' := Aside0.mk H
                    clear H
                    have hcz14_0 : wc.cell? ⟨gb502, 0, none⟩ = some (.int .i64 ((rd_T47 l0 x4_1).f0)) := (blk_cell BK502.out 0).trans rfl
                    have hcz14_1 : wc.cell? ⟨gb502, 1, none⟩ = some (.int .i64 ((rd_T47 l0 x4_1).f1)) := (blk_cell BK502.out 1).trans rfl
                    have hcz14_2 : wc.cell? ⟨gb502, 2, none⟩ = some (.int .i64 ((rd_T47 l0 x4_1).f2)) := (blk_cell BK502.out 2).trans rfl
                    have hcz14_3 : wc.cell? ⟨gb502, 3, none⟩ = some (.int .i64 ((rd_T47 l0 x4_1).f3)) := (blk_cell BK502.out 3).trans rfl
                    have hcz14_4 : wc.cell? ⟨gb502, 4, none⟩ = some (.int .i64 ((rd_T47 l0 x4_1).f4)) := (blk_cell BK502.out 4).trans rfl
                    have hcz14_5 : wc.cell? ⟨gb502, 5, none⟩ = some (.int .i64 ((rd_T47 l0 x4_1).f5)) := (blk_cell BK502.out 5).trans rfl
                    have hfz14_0 := blk_frozen BK502.out 0
                    have hfz14_1 := blk_frozen BK502.out 1
                    have hfz14_2 := blk_frozen BK502.out 2
                    have hfz14_3 := blk_frozen BK502.out 3
                    have hfz14_4 := blk_frozen BK502.out 4
                    have hfz14_5 := blk_frozen BK502.out 5
                    go_wp2
                    go_meet
                    case rel => exact ⟨_, (false), (by first | rfl | (simp; done) | (simp [*]; done)), H', ⟨by have := HK1.out; have := HJ3.out; first | omega | exact Nat.le_refl _⟩, ⟨by (with_reducible repeat (first | refine blk_drewN ?_ _ | refine blk_drew ?_ | refine blk_alloc ?_ _)); exact BK502.out⟩, ⟨by repeat (first | (with_reducible first | exact HB.out | apply below_alloc | apply pw_below_drewN | apply below_drew1 | refine below_set ?_ GE502.out) | exact HB.out)⟩⟩
                case rest =>
                  clear HC11
                  try clear c1
                  try clear c2
                  try clear c2b0
                  try clear p2
                  try clear c3
                  try clear c3b0
                  try clear p5
                  try clear q5
                  try clear hx5
                  try clear p6
                  try clear c7
                  try clear c7b0
                  try clear c10
                  try clear c12
                  try clear c12b0
                  try clear hcz13_0
                  try clear hcz13_1
                  try clear hcz13_2
                  try clear hcz13_3
                  try clear hcz13_4
                  try clear hcz13_5
                  try clear hcz14_0
                  try clear hcz14_1
                  try clear hcz14_2
                  try clear hcz14_3
                  try clear hcz14_4
                  try clear hcz14_5
                  try clear hcz6_0
                  try clear hcz6_1
                  try clear hcz6_2
                  try clear hcz6_3
                  try clear hcz6_4
                  try clear hcz6_5
                  try clear hcz8_0
                  try clear hcz8_1
                  try clear hcz8_2
                  try clear hcz8_3
                  try clear hcz8_4
                  try clear hcz8_5
                  try clear hcz9_0
                  try clear hcz9_1
                  try clear hcz9_2
                  try clear hcz9_3
                  try clear hcz9_4
                  try clear hcz9_5
                  try clear hfz13_0
                  try clear hfz13_1
                  try clear hfz13_2
                  try clear hfz13_3
                  try clear hfz13_4
                  try clear hfz13_5
                  try clear hfz14_0
                  try clear hfz14_1
                  try clear hfz14_2
                  try clear hfz14_3
                  try clear hfz14_4
                  try clear hfz14_5
                  try clear hfz6_0
                  try clear hfz6_1
                  try clear hfz6_2
                  try clear hfz6_3
                  try clear hfz6_4
                  try clear hfz6_5
                  try clear hfz8_0
                  try clear hfz8_1
                  try clear hfz8_2
                  try clear hfz8_3
                  try clear hfz8_4
                  try clear hfz8_5
                  try clear hfz9_0
                  try clear hfz9_1
                  try clear hfz9_2
                  try clear hfz9_3
                  try clear hfz9_4
                  try clear hfz9_5
                  try clear hx501_0
                  try clear hx501_1
                  try clear hx501_2
                  try clear hx501_3
                  try clear hx501_4
                  try clear hx501_5
                  try clear p2
                  try clear p5
                  try clear p501
                  try clear q5
                  try clear q501
                  obtain ⟨kq, x32_10, rfl, HA, HJ10, BK502, HB⟩ := hcut
                  cases kq with
                  | zero => exact absurd HA.out (by simp [astrolaberef17_Registers.j2])
                  | succ kj10 =>
                    have H := HA.out
                    clear HA
                    simp only [astrolaberef17_Registers.j2] at H
                    have HC15 := Aside0.mk H
                    clear H
                    go_upto_if 32 with (fail)
                    go_cut [3] (fun v3 wc => ∃ (kq : Nat) (x3_14 : Int), v3 = .int .i64 x3_14 ∧ Aside0 (astrolaberef17_Registers.j3 kq l0 x3_14 x4_1 ((rd_T47 l0 x4_1).f0) ((rd_T47 l0 x4_1).f1) ((rd_T47 l0 x4_1).f2) ((rd_T47 l0 x4_1).f3) ((rd_T47 l0 x4_1).f4) ((rd_T47 l0 x4_1).f5) = some r) ∧ Aside0 (kq ≤ kj10) ∧ Aside0 (wc.heap[gb502]? = some (.cells #[.int .i64 ((rd_T47 l0 x4_1).f0), .int .i64 ((rd_T47 l0 x4_1).f1), .int .i64 ((rd_T47 l0 x4_1).f2), .int .i64 ((rd_T47 l0 x4_1).f3), .int .i64 ((rd_T47 l0 x4_1).f4), .int .i64 ((rd_T47 l0 x4_1).f5)] 47 (0, 0))) ∧ Aside0 (Below w.heap.size w wc))
                    case first =>
                      have H := HC15.out
                      clear HC15
                      by_cases c16 : x32_10 = true
                      · subst c16
                        have H1 : (astrolaberef17_Registers.j3 kj10 l0 (wrap64 (((rd_T47 l0 x4_1).f1) + 1)) x4_1 ((rd_T47 l0 x4_1).f0) ((rd_T47 l0 x4_1).f1) ((rd_T47 l0 x4_1).f2) ((rd_T47 l0 x4_1).f3) ((rd_T47 l0 x4_1).f4) ((rd_T47 l0 x4_1).f5)) = some r := by rw [if_pos rfl] at H; exact H
                        clear H
                        have H := H1
                        clear H1
                        have H' := Aside0.mk H
                        clear H
                        have hcz17_0 : wc.cell? ⟨gb502, 0, none⟩ = some (.int .i64 ((rd_T47 l0 x4_1).f0)) := (blk_cell BK502.out 0).trans rfl
                        have hcz17_1 : wc.cell? ⟨gb502, 1, none⟩ = some (.int .i64 ((rd_T47 l0 x4_1).f1)) := (blk_cell BK502.out 1).trans rfl
                        have hcz17_2 : wc.cell? ⟨gb502, 2, none⟩ = some (.int .i64 ((rd_T47 l0 x4_1).f2)) := (blk_cell BK502.out 2).trans rfl
                        have hcz17_3 : wc.cell? ⟨gb502, 3, none⟩ = some (.int .i64 ((rd_T47 l0 x4_1).f3)) := (blk_cell BK502.out 3).trans rfl
                        have hcz17_4 : wc.cell? ⟨gb502, 4, none⟩ = some (.int .i64 ((rd_T47 l0 x4_1).f4)) := (blk_cell BK502.out 4).trans rfl
                        have hcz17_5 : wc.cell? ⟨gb502, 5, none⟩ = some (.int .i64 ((rd_T47 l0 x4_1).f5)) := (blk_cell BK502.out 5).trans rfl
                        have hfz17_0 := blk_frozen BK502.out 0
                        have hfz17_1 := blk_frozen BK502.out 1
                        have hfz17_2 := blk_frozen BK502.out 2
                        have hfz17_3 := blk_frozen BK502.out 3
                        have hfz17_4 := blk_frozen BK502.out 4
                        have hfz17_5 := blk_frozen BK502.out 5
                        go_wp2
                        go_meet
                        case rel => exact ⟨_, (wrap64 (((rd_T47 l0 x4_1).f1) + 1)), (by first | rfl | (simp; done) | (simp [*]; done)), H', ⟨by have := HK1.out; have := HJ3.out; have := HJ10.out; first | omega | exact Nat.le_refl _⟩, ⟨by (with_reducible repeat (first | refine blk_drewN ?_ _ | refine blk_drew ?_ | refine blk_alloc ?_ _)); exact BK502.out⟩, ⟨by repeat (first | (with_reducible first | exact HB.out | apply below_alloc | apply pw_below_drewN | apply below_drew1 | refine below_set ?_ GE502.out) | exact HB.out)⟩⟩
                      · replace c16 := Bool.eq_false_iff.mpr c16
                        subst c16
                        have H1 : (astrolaberef17_Registers.j3 kj10 l0 x3_1 x4_1 ((rd_T47 l0 x4_1).f0) ((rd_T47 l0 x4_1).f1) ((rd_T47 l0 x4_1).f2) ((rd_T47 l0 x4_1).f3) ((rd_T47 l0 x4_1).f4) ((rd_T47 l0 x4_1).f5)) = some r := by rw [if_neg (show ¬ (false = true) by decide)] at H; exact H
                        clear H
                        have H := H1
                        clear H1
                        have H' := Aside0.mk H
                        clear H
                        go_wp2
                        go_meet
                        case rel => exact ⟨_, (x3_1), (by first | rfl | (simp; done) | (simp [*]; done)), H', ⟨by have := HK1.out; have := HJ3.out; have := HJ10.out; first | omega | exact Nat.le_refl _⟩, ⟨by (with_reducible repeat (first | refine blk_drewN ?_ _ | refine blk_drew ?_ | refine blk_alloc ?_ _)); exact BK502.out⟩, ⟨by repeat (first | (with_reducible first | exact HB.out | apply below_alloc | apply pw_below_drewN | apply below_drew1 | refine below_set ?_ GE502.out) | exact HB.out)⟩⟩
                    case rest =>
                      clear HC15
                      try clear c1
                      try clear c2
                      try clear c2b0
                      try clear p2
                      try clear c3
                      try clear c3b0
                      try clear p5
                      try clear q5
                      try clear hx5
                      try clear p6
                      try clear c7
                      try clear c7b0
                      try clear c10
                      try clear c12
                      try clear c12b0
                      try clear c16
                      try clear hcz13_0
                      try clear hcz13_1
                      try clear hcz13_2
                      try clear hcz13_3
                      try clear hcz13_4
                      try clear hcz13_5
                      try clear hcz14_0
                      try clear hcz14_1
                      try clear hcz14_2
                      try clear hcz14_3
                      try clear hcz14_4
                      try clear hcz14_5
                      try clear hcz17_0
                      try clear hcz17_1
                      try clear hcz17_2
                      try clear hcz17_3
                      try clear hcz17_4
                      try clear hcz17_5
                      try clear hcz6_0
                      try clear hcz6_1
                      try clear hcz6_2
                      try clear hcz6_3
                      try clear hcz6_4
                      try clear hcz6_5
                      try clear hcz8_0
                      try clear hcz8_1
                      try clear hcz8_2
                      try clear hcz8_3
                      try clear hcz8_4
                      try clear hcz8_5
                      try clear hcz9_0
                      try clear hcz9_1
                      try clear hcz9_2
                      try clear hcz9_3
                      try clear hcz9_4
                      try clear hcz9_5
                      try clear hfz13_0
                      try clear hfz13_1
                      try clear hfz13_2
                      try clear hfz13_3
                      try clear hfz13_4
                      try clear hfz13_5
                      try clear hfz14_0
                      try clear hfz14_1
                      try clear hfz14_2
                      try clear hfz14_3
                      try clear hfz14_4
                      try clear hfz14_5
                      try clear hfz17_0
                      try clear hfz17_1
                      try clear hfz17_2
                      try clear hfz17_3
                      try clear hfz17_4
                      try clear hfz17_5
                      try clear hfz6_0
                      try clear hfz6_1
                      try clear hfz6_2
                      try clear hfz6_3
                      try clear hfz6_4
                      try clear hfz6_5
                      try clear hfz8_0
                      try clear hfz8_1
                      try clear hfz8_2
                      try clear hfz8_3
                      try clear hfz8_4
                      try clear hfz8_5
                      try clear hfz9_0
                      try clear hfz9_1
                      try clear hfz9_2
                      try clear hfz9_3
                      try clear hfz9_4
                      try clear hfz9_5
                      try clear hx501_0
                      try clear hx501_1
                      try clear hx501_2
                      try clear hx501_3
                      try clear hx501_4
                      try clear hx501_5
                      try clear p2
                      try clear p5
                      try clear p501
                      try clear p6
                      try clear q5
                      try clear q501
                      obtain ⟨kq, x3_14, rfl, HA, HJ14, BK502, HB⟩ := hcut
                      cases kq with
                      | zero => exact absurd HA.out (by simp [astrolaberef17_Registers.j3])
                      | succ kj14 =>
                        have H := HA.out
                        clear HA
                        simp only [astrolaberef17_Registers.j3] at H
                        have HC18 := Aside0.mk H
                        clear H
                        go_upto_region 9 with (fail)
                        go_cut [44] (fun v44 wc => ∃ (kq : Nat) (x44_17 : Bool), v44 = .bool x44_17 ∧ Aside0 (astrolaberef17_Registers.j4 kq l0 x3_14 x4_1 x44_17 ((rd_T47 l0 x4_1).f0) ((rd_T47 l0 x4_1).f1) ((rd_T47 l0 x4_1).f2) ((rd_T47 l0 x4_1).f3) ((rd_T47 l0 x4_1).f4) ((rd_T47 l0 x4_1).f5) = some r) ∧ Aside0 (kq ≤ kj14) ∧ Aside0 (wc.heap[gb502]? = some (.cells #[.int .i64 ((rd_T47 l0 x4_1).f0), .int .i64 ((rd_T47 l0 x4_1).f1), .int .i64 ((rd_T47 l0 x4_1).f2), .int .i64 ((rd_T47 l0 x4_1).f3), .int .i64 ((rd_T47 l0 x4_1).f4), .int .i64 ((rd_T47 l0 x4_1).f5)] 47 (0, 0))) ∧ Aside0 (Below w.heap.size w wc))
                        case first =>
                          have H := HC18.out
                          clear HC18
                          by_cases c19 : ((rd_T47 l0 x4_1).f0) ≥ 6
                          · rw [if_pos c19] at H
                            have c19b0 : decide (6 ≤ ((rd_T47 l0 x4_1).f0)) = true := decide_eq_true c19
                            clear c19
                            (first | rw [c19b0] | (simp only [i64_w, i32_w]; rw [c19b0]) | skip)
                            have H' := Aside0.mk H
                            clear H
                            have hcz20_0 : wc.cell? ⟨gb502, 0, none⟩ = some (.int .i64 ((rd_T47 l0 x4_1).f0)) := (blk_cell BK502.out 0).trans rfl
                            have hcz20_1 : wc.cell? ⟨gb502, 1, none⟩ = some (.int .i64 ((rd_T47 l0 x4_1).f1)) := (blk_cell BK502.out 1).trans rfl
                            have hcz20_2 : wc.cell? ⟨gb502, 2, none⟩ = some (.int .i64 ((rd_T47 l0 x4_1).f2)) := (blk_cell BK502.out 2).trans rfl
                            have hcz20_3 : wc.cell? ⟨gb502, 3, none⟩ = some (.int .i64 ((rd_T47 l0 x4_1).f3)) := (blk_cell BK502.out 3).trans rfl
                            have hcz20_4 : wc.cell? ⟨gb502, 4, none⟩ = some (.int .i64 ((rd_T47 l0 x4_1).f4)) := (blk_cell BK502.out 4).trans rfl
                            have hcz20_5 : wc.cell? ⟨gb502, 5, none⟩ = some (.int .i64 ((rd_T47 l0 x4_1).f5)) := (blk_cell BK502.out 5).trans rfl
                            have hfz20_0 := blk_frozen BK502.out 0
                            have hfz20_1 := blk_frozen BK502.out 1
                            have hfz20_2 := blk_frozen BK502.out 2
                            have hfz20_3 := blk_frozen BK502.out 3
                            have hfz20_4 := blk_frozen BK502.out 4
                            have hfz20_5 := blk_frozen BK502.out 5
                            go_wp2
                            go_meet
                            case rel => exact ⟨_, (decide (((rd_T47 l0 x4_1).f2) ≥ x3_14)), (by first | rfl | (simp; done) | (simp [*]; done)), H', ⟨by have := HK1.out; have := HJ3.out; have := HJ10.out; have := HJ14.out; first | omega | exact Nat.le_refl _⟩, ⟨by (with_reducible repeat (first | refine blk_drewN ?_ _ | refine blk_drew ?_ | refine blk_alloc ?_ _)); exact BK502.out⟩, ⟨by repeat (first | (with_reducible first | exact HB.out | apply below_alloc | apply pw_below_drewN | apply below_drew1 | refine below_set ?_ GE502.out) | exact HB.out)⟩⟩
                          · rw [if_neg c19] at H
                            have c19b0 : decide (6 ≤ ((rd_T47 l0 x4_1).f0)) = false := decide_eq_false c19
                            clear c19
                            (first | rw [c19b0] | (simp only [i64_w, i32_w]; rw [c19b0]) | skip)
                            have H' := Aside0.mk H
                            clear H
                            have hcz21_0 : wc.cell? ⟨gb502, 0, none⟩ = some (.int .i64 ((rd_T47 l0 x4_1).f0)) := (blk_cell BK502.out 0).trans rfl
                            have hcz21_1 : wc.cell? ⟨gb502, 1, none⟩ = some (.int .i64 ((rd_T47 l0 x4_1).f1)) := (blk_cell BK502.out 1).trans rfl
                            have hcz21_2 : wc.cell? ⟨gb502, 2, none⟩ = some (.int .i64 ((rd_T47 l0 x4_1).f2)) := (blk_cell BK502.out 2).trans rfl
                            have hcz21_3 : wc.cell? ⟨gb502, 3, none⟩ = some (.int .i64 ((rd_T47 l0 x4_1).f3)) := (blk_cell BK502.out 3).trans rfl
                            have hcz21_4 : wc.cell? ⟨gb502, 4, none⟩ = some (.int .i64 ((rd_T47 l0 x4_1).f4)) := (blk_cell BK502.out 4).trans rfl
                            have hcz21_5 : wc.cell? ⟨gb502, 5, none⟩ = some (.int .i64 ((rd_T47 l0 x4_1).f5)) := (blk_cell BK502.out 5).trans rfl
                            have hfz21_0 := blk_frozen BK502.out 0
                            have hfz21_1 := blk_frozen BK502.out 1
                            have hfz21_2 := blk_frozen BK502.out 2
                            have hfz21_3 := blk_frozen BK502.out 3
                            have hfz21_4 := blk_frozen BK502.out 4
                            have hfz21_5 := blk_frozen BK502.out 5
                            go_wp2
                            go_meet
                            case rel => exact ⟨_, (false), (by first | rfl | (simp; done) | (simp [*]; done)), H', ⟨by have := HK1.out; have := HJ3.out; have := HJ10.out; have := HJ14.out; first | omega | exact Nat.le_refl _⟩, ⟨by (with_reducible repeat (first | refine blk_drewN ?_ _ | refine blk_drew ?_ | refine blk_alloc ?_ _)); exact BK502.out⟩, ⟨by repeat (first | (with_reducible first | exact HB.out | apply below_alloc | apply pw_below_drewN | apply below_drew1 | refine below_set ?_ GE502.out) | exact HB.out)⟩⟩
                        case rest =>
                          clear HC18
                          try clear c1
                          try clear c2
                          try clear c2b0
                          try clear p2
                          try clear c3
                          try clear c3b0
                          try clear p5
                          try clear q5
                          try clear hx5
                          try clear p6
                          try clear c7
                          try clear c7b0
                          try clear c10
                          try clear c12
                          try clear c12b0
                          try clear c16
                          try clear c19
                          try clear c19b0
                          try clear c21
                          try clear hcz13_0
                          try clear hcz13_1
                          try clear hcz13_2
                          try clear hcz13_3
                          try clear hcz13_4
                          try clear hcz13_5
                          try clear hcz14_0
                          try clear hcz14_1
                          try clear hcz14_2
                          try clear hcz14_3
                          try clear hcz14_4
                          try clear hcz14_5
                          try clear hcz17_0
                          try clear hcz17_1
                          try clear hcz17_2
                          try clear hcz17_3
                          try clear hcz17_4
                          try clear hcz17_5
                          try clear hcz20_0
                          try clear hcz20_1
                          try clear hcz20_2
                          try clear hcz20_3
                          try clear hcz20_4
                          try clear hcz20_5
                          try clear hcz21_0
                          try clear hcz21_1
                          try clear hcz21_2
                          try clear hcz21_3
                          try clear hcz21_4
                          try clear hcz21_5
                          try clear hcz6_0
                          try clear hcz6_1
                          try clear hcz6_2
                          try clear hcz6_3
                          try clear hcz6_4
                          try clear hcz6_5
                          try clear hcz8_0
                          try clear hcz8_1
                          try clear hcz8_2
                          try clear hcz8_3
                          try clear hcz8_4
                          try clear hcz8_5
                          try clear hcz9_0
                          try clear hcz9_1
                          try clear hcz9_2
                          try clear hcz9_3
                          try clear hcz9_4
                          try clear hcz9_5
                          try clear hfz13_0
                          try clear hfz13_1
                          try clear hfz13_2
                          try clear hfz13_3
                          try clear hfz13_4
                          try clear hfz13_5
                          try clear hfz14_0
                          try clear hfz14_1
                          try clear hfz14_2
                          try clear hfz14_3
                          try clear hfz14_4
                          try clear hfz14_5
                          try clear hfz17_0
                          try clear hfz17_1
                          try clear hfz17_2
                          try clear hfz17_3
                          try clear hfz17_4
                          try clear hfz17_5
                          try clear hfz20_0
                          try clear hfz20_1
                          try clear hfz20_2
                          try clear hfz20_3
                          try clear hfz20_4
                          try clear hfz20_5
                          try clear hfz21_0
                          try clear hfz21_1
                          try clear hfz21_2
                          try clear hfz21_3
                          try clear hfz21_4
                          try clear hfz21_5
                          try clear hfz6_0
                          try clear hfz6_1
                          try clear hfz6_2
                          try clear hfz6_3
                          try clear hfz6_4
                          try clear hfz6_5
                          try clear hfz8_0
                          try clear hfz8_1
                          try clear hfz8_2
                          try clear hfz8_3
                          try clear hfz8_4
                          try clear hfz8_5
                          try clear hfz9_0
                          try clear hfz9_1
                          try clear hfz9_2
                          try clear hfz9_3
                          try clear hfz9_4
                          try clear hfz9_5
                          try clear hx501_0
                          try clear hx501_1
                          try clear hx501_2
                          try clear hx501_3
                          try clear hx501_4
                          try clear hx501_5
                          try clear p2
                          try clear p5
                          try clear p501
                          try clear p6
                          try clear q5
                          try clear q501
                          obtain ⟨kq, x44_17, rfl, HA, HJ17, BK502, HB⟩ := hcut
                          cases kq with
                          | zero => exact absurd HA.out (by simp [astrolaberef17_Registers.j4])
                          | succ kj17 =>
                            have H := HA.out
                            clear HA
                            simp only [astrolaberef17_Registers.j4] at H
                            have HC22 := Aside0.mk H
                            clear H
                            go_upto_if 44 with (fail)
                            go_cut [3] (fun v3 wc => ∃ (kq : Nat) (x3_21 : Int), v3 = .int .i64 x3_21 ∧ Aside0 (astrolaberef17_Registers.j5 kq l0 x3_21 x4_1 ((rd_T47 l0 x4_1).f0) ((rd_T47 l0 x4_1).f1) ((rd_T47 l0 x4_1).f2) ((rd_T47 l0 x4_1).f3) ((rd_T47 l0 x4_1).f4) ((rd_T47 l0 x4_1).f5) = some r) ∧ Aside0 (kq ≤ kj17) ∧ Aside0 (wc.heap[gb502]? = some (.cells #[.int .i64 ((rd_T47 l0 x4_1).f0), .int .i64 ((rd_T47 l0 x4_1).f1), .int .i64 ((rd_T47 l0 x4_1).f2), .int .i64 ((rd_T47 l0 x4_1).f3), .int .i64 ((rd_T47 l0 x4_1).f4), .int .i64 ((rd_T47 l0 x4_1).f5)] 47 (0, 0))) ∧ Aside0 (Below w.heap.size w wc))
                            case first =>
                              have H := HC22.out
                              clear HC22
                              by_cases c23 : x44_17 = true
                              · subst c23
                                have H1 : (astrolaberef17_Registers.j5 kj17 l0 (wrap64 (((rd_T47 l0 x4_1).f2) + 1)) x4_1 ((rd_T47 l0 x4_1).f0) ((rd_T47 l0 x4_1).f1) ((rd_T47 l0 x4_1).f2) ((rd_T47 l0 x4_1).f3) ((rd_T47 l0 x4_1).f4) ((rd_T47 l0 x4_1).f5)) = some r := by rw [if_pos rfl] at H; exact H
                                clear H
                                have H := H1
                                clear H1
                                have H' := Aside0.mk H
                                clear H
                                have hcz24_0 : wc.cell? ⟨gb502, 0, none⟩ = some (.int .i64 ((rd_T47 l0 x4_1).f0)) := (blk_cell BK502.out 0).trans rfl
                                have hcz24_1 : wc.cell? ⟨gb502, 1, none⟩ = some (.int .i64 ((rd_T47 l0 x4_1).f1)) := (blk_cell BK502.out 1).trans rfl
                                have hcz24_2 : wc.cell? ⟨gb502, 2, none⟩ = some (.int .i64 ((rd_T47 l0 x4_1).f2)) := (blk_cell BK502.out 2).trans rfl
                                have hcz24_3 : wc.cell? ⟨gb502, 3, none⟩ = some (.int .i64 ((rd_T47 l0 x4_1).f3)) := (blk_cell BK502.out 3).trans rfl
                                have hcz24_4 : wc.cell? ⟨gb502, 4, none⟩ = some (.int .i64 ((rd_T47 l0 x4_1).f4)) := (blk_cell BK502.out 4).trans rfl
                                have hcz24_5 : wc.cell? ⟨gb502, 5, none⟩ = some (.int .i64 ((rd_T47 l0 x4_1).f5)) := (blk_cell BK502.out 5).trans rfl
                                have hfz24_0 := blk_frozen BK502.out 0
                                have hfz24_1 := blk_frozen BK502.out 1
                                have hfz24_2 := blk_frozen BK502.out 2
                                have hfz24_3 := blk_frozen BK502.out 3
                                have hfz24_4 := blk_frozen BK502.out 4
                                have hfz24_5 := blk_frozen BK502.out 5
                                go_wp2
                                go_meet
                                case rel => exact ⟨_, (wrap64 (((rd_T47 l0 x4_1).f2) + 1)), (by first | rfl | (simp; done) | (simp [*]; done)), H', ⟨by have := HK1.out; have := HJ3.out; have := HJ10.out; have := HJ14.out; have := HJ17.out; first | omega | exact Nat.le_refl _⟩, ⟨by (with_reducible repeat (first | refine blk_drewN ?_ _ | refine blk_drew ?_ | refine blk_alloc ?_ _)); exact BK502.out⟩, ⟨by repeat (first | (with_reducible first | exact HB.out | apply below_alloc | apply pw_below_drewN | apply below_drew1 | refine below_set ?_ GE502.out) | exact HB.out)⟩⟩
                              · replace c23 := Bool.eq_false_iff.mpr c23
                                subst c23
                                have H1 : (astrolaberef17_Registers.j5 kj17 l0 x3_14 x4_1 ((rd_T47 l0 x4_1).f0) ((rd_T47 l0 x4_1).f1) ((rd_T47 l0 x4_1).f2) ((rd_T47 l0 x4_1).f3) ((rd_T47 l0 x4_1).f4) ((rd_T47 l0 x4_1).f5)) = some r := by rw [if_neg (show ¬ (false = true) by decide)] at H; exact H
                                clear H
                                have H := H1
                                clear H1
                                have H' := Aside0.mk H
                                clear H
                                go_wp2
                                go_meet
                                case rel => exact ⟨_, (x3_14), (by first | rfl | (simp; done) | (simp [*]; done)), H', ⟨by have := HK1.out; have := HJ3.out; have := HJ10.out; have := HJ14.out; have := HJ17.out; first | omega | exact Nat.le_refl _⟩, ⟨by (with_reducible repeat (first | refine blk_drewN ?_ _ | refine blk_drew ?_ | refine blk_alloc ?_ _)); exact BK502.out⟩, ⟨by repeat (first | (with_reducible first | exact HB.out | apply below_alloc | apply pw_below_drewN | apply below_drew1 | refine below_set ?_ GE502.out) | exact HB.out)⟩⟩
                            case rest =>
                              clear HC22
                              try clear c1
                              try clear c2
                              try clear c2b0
                              try clear p2
                              try clear c3
                              try clear c3b0
                              try clear p5
                              try clear q5
                              try clear hx5
                              try clear p6
                              try clear c7
                              try clear c7b0
                              try clear c10
                              try clear c12
                              try clear c12b0
                              try clear c16
                              try clear c19
                              try clear c19b0
                              try clear c21
                              try clear c23
                              try clear hcz13_0
                              try clear hcz13_1
                              try clear hcz13_2
                              try clear hcz13_3
                              try clear hcz13_4
                              try clear hcz13_5
                              try clear hcz14_0
                              try clear hcz14_1
                              try clear hcz14_2
                              try clear hcz14_3
                              try clear hcz14_4
                              try clear hcz14_5
                              try clear hcz17_0
                              try clear hcz17_1
                              try clear hcz17_2
                              try clear hcz17_3
                              try clear hcz17_4
                              try clear hcz17_5
                              try clear hcz20_0
                              try clear hcz20_1
                              try clear hcz20_2
                              try clear hcz20_3
                              try clear hcz20_4
                              try clear hcz20_5
                              try clear hcz21_0
                              try clear hcz21_1
                              try clear hcz21_2
                              try clear hcz21_3
                              try clear hcz21_4
                              try clear hcz21_5
                              try clear hcz24_0
                              try clear hcz24_1
                              try clear hcz24_2
                              try clear hcz24_3
                              try clear hcz24_4
                              try clear hcz24_5
                              try clear hcz6_0
                              try clear hcz6_1
                              try clear hcz6_2
                              try clear hcz6_3
                              try clear hcz6_4
                              try clear hcz6_5
                              try clear hcz8_0
                              try clear hcz8_1
                              try clear hcz8_2
                              try clear hcz8_3
                              try clear hcz8_4
                              try clear hcz8_5
                              try clear hcz9_0
                              try clear hcz9_1
                              try clear hcz9_2
                              try clear hcz9_3
                              try clear hcz9_4
                              try clear hcz9_5
                              try clear hfz13_0
                              try clear hfz13_1
                              try clear hfz13_2
                              try clear hfz13_3
                              try clear hfz13_4
                              try clear hfz13_5
                              try clear hfz14_0
                              try clear hfz14_1
                              try clear hfz14_2
                              try clear hfz14_3
                              try clear hfz14_4
                              try clear hfz14_5
                              try clear hfz17_0
                              try clear hfz17_1
                              try clear hfz17_2
                              try clear hfz17_3
                              try clear hfz17_4
                              try clear hfz17_5
                              try clear hfz20_0
                              try clear hfz20_1
                              try clear hfz20_2
                              try clear hfz20_3
                              try clear hfz20_4
                              try clear hfz20_5
                              try clear hfz21_0
                              try clear hfz21_1
                              try clear hfz21_2
                              try clear hfz21_3
                              try clear hfz21_4
                              try clear hfz21_5
                              try clear hfz24_0
                              try clear hfz24_1
                              try clear hfz24_2
                              try clear hfz24_3
                              try clear hfz24_4
                              try clear hfz24_5
                              try clear hfz6_0
                              try clear hfz6_1
                              try clear hfz6_2
                              try clear hfz6_3
                              try clear hfz6_4
                              try clear hfz6_5
                              try clear hfz8_0
                              try clear hfz8_1
                              try clear hfz8_2
                              try clear hfz8_3
                              try clear hfz8_4
                              try clear hfz8_5
                              try clear hfz9_0
                              try clear hfz9_1
                              try clear hfz9_2
                              try clear hfz9_3
                              try clear hfz9_4
                              try clear hfz9_5
                              try clear hx501_0
                              try clear hx501_1
                              try clear hx501_2
                              try clear hx501_3
                              try clear hx501_4
                              try clear hx501_5
                              try clear p2
                              try clear p5
                              try clear p501
                              try clear p6
                              try clear q5
                              try clear q501
                              obtain ⟨kq, x3_21, rfl, HA, HJ21, BK502, HB⟩ := hcut
                              cases kq with
                              | zero => exact absurd HA.out (by simp [astrolaberef17_Registers.j5])
                              | succ kj21 =>
                                have H := HA.out
                                clear HA
                                simp only [astrolaberef17_Registers.j5] at H
                                have HC25 := Aside0.mk H
                                clear H
                                go_upto_region 11 with (fail)
                                go_cut [61] (fun v61 wc => ∃ (kq : Nat) (x61_24 : Bool), v61 = .bool x61_24 ∧ Aside0 (astrolaberef17_Registers.j6 kq l0 x3_21 x4_1 x61_24 ((rd_T47 l0 x4_1).f0) ((rd_T47 l0 x4_1).f1) ((rd_T47 l0 x4_1).f2) ((rd_T47 l0 x4_1).f3) ((rd_T47 l0 x4_1).f4) ((rd_T47 l0 x4_1).f5) = some r) ∧ Aside0 (kq ≤ kj21) ∧ Aside0 (wc.heap[gb502]? = some (.cells #[.int .i64 ((rd_T47 l0 x4_1).f0), .int .i64 ((rd_T47 l0 x4_1).f1), .int .i64 ((rd_T47 l0 x4_1).f2), .int .i64 ((rd_T47 l0 x4_1).f3), .int .i64 ((rd_T47 l0 x4_1).f4), .int .i64 ((rd_T47 l0 x4_1).f5)] 47 (0, 0))) ∧ Aside0 (Below w.heap.size w wc))
                                case first =>
                                  have H := HC25.out
                                  clear HC25
                                  by_cases c26 : ((rd_T47 l0 x4_1).f0) ≥ 9
                                  · rw [if_pos c26] at H
                                    have c26b0 : decide (9 ≤ ((rd_T47 l0 x4_1).f0)) = true := decide_eq_true c26
                                    clear c26
                                    (first | rw [c26b0] | (simp only [i64_w, i32_w]; rw [c26b0]) | skip)
                                    by_cases c27 : ((rd_T47 l0 x4_1).f0) ≤ 18
                                    · rw [if_pos c27] at H
                                      have c27b0 : decide (((rd_T47 l0 x4_1).f0) ≤ 18) = true := decide_eq_true c27
                                      clear c27
                                      have H' := Aside0.mk H
                                      clear H
                                      have hcz28_0 : wc.cell? ⟨gb502, 0, none⟩ = some (.int .i64 ((rd_T47 l0 x4_1).f0)) := (blk_cell BK502.out 0).trans rfl
                                      have hcz28_1 : wc.cell? ⟨gb502, 1, none⟩ = some (.int .i64 ((rd_T47 l0 x4_1).f1)) := (blk_cell BK502.out 1).trans rfl
                                      have hcz28_2 : wc.cell? ⟨gb502, 2, none⟩ = some (.int .i64 ((rd_T47 l0 x4_1).f2)) := (blk_cell BK502.out 2).trans rfl
                                      have hcz28_3 : wc.cell? ⟨gb502, 3, none⟩ = some (.int .i64 ((rd_T47 l0 x4_1).f3)) := (blk_cell BK502.out 3).trans rfl
                                      have hcz28_4 : wc.cell? ⟨gb502, 4, none⟩ = some (.int .i64 ((rd_T47 l0 x4_1).f4)) := (blk_cell BK502.out 4).trans rfl
                                      have hcz28_5 : wc.cell? ⟨gb502, 5, none⟩ = some (.int .i64 ((rd_T47 l0 x4_1).f5)) := (blk_cell BK502.out 5).trans rfl
                                      have hfz28_0 := blk_frozen BK502.out 0
                                      have hfz28_1 := blk_frozen BK502.out 1
                                      have hfz28_2 := blk_frozen BK502.out 2
                                      have hfz28_3 := blk_frozen BK502.out 3
                                      have hfz28_4 := blk_frozen BK502.out 4
                                      have hfz28_5 := blk_frozen BK502.out 5
                                      go_wp2
                                      go_meet
                                      case rel => exact ⟨_, (decide (((rd_T47 l0 x4_1).f3) ≥ x3_21)), (by first | rfl | (simp; done) | (simp [*]; done)), H', ⟨by have := HK1.out; have := HJ3.out; have := HJ10.out; have := HJ14.out; have := HJ17.out; have := HJ21.out; first | omega | exact Nat.le_refl _⟩, ⟨by (with_reducible repeat (first | refine blk_drewN ?_ _ | refine blk_drew ?_ | refine blk_alloc ?_ _)); exact BK502.out⟩, ⟨by repeat (first | (with_reducible first | exact HB.out | apply below_alloc | apply pw_below_drewN | apply below_drew1 | refine below_set ?_ GE502.out) | exact HB.out)⟩⟩
                                    · rw [if_neg c27] at H
                                      have c27b0 : decide (((rd_T47 l0 x4_1).f0) ≤ 18) = false := decide_eq_false c27
                                      clear c27
                                      have H' := Aside0.mk H
                                      clear H
                                      have hcz29_0 : wc.cell? ⟨gb502, 0, none⟩ = some (.int .i64 ((rd_T47 l0 x4_1).f0)) := (blk_cell BK502.out 0).trans rfl
                                      have hcz29_1 : wc.cell? ⟨gb502, 1, none⟩ = some (.int .i64 ((rd_T47 l0 x4_1).f1)) := (blk_cell BK502.out 1).trans rfl
                                      have hcz29_2 : wc.cell? ⟨gb502, 2, none⟩ = some (.int .i64 ((rd_T47 l0 x4_1).f2)) := (blk_cell BK502.out 2).trans rfl
                                      have hcz29_3 : wc.cell? ⟨gb502, 3, none⟩ = some (.int .i64 ((rd_T47 l0 x4_1).f3)) := (blk_cell BK502.out 3).trans rfl
                                      have hcz29_4 : wc.cell? ⟨gb502, 4, none⟩ = some (.int .i64 ((rd_T47 l0 x4_1).f4)) := (blk_cell BK502.out 4).trans rfl
                                      have hcz29_5 : wc.cell? ⟨gb502, 5, none⟩ = some (.int .i64 ((rd_T47 l0 x4_1).f5)) := (blk_cell BK502.out 5).trans rfl
                                      have hfz29_0 := blk_frozen BK502.out 0
                                      have hfz29_1 := blk_frozen BK502.out 1
                                      have hfz29_2 := blk_frozen BK502.out 2
                                      have hfz29_3 := blk_frozen BK502.out 3
                                      have hfz29_4 := blk_frozen BK502.out 4
                                      have hfz29_5 := blk_frozen BK502.out 5
                                      go_wp2
                                      go_meet
                                      case rel => exact ⟨_, (false), (by first | rfl | (simp; done) | (simp [*]; done)), H', ⟨by have := HK1.out; have := HJ3.out; have := HJ10.out; have := HJ14.out; have := HJ17.out; have := HJ21.out; first | omega | exact Nat.le_refl _⟩, ⟨by (with_reducible repeat (first | refine blk_drewN ?_ _ | refine blk_drew ?_ | refine blk_alloc ?_ _)); exact BK502.out⟩, ⟨by repeat (first | (with_reducible first | exact HB.out | apply below_alloc | apply pw_below_drewN | apply below_drew1 | refine below_set ?_ GE502.out) | exact HB.out)⟩⟩
                                  · rw [if_neg c26] at H
                                    have c26b0 : decide (9 ≤ ((rd_T47 l0 x4_1).f0)) = false := decide_eq_false c26
                                    clear c26
                                    (first | rw [c26b0] | (simp only [i64_w, i32_w]; rw [c26b0]) | skip)
                                    have H' := Aside0.mk H
                                    clear H
                                    have hcz30_0 : wc.cell? ⟨gb502, 0, none⟩ = some (.int .i64 ((rd_T47 l0 x4_1).f0)) := (blk_cell BK502.out 0).trans rfl
                                    have hcz30_1 : wc.cell? ⟨gb502, 1, none⟩ = some (.int .i64 ((rd_T47 l0 x4_1).f1)) := (blk_cell BK502.out 1).trans rfl
                                    have hcz30_2 : wc.cell? ⟨gb502, 2, none⟩ = some (.int .i64 ((rd_T47 l0 x4_1).f2)) := (blk_cell BK502.out 2).trans rfl
                                    have hcz30_3 : wc.cell? ⟨gb502, 3, none⟩ = some (.int .i64 ((rd_T47 l0 x4_1).f3)) := (blk_cell BK502.out 3).trans rfl
                                    have hcz30_4 : wc.cell? ⟨gb502, 4, none⟩ = some (.int .i64 ((rd_T47 l0 x4_1).f4)) := (blk_cell BK502.out 4).trans rfl
                                    have hcz30_5 : wc.cell? ⟨gb502, 5, none⟩ = some (.int .i64 ((rd_T47 l0 x4_1).f5)) := (blk_cell BK502.out 5).trans rfl
                                    have hfz30_0 := blk_frozen BK502.out 0
                                    have hfz30_1 := blk_frozen BK502.out 1
                                    have hfz30_2 := blk_frozen BK502.out 2
                                    have hfz30_3 := blk_frozen BK502.out 3
                                    have hfz30_4 := blk_frozen BK502.out 4
                                    have hfz30_5 := blk_frozen BK502.out 5
                                    go_wp2
                                    go_meet
                                    case rel => exact ⟨_, (false), (by first | rfl | (simp; done) | (simp [*]; done)), H', ⟨by have := HK1.out; have := HJ3.out; have := HJ10.out; have := HJ14.out; have := HJ17.out; have := HJ21.out; first | omega | exact Nat.le_refl _⟩, ⟨by (with_reducible repeat (first | refine blk_drewN ?_ _ | refine blk_drew ?_ | refine blk_alloc ?_ _)); exact BK502.out⟩, ⟨by repeat (first | (with_reducible first | exact HB.out | apply below_alloc | apply pw_below_drewN | apply below_drew1 | refine below_set ?_ GE502.out) | exact HB.out)⟩⟩
                                case rest =>
                                  clear HC25
                                  try clear c1
                                  try clear c2
                                  try clear c2b0
                                  try clear p2
                                  try clear c3
                                  try clear c3b0
                                  try clear p5
                                  try clear q5
                                  try clear hx5
                                  try clear p6
                                  try clear c7
                                  try clear c7b0
                                  try clear c10
                                  try clear c12
                                  try clear c12b0
                                  try clear c16
                                  try clear c19
                                  try clear c19b0
                                  try clear c21
                                  try clear c23
                                  try clear c26
                                  try clear c26b0
                                  try clear c27
                                  try clear c27b0
                                  try clear hcz13_0
                                  try clear hcz13_1
                                  try clear hcz13_2
                                  try clear hcz13_3
                                  try clear hcz13_4
                                  try clear hcz13_5
                                  try clear hcz14_0
                                  try clear hcz14_1
                                  try clear hcz14_2
                                  try clear hcz14_3
                                  try clear hcz14_4
                                  try clear hcz14_5
                                  try clear hcz17_0
                                  try clear hcz17_1
                                  try clear hcz17_2
                                  try clear hcz17_3
                                  try clear hcz17_4
                                  try clear hcz17_5
                                  try clear hcz20_0
                                  try clear hcz20_1
                                  try clear hcz20_2
                                  try clear hcz20_3
                                  try clear hcz20_4
                                  try clear hcz20_5
                                  try clear hcz21_0
                                  try clear hcz21_1
                                  try clear hcz21_2
                                  try clear hcz21_3
                                  try clear hcz21_4
                                  try clear hcz21_5
                                  try clear hcz24_0
                                  try clear hcz24_1
                                  try clear hcz24_2
                                  try clear hcz24_3
                                  try clear hcz24_4
                                  try clear hcz24_5
                                  try clear hcz28_0
                                  try clear hcz28_1
                                  try clear hcz28_2
                                  try clear hcz28_3
                                  try clear hcz28_4
                                  try clear hcz28_5
                                  try clear hcz29_0
                                  try clear hcz29_1
                                  try clear hcz29_2
                                  try clear hcz29_3
                                  try clear hcz29_4
                                  try clear hcz29_5
                                  try clear hcz30_0
                                  try clear hcz30_1
                                  try clear hcz30_2
                                  try clear hcz30_3
                                  try clear hcz30_4
                                  try clear hcz30_5
                                  try clear hcz6_0
                                  try clear hcz6_1
                                  try clear hcz6_2
                                  try clear hcz6_3
                                  try clear hcz6_4
                                  try clear hcz6_5
                                  try clear hcz8_0
                                  try clear hcz8_1
                                  try clear hcz8_2
                                  try clear hcz8_3
                                  try clear hcz8_4
                                  try clear hcz8_5
                                  try clear hcz9_0
                                  try clear hcz9_1
                                  try clear hcz9_2
                                  try clear hcz9_3
                                  try clear hcz9_4
                                  try clear hcz9_5
                                  try clear hfz13_0
                                  try clear hfz13_1
                                  try clear hfz13_2
                                  try clear hfz13_3
                                  try clear hfz13_4
                                  try clear hfz13_5
                                  try clear hfz14_0
                                  try clear hfz14_1
                                  try clear hfz14_2
                                  try clear hfz14_3
                                  try clear hfz14_4
                                  try clear hfz14_5
                                  try clear hfz17_0
                                  try clear hfz17_1
                                  try clear hfz17_2
                                  try clear hfz17_3
                                  try clear hfz17_4
                                  try clear hfz17_5
                                  try clear hfz20_0
                                  try clear hfz20_1
                                  try clear hfz20_2
                                  try clear hfz20_3
                                  try clear hfz20_4
                                  try clear hfz20_5
                                  try clear hfz21_0
                                  try clear hfz21_1
                                  try clear hfz21_2
                                  try clear hfz21_3
                                  try clear hfz21_4
                                  try clear hfz21_5
                                  try clear hfz24_0
                                  try clear hfz24_1
                                  try clear hfz24_2
                                  try clear hfz24_3
                                  try clear hfz24_4
                                  try clear hfz24_5
                                  try clear hfz28_0
                                  try clear hfz28_1
                                  try clear hfz28_2
                                  try clear hfz28_3
                                  try clear hfz28_4
                                  try clear hfz28_5
                                  try clear hfz29_0
                                  try clear hfz29_1
                                  try clear hfz29_2
                                  try clear hfz29_3
                                  try clear hfz29_4
                                  try clear hfz29_5
                                  try clear hfz30_0
                                  try clear hfz30_1
                                  try clear hfz30_2
                                  try clear hfz30_3
                                  try clear hfz30_4
                                  try clear hfz30_5
                                  try clear hfz6_0
                                  try clear hfz6_1
                                  try clear hfz6_2
                                  try clear hfz6_3
                                  try clear hfz6_4
                                  try clear hfz6_5
                                  try clear hfz8_0
                                  try clear hfz8_1
                                  try clear hfz8_2
                                  try clear hfz8_3
                                  try clear hfz8_4
                                  try clear hfz8_5
                                  try clear hfz9_0
                                  try clear hfz9_1
                                  try clear hfz9_2
                                  try clear hfz9_3
                                  try clear hfz9_4
                                  try clear hfz9_5
                                  try clear hx501_0
                                  try clear hx501_1
                                  try clear hx501_2
                                  try clear hx501_3
                                  try clear hx501_4
                                  try clear hx501_5
                                  try clear p2
                                  try clear p5
                                  try clear p501
                                  try clear p6
                                  try clear q5
                                  try clear q501
                                  obtain ⟨kq, x61_24, rfl, HA, HJ24, BK502, HB⟩ := hcut
                                  cases kq with
                                  | zero => exact absurd HA.out (by simp [astrolaberef17_Registers.j6])
                                  | succ kj24 =>
                                    have H := HA.out
                                    clear HA
                                    simp only [astrolaberef17_Registers.j6] at H
                                    have HC31 := Aside0.mk H
                                    clear H
                                    go_upto_if 61 with (fail)
                                    go_cut [3] (fun v3 wc => ∃ (kq : Nat) (x3_30 : Int), v3 = .int .i64 x3_30 ∧ Aside0 (astrolaberef17_Registers.j7 kq l0 x3_30 x4_1 ((rd_T47 l0 x4_1).f0) ((rd_T47 l0 x4_1).f1) ((rd_T47 l0 x4_1).f2) ((rd_T47 l0 x4_1).f3) ((rd_T47 l0 x4_1).f4) ((rd_T47 l0 x4_1).f5) = some r) ∧ Aside0 (kq ≤ kj24) ∧ Aside0 (wc.heap[gb502]? = some (.cells #[.int .i64 ((rd_T47 l0 x4_1).f0), .int .i64 ((rd_T47 l0 x4_1).f1), .int .i64 ((rd_T47 l0 x4_1).f2), .int .i64 ((rd_T47 l0 x4_1).f3), .int .i64 ((rd_T47 l0 x4_1).f4), .int .i64 ((rd_T47 l0 x4_1).f5)] 47 (0, 0))) ∧ Aside0 (Below w.heap.size w wc))
                                    case first =>
                                      have H := HC31.out
                                      clear HC31
                                      by_cases c32 : x61_24 = true
                                      · subst c32
                                        have H1 : (astrolaberef17_Registers.j7 kj24 l0 (wrap64 (((rd_T47 l0 x4_1).f3) + 1)) x4_1 ((rd_T47 l0 x4_1).f0) ((rd_T47 l0 x4_1).f1) ((rd_T47 l0 x4_1).f2) ((rd_T47 l0 x4_1).f3) ((rd_T47 l0 x4_1).f4) ((rd_T47 l0 x4_1).f5)) = some r := by rw [if_pos rfl] at H; exact H
                                        clear H
                                        have H := H1
                                        clear H1
                                        have H' := Aside0.mk H
                                        clear H
                                        have hcz33_0 : wc.cell? ⟨gb502, 0, none⟩ = some (.int .i64 ((rd_T47 l0 x4_1).f0)) := (blk_cell BK502.out 0).trans rfl
                                        have hcz33_1 : wc.cell? ⟨gb502, 1, none⟩ = some (.int .i64 ((rd_T47 l0 x4_1).f1)) := (blk_cell BK502.out 1).trans rfl
                                        have hcz33_2 : wc.cell? ⟨gb502, 2, none⟩ = some (.int .i64 ((rd_T47 l0 x4_1).f2)) := (blk_cell BK502.out 2).trans rfl
                                        have hcz33_3 : wc.cell? ⟨gb502, 3, none⟩ = some (.int .i64 ((rd_T47 l0 x4_1).f3)) := (blk_cell BK502.out 3).trans rfl
                                        have hcz33_4 : wc.cell? ⟨gb502, 4, none⟩ = some (.int .i64 ((rd_T47 l0 x4_1).f4)) := (blk_cell BK502.out 4).trans rfl
                                        have hcz33_5 : wc.cell? ⟨gb502, 5, none⟩ = some (.int .i64 ((rd_T47 l0 x4_1).f5)) := (blk_cell BK502.out 5).trans rfl
                                        have hfz33_0 := blk_frozen BK502.out 0
                                        have hfz33_1 := blk_frozen BK502.out 1
                                        have hfz33_2 := blk_frozen BK502.out 2
                                        have hfz33_3 := blk_frozen BK502.out 3
                                        have hfz33_4 := blk_frozen BK502.out 4
                                        have hfz33_5 := blk_frozen BK502.out 5
                                        go_wp2
                                        go_meet
                                        case rel => exact ⟨_, (wrap64 (((rd_T47 l0 x4_1).f3) + 1)), (by first | rfl | (simp; done) | (simp [*]; done)), H', ⟨by have := HK1.out; have := HJ3.out; have := HJ10.out; have := HJ14.out; have := HJ17.out; have := HJ21.out; have := HJ24.out; first | omega | exact Nat.le_refl _⟩, ⟨by (with_reducible repeat (first | refine blk_drewN ?_ _ | refine blk_drew ?_ | refine blk_alloc ?_ _)); exact BK502.out⟩, ⟨by repeat (first | (with_reducible first | exact HB.out | apply below_alloc | apply pw_below_drewN | apply below_drew1 | refine below_set ?_ GE502.out) | exact HB.out)⟩⟩
                                      · replace c32 := Bool.eq_false_iff.mpr c32
                                        subst c32
                                        have H1 : (astrolaberef17_Registers.j7 kj24 l0 x3_21 x4_1 ((rd_T47 l0 x4_1).f0) ((rd_T47 l0 x4_1).f1) ((rd_T47 l0 x4_1).f2) ((rd_T47 l0 x4_1).f3) ((rd_T47 l0 x4_1).f4) ((rd_T47 l0 x4_1).f5)) = some r := by rw [if_neg (show ¬ (false = true) by decide)] at H; exact H
                                        clear H
                                        have H := H1
                                        clear H1
                                        have H' := Aside0.mk H
                                        clear H
                                        go_wp2
                                        go_meet
                                        case rel => exact ⟨_, (x3_21), (by first | rfl | (simp; done) | (simp [*]; done)), H', ⟨by have := HK1.out; have := HJ3.out; have := HJ10.out; have := HJ14.out; have := HJ17.out; have := HJ21.out; have := HJ24.out; first | omega | exact Nat.le_refl _⟩, ⟨by (with_reducible repeat (first | refine blk_drewN ?_ _ | refine blk_drew ?_ | refine blk_alloc ?_ _)); exact BK502.out⟩, ⟨by repeat (first | (with_reducible first | exact HB.out | apply below_alloc | apply pw_below_drewN | apply below_drew1 | refine below_set ?_ GE502.out) | exact HB.out)⟩⟩
                                    case rest =>
                                      clear HC31
                                      try clear c1
                                      try clear c2
                                      try clear c2b0
                                      try clear p2
                                      try clear c3
                                      try clear c3b0
                                      try clear p5
                                      try clear q5
                                      try clear hx5
                                      try clear p6
                                      try clear c7
                                      try clear c7b0
                                      try clear c10
                                      try clear c12
                                      try clear c12b0
                                      try clear c16
                                      try clear c19
                                      try clear c19b0
                                      try clear c21
                                      try clear c23
                                      try clear c26
                                      try clear c26b0
                                      try clear c27
                                      try clear c27b0
                                      try clear c32
                                      try clear hcz13_0
                                      try clear hcz13_1
                                      try clear hcz13_2
                                      try clear hcz13_3
                                      try clear hcz13_4
                                      try clear hcz13_5
                                      try clear hcz14_0
                                      try clear hcz14_1
                                      try clear hcz14_2
                                      try clear hcz14_3
                                      try clear hcz14_4
                                      try clear hcz14_5
                                      try clear hcz17_0
                                      try clear hcz17_1
                                      try clear hcz17_2
                                      try clear hcz17_3
                                      try clear hcz17_4
                                      try clear hcz17_5
                                      try clear hcz20_0
                                      try clear hcz20_1
                                      try clear hcz20_2
                                      try clear hcz20_3
                                      try clear hcz20_4
                                      try clear hcz20_5
                                      try clear hcz21_0
                                      try clear hcz21_1
                                      try clear hcz21_2
                                      try clear hcz21_3
                                      try clear hcz21_4
                                      try clear hcz21_5
                                      try clear hcz24_0
                                      try clear hcz24_1
                                      try clear hcz24_2
                                      try clear hcz24_3
                                      try clear hcz24_4
                                      try clear hcz24_5
                                      try clear hcz28_0
                                      try clear hcz28_1
                                      try clear hcz28_2
                                      try clear hcz28_3
                                      try clear hcz28_4
                                      try clear hcz28_5
                                      try clear hcz29_0
                                      try clear hcz29_1
                                      try clear hcz29_2
                                      try clear hcz29_3
                                      try clear hcz29_4
                                      try clear hcz29_5
                                      try clear hcz30_0
                                      try clear hcz30_1
                                      try clear hcz30_2
                                      try clear hcz30_3
                                      try clear hcz30_4
                                      try clear hcz30_5
                                      try clear hcz33_0
                                      try clear hcz33_1
                                      try clear hcz33_2
                                      try clear hcz33_3
                                      try clear hcz33_4
                                      try clear hcz33_5
                                      try clear hcz6_0
                                      try clear hcz6_1
                                      try clear hcz6_2
                                      try clear hcz6_3
                                      try clear hcz6_4
                                      try clear hcz6_5
                                      try clear hcz8_0
                                      try clear hcz8_1
                                      try clear hcz8_2
                                      try clear hcz8_3
                                      try clear hcz8_4
                                      try clear hcz8_5
                                      try clear hcz9_0
                                      try clear hcz9_1
                                      try clear hcz9_2
                                      try clear hcz9_3
                                      try clear hcz9_4
                                      try clear hcz9_5
                                      try clear hfz13_0
                                      try clear hfz13_1
                                      try clear hfz13_2
                                      try clear hfz13_3
                                      try clear hfz13_4
                                      try clear hfz13_5
                                      try clear hfz14_0
                                      try clear hfz14_1
                                      try clear hfz14_2
                                      try clear hfz14_3
                                      try clear hfz14_4
                                      try clear hfz14_5
                                      try clear hfz17_0
                                      try clear hfz17_1
                                      try clear hfz17_2
                                      try clear hfz17_3
                                      try clear hfz17_4
                                      try clear hfz17_5
                                      try clear hfz20_0
                                      try clear hfz20_1
                                      try clear hfz20_2
                                      try clear hfz20_3
                                      try clear hfz20_4
                                      try clear hfz20_5
                                      try clear hfz21_0
                                      try clear hfz21_1
                                      try clear hfz21_2
                                      try clear hfz21_3
                                      try clear hfz21_4
                                      try clear hfz21_5
                                      try clear hfz24_0
                                      try clear hfz24_1
                                      try clear hfz24_2
                                      try clear hfz24_3
                                      try clear hfz24_4
                                      try clear hfz24_5
                                      try clear hfz28_0
                                      try clear hfz28_1
                                      try clear hfz28_2
                                      try clear hfz28_3
                                      try clear hfz28_4
                                      try clear hfz28_5
                                      try clear hfz29_0
                                      try clear hfz29_1
                                      try clear hfz29_2
                                      try clear hfz29_3
                                      try clear hfz29_4
                                      try clear hfz29_5
                                      try clear hfz30_0
                                      try clear hfz30_1
                                      try clear hfz30_2
                                      try clear hfz30_3
                                      try clear hfz30_4
                                      try clear hfz30_5
                                      try clear hfz33_0
                                      try clear hfz33_1
                                      try clear hfz33_2
                                      try clear hfz33_3
                                      try clear hfz33_4
                                      try clear hfz33_5
                                      try clear hfz6_0
                                      try clear hfz6_1
                                      try clear hfz6_2
                                      try clear hfz6_3
                                      try clear hfz6_4
                                      try clear hfz6_5
                                      try clear hfz8_0
                                      try clear hfz8_1
                                      try clear hfz8_2
                                      try clear hfz8_3
                                      try clear hfz8_4
                                      try clear hfz8_5
                                      try clear hfz9_0
                                      try clear hfz9_1
                                      try clear hfz9_2
                                      try clear hfz9_3
                                      try clear hfz9_4
                                      try clear hfz9_5
                                      try clear hx501_0
                                      try clear hx501_1
                                      try clear hx501_2
                                      try clear hx501_3
                                      try clear hx501_4
                                      try clear hx501_5
                                      try clear p2
                                      try clear p5
                                      try clear p501
                                      try clear p6
                                      try clear q5
                                      try clear q501
                                      obtain ⟨kq, x3_30, rfl, HA, HJ30, BK502, HB⟩ := hcut
                                      cases kq with
                                      | zero => exact absurd HA.out (by simp [astrolaberef17_Registers.j7])
                                      | succ kj30 =>
                                        have H := HA.out
                                        clear HA
                                        simp only [astrolaberef17_Registers.j7] at H
                                        by_cases c34 : ((rd_T47 l0 x4_1).f0) = 18
                                        · rw [if_pos c34] at H
                                          have c34b0 : (((rd_T47 l0 x4_1).f0) == 18) = true := beq_iff_eq.mpr c34
                                          have c34b1 : (((rd_T47 l0 x4_1).f0) != 18) = false := bne_eq_false_iff_eq.mpr c34
                                          clear c34
                                          by_cases c35 : ((rd_T47 l0 x4_1).f4) ≥ x3_30
                                          · rw [if_pos c35] at H
                                            have c35b0 : decide (x3_30 ≤ ((rd_T47 l0 x4_1).f4)) = true := decide_eq_true c35
                                            clear c35
                                            have H' := Aside0.mk H
                                            clear H
                                            have hcz36_0 : wc.cell? ⟨gb502, 0, none⟩ = some (.int .i64 ((rd_T47 l0 x4_1).f0)) := (blk_cell BK502.out 0).trans rfl
                                            have hcz36_1 : wc.cell? ⟨gb502, 1, none⟩ = some (.int .i64 ((rd_T47 l0 x4_1).f1)) := (blk_cell BK502.out 1).trans rfl
                                            have hcz36_2 : wc.cell? ⟨gb502, 2, none⟩ = some (.int .i64 ((rd_T47 l0 x4_1).f2)) := (blk_cell BK502.out 2).trans rfl
                                            have hcz36_3 : wc.cell? ⟨gb502, 3, none⟩ = some (.int .i64 ((rd_T47 l0 x4_1).f3)) := (blk_cell BK502.out 3).trans rfl
                                            have hcz36_4 : wc.cell? ⟨gb502, 4, none⟩ = some (.int .i64 ((rd_T47 l0 x4_1).f4)) := (blk_cell BK502.out 4).trans rfl
                                            have hcz36_5 : wc.cell? ⟨gb502, 5, none⟩ = some (.int .i64 ((rd_T47 l0 x4_1).f5)) := (blk_cell BK502.out 5).trans rfl
                                            have hfz36_0 := blk_frozen BK502.out 0
                                            have hfz36_1 := blk_frozen BK502.out 1
                                            have hfz36_2 := blk_frozen BK502.out 2
                                            have hfz36_3 := blk_frozen BK502.out 3
                                            have hfz36_4 := blk_frozen BK502.out 4
                                            have hfz36_5 := blk_frozen BK502.out 5
                                            go_wp2
                                            go_roundg kj30
                                            case measure => have := HK1.out; have := HJ3.out; have := HJ10.out; have := HJ14.out; have := HJ17.out; have := HJ21.out; have := HJ24.out; have := HJ30.out; omega
                                            case rel => exact ⟨(wrap64 (((rd_T47 l0 x4_1).f4) + 1)), (wrap64 (x4_1 + 1)), (by first | rfl | (simp; done) | (simp [*]; done)), (by first | rfl | (simp; done) | (simp [*]; done)), H', ⟨by have := HK1.out; have := HJ3.out; have := HJ10.out; have := HJ14.out; have := HJ17.out; have := HJ21.out; have := HJ24.out; have := HJ30.out; omega⟩, ⟨by repeat (first | (with_reducible first | exact HB.out | apply below_alloc | apply pw_below_drewN | apply below_drew1 | refine below_set ?_ GE502.out) | exact HB.out)⟩⟩
                                          · rw [if_neg c35] at H
                                            have c35b0 : decide (x3_30 ≤ ((rd_T47 l0 x4_1).f4)) = false := decide_eq_false c35
                                            clear c35
                                            have H' := Aside0.mk H
                                            clear H
                                            have hcz37_0 : wc.cell? ⟨gb502, 0, none⟩ = some (.int .i64 ((rd_T47 l0 x4_1).f0)) := (blk_cell BK502.out 0).trans rfl
                                            have hcz37_1 : wc.cell? ⟨gb502, 1, none⟩ = some (.int .i64 ((rd_T47 l0 x4_1).f1)) := (blk_cell BK502.out 1).trans rfl
                                            have hcz37_2 : wc.cell? ⟨gb502, 2, none⟩ = some (.int .i64 ((rd_T47 l0 x4_1).f2)) := (blk_cell BK502.out 2).trans rfl
                                            have hcz37_3 : wc.cell? ⟨gb502, 3, none⟩ = some (.int .i64 ((rd_T47 l0 x4_1).f3)) := (blk_cell BK502.out 3).trans rfl
                                            have hcz37_4 : wc.cell? ⟨gb502, 4, none⟩ = some (.int .i64 ((rd_T47 l0 x4_1).f4)) := (blk_cell BK502.out 4).trans rfl
                                            have hcz37_5 : wc.cell? ⟨gb502, 5, none⟩ = some (.int .i64 ((rd_T47 l0 x4_1).f5)) := (blk_cell BK502.out 5).trans rfl
                                            have hfz37_0 := blk_frozen BK502.out 0
                                            have hfz37_1 := blk_frozen BK502.out 1
                                            have hfz37_2 := blk_frozen BK502.out 2
                                            have hfz37_3 := blk_frozen BK502.out 3
                                            have hfz37_4 := blk_frozen BK502.out 4
                                            have hfz37_5 := blk_frozen BK502.out 5
                                            go_wp2
                                            go_roundg kj30
                                            case measure => have := HK1.out; have := HJ3.out; have := HJ10.out; have := HJ14.out; have := HJ17.out; have := HJ21.out; have := HJ24.out; have := HJ30.out; omega
                                            case rel => exact ⟨(x3_30), (wrap64 (x4_1 + 1)), (by first | rfl | (simp; done) | (simp [*]; done)), (by first | rfl | (simp; done) | (simp [*]; done)), H', ⟨by have := HK1.out; have := HJ3.out; have := HJ10.out; have := HJ14.out; have := HJ17.out; have := HJ21.out; have := HJ24.out; have := HJ30.out; omega⟩, ⟨by repeat (first | (with_reducible first | exact HB.out | apply below_alloc | apply pw_below_drewN | apply below_drew1 | refine below_set ?_ GE502.out) | exact HB.out)⟩⟩
                                        · rw [if_neg c34] at H
                                          have c34b0 : (((rd_T47 l0 x4_1).f0) == 18) = false := beq_eq_false_iff_ne.mpr c34
                                          have c34b1 : (((rd_T47 l0 x4_1).f0) != 18) = true := bne_iff_ne.mpr c34
                                          have H' := Aside0.mk H
                                          clear H
                                          have hcz38_0 : wc.cell? ⟨gb502, 0, none⟩ = some (.int .i64 ((rd_T47 l0 x4_1).f0)) := (blk_cell BK502.out 0).trans rfl
                                          have hcz38_1 : wc.cell? ⟨gb502, 1, none⟩ = some (.int .i64 ((rd_T47 l0 x4_1).f1)) := (blk_cell BK502.out 1).trans rfl
                                          have hcz38_2 : wc.cell? ⟨gb502, 2, none⟩ = some (.int .i64 ((rd_T47 l0 x4_1).f2)) := (blk_cell BK502.out 2).trans rfl
                                          have hcz38_3 : wc.cell? ⟨gb502, 3, none⟩ = some (.int .i64 ((rd_T47 l0 x4_1).f3)) := (blk_cell BK502.out 3).trans rfl
                                          have hcz38_4 : wc.cell? ⟨gb502, 4, none⟩ = some (.int .i64 ((rd_T47 l0 x4_1).f4)) := (blk_cell BK502.out 4).trans rfl
                                          have hcz38_5 : wc.cell? ⟨gb502, 5, none⟩ = some (.int .i64 ((rd_T47 l0 x4_1).f5)) := (blk_cell BK502.out 5).trans rfl
                                          have hfz38_0 := blk_frozen BK502.out 0
                                          have hfz38_1 := blk_frozen BK502.out 1
                                          have hfz38_2 := blk_frozen BK502.out 2
                                          have hfz38_3 := blk_frozen BK502.out 3
                                          have hfz38_4 := blk_frozen BK502.out 4
                                          have hfz38_5 := blk_frozen BK502.out 5
                                          go_wp2
                                          go_roundg kj30
                                          case measure => have := HK1.out; have := HJ3.out; have := HJ10.out; have := HJ14.out; have := HJ17.out; have := HJ21.out; have := HJ24.out; have := HJ30.out; omega
                                          case rel => exact ⟨(x3_30), (wrap64 (x4_1 + 1)), (by first | rfl | (simp; done) | (simp [*]; done)), (by first | rfl | (simp; done) | (simp [*]; done)), H', ⟨by have := HK1.out; have := HJ3.out; have := HJ10.out; have := HJ14.out; have := HJ17.out; have := HJ21.out; have := HJ24.out; have := HJ30.out; omega⟩, ⟨by repeat (first | (with_reducible first | exact HB.out | apply below_alloc | apply pw_below_drewN | apply below_drew1 | refine below_set ?_ GE502.out) | exact HB.out)⟩⟩
        · rw [if_neg c3] at H
          exact absurd H (by simp)
      · rw [if_neg c2] at H
        have c2b0 : decide (x4_1 < (l0.length : Int)) = false := decide_eq_false c2
        clear c2
        obtain rfl := Option.some.inj H
        go_wp2
        go_ret
        exact ⟨by first | rfl | (simp [errW_none, errW_some] <;> rfl) | (simp [*, errW_none, errW_some] <;> rfl), by repeat (first | (with_reducible first | exact HB.out | apply below_alloc | apply pw_below_drewN | apply below_drew1) | exact HB.out)⟩

end Go.Proofs.Ytccolpkjgjjipaa.Q
