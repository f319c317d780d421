/- Words and walks, joined. -/
import Derived.Test.YtgalkkolbobmbaaGreatVClone
import Derived.Test.YtgalkkolbobmbaaGreatV3
import Derived.Test.YtgalkkolbobmbaaGreatV4
import Derived.Lib.Mul64
-- written by myprint.py (wip/tools) out of the translation
namespace Go.Proofs.YtgalkkolbobmbaaGreat.V
open Go.RowKit Go.Proofs.YtgalkkolbobmbaaGreatW.PrintWords Go.Proofs.YtgalkkolbobmbaaGreatW.PrintLast Go.Proofs.YtgalkkolbobmbaaGreatW.PrintMore
attribute [local go_sem] max2_int min2_int max_two min_two max_three min_three max_four min_four   -- for this text's walks alone
set_option linter.unusedVariables false
set_option linter.unusedSimpArgs false

/-! ### bits_Mul64: function 133 -/
def bits_Mul64.f (a0 : Int) (a1 : Int) : Option (Int × Int) := some (IntKind.u64.wrap ((IntKind.u64.wrap ((IntKind.u64.wrap ((a0 / 4294967296) * (a1 / 4294967296))) + ((IntKind.u64.wrap ((IntKind.u64.wrap ((a0 / 4294967296) * (Go.bits .and .u64 a1 4294967295))) + ((IntKind.u64.wrap ((Go.bits .and .u64 a0 4294967295) * (Go.bits .and .u64 a1 4294967295))) / 4294967296))) / 4294967296))) + ((IntKind.u64.wrap ((Go.bits .and .u64 (IntKind.u64.wrap ((IntKind.u64.wrap ((a0 / 4294967296) * (Go.bits .and .u64 a1 4294967295))) + ((IntKind.u64.wrap ((Go.bits .and .u64 a0 4294967295) * (Go.bits .and .u64 a1 4294967295))) / 4294967296))) 4294967295) + (IntKind.u64.wrap ((Go.bits .and .u64 a0 4294967295) * (a1 / 4294967296))))) / 4294967296)), IntKind.u64.wrap (a0 * a1))
set_option maxHeartbeats 8000000 in
set_option maxRecDepth 100000 in
theorem bits_Mul64.calls (a0 : Int) (a1 : Int) (r1 : Int) (r2 : Int) (w : World) (h : bits_Mul64.f a0 a1 = some (r1, r2)) :
 Calls Tryz.prog 133 #[.int .u64 a0, .int .u64 a1] w fun e w' => e = .returned (.tuple #[.int .u64 r1, .int .u64 r2]) ∧ Drawn0 w w' := by
 have H : (some (IntKind.u64.wrap ((IntKind.u64.wrap ((IntKind.u64.wrap ((a0 / 4294967296) * (a1 / 4294967296))) + ((IntKind.u64.wrap ((IntKind.u64.wrap ((a0 / 4294967296) * (Go.bits .and .u64 a1 4294967295))) + ((IntKind.u64.wrap ((Go.bits .and .u64 a0 4294967295) * (Go.bits .and .u64 a1 4294967295))) / 4294967296))) / 4294967296))) + ((IntKind.u64.wrap ((Go.bits .and .u64 (IntKind.u64.wrap ((IntKind.u64.wrap ((a0 / 4294967296) * (Go.bits .and .u64 a1 4294967295))) + ((IntKind.u64.wrap ((Go.bits .and .u64 a0 4294967295) * (Go.bits .and .u64 a1 4294967295))) / 4294967296))) 4294967295) + (IntKind.u64.wrap ((Go.bits .and .u64 a0 4294967295) * (a1 / 4294967296))))) / 4294967296)), IntKind.u64.wrap (a0 * a1))) = some (r1, r2) := h
 clear h
 simp only [Option.some.injEq, Prod.mk.injEq] at H
 obtain ⟨rfl, rfl⟩ := H
 go_enter Tryz.func133, Tryz.ntmps133
 go_wp2
 go_ret2
 exact ⟨by first | rfl | (simp; done) | (simp [*]; done), by repeat (first | exact Drawn0.refl _ | apply Drawn0.step)⟩

/-! ### fixq_size: function 134 -/
def fixq_size.f (a0 : Int) : Option (Int) := if a0 < 0 then (some (IntKind.u64.wrap (-(IntKind.u64.wrap (a0))))) else (some (IntKind.u64.wrap (a0)))
set_option maxHeartbeats 8000000 in
set_option maxRecDepth 100000 in
theorem fixq_size.calls (a0 : Int) (r : Int) (w : World) (h : fixq_size.f a0 = some r) :
 Calls Tryz.prog 134 #[.int .i64 a0] w fun e w' => e = .returned (.int .u64 r) ∧ Drawn0 w w' := by
 have H : (if a0 < 0 then (some (IntKind.u64.wrap (-(IntKind.u64.wrap (a0))))) else (some (IntKind.u64.wrap (a0)))) = some r := h
 clear h
 by_cases c2 : a0 < 0
 · rw [if_pos c2] at H
   have c2b0 : decide (a0 < 0) = true := decide_eq_true c2
   clear c2
   obtain rfl := Option.some.inj H
   go_enter Tryz.func134, Tryz.ntmps134
   go_wp2
   go_ret
   exact ⟨by first | rfl | (simp; done) | (simp [*]; done), by repeat (first | exact Drawn0.refl _ | apply Drawn0.step)⟩
 · rw [if_neg c2] at H
   have c2b0 : decide (a0 < 0) = false := decide_eq_false c2
   clear c2
   obtain rfl := Option.some.inj H
   go_enter Tryz.func134, Tryz.ntmps134
   go_wp2
   go_ret
   exact ⟨by first | rfl | (simp; done) | (simp [*]; done), by repeat (first | exact Drawn0.refl _ | apply Drawn0.step)⟩

/-! ### fixq_held: function 135 -/
def fixq_held.j0 : Nat → Int → Int → Bool → Bool → Option (Int × Int)
 | 0, _, _, _, _ => none
 | k + 1, x0, x1, x2, x8 => if x8 = true then (some (wrap64 (IntKind.u64.wrap (-x1)), 0)) else (if x2 = true then (some ((-9223372036854775808), 1)) else (if x0 = 0 then (if x1 ≤ 9223372036854775807 then (some (wrap64 (x1), 0)) else (some (9223372036854775807, 1))) else (some (9223372036854775807, 1))))
def fixq_held.f (k : Nat) (a0 : Int) (a1 : Int) (a2 : Bool) : Option (Int × Int) := if a2 = true then (if a0 = 0 then (fixq_held.j0 k a0 a1 a2 (decide (a1 ≤ 9223372036854775808))) else (fixq_held.j0 k a0 a1 a2 false)) else (fixq_held.j0 k a0 a1 a2 false)
theorem fixq_held.mono_l : ∀ k, (∀ y0 y1 y2 y3, LeO (fixq_held.j0 k y0 y1 y2 y3) (fixq_held.j0 (k + 1) y0 y1 y2 y3))
 | 0 => fun _ _ _ _ r h => by simp [fixq_held.j0] at h
 | k + 1 => by
  have ih0 := fixq_held.mono_l k
  · intro y0 y1 y2 y3
    unfold fixq_held.j0
    repeat' first
    | (with_reducible exact ih0 _ _ _ _)
    | (with_reducible exact LeO.refl _)
    | (with_reducible exact LeO.none _)
    | (with_reducible refine LeO.ite ?_ ?_)
    | (with_reducible refine LeO.bind ?_ (fun _ => ?_))
    | exact ih0 _ _ _ _
    | exact LeO.none _
    | refine LeO.ite ?_ ?_
    | refine LeO.bind ?_ (fun _ => ?_)
theorem fixq_held.mono : ∀ a0 a1 a2 k, LeO (fixq_held.f k a0 a1 a2) (fixq_held.f (k + 1) a0 a1 a2) := by
 intro a0 a1 a2 k
 have ih0 := fixq_held.mono_l k
 unfold fixq_held.f
 repeat' first
  | (with_reducible exact ih0 _ _ _ _)
  | (with_reducible exact LeO.refl _)
  | (with_reducible exact LeO.none _)
  | (with_reducible refine LeO.ite ?_ ?_)
  | (with_reducible refine LeO.bind ?_ (fun _ => ?_))
  | exact ih0 _ _ _ _
  | exact LeO.none _
  | refine LeO.ite ?_ ?_
  | refine LeO.bind ?_ (fun _ => ?_)
set_option maxHeartbeats 8000000 in
set_option maxRecDepth 100000 in
theorem fixq_held.calls (k : Nat) (a0 : Int) (a1 : Int) (a2 : Bool) (r1 : Int) (r2 : Int) (w : World) (h : fixq_held.f k a0 a1 a2 = some (r1, r2)) :
 Calls Tryz.prog 135 #[.int .u64 a0, .int .u64 a1, .bool a2] w fun e w' => e = .returned (.tuple #[.int .i64 r1, .int .i64 r2]) ∧ Drawn0 w w' := by
 have H : (if a2 = true then (if a0 = 0 then (fixq_held.j0 k a0 a1 a2 (decide (a1 ≤ 9223372036854775808))) else (fixq_held.j0 k a0 a1 a2 false)) else (fixq_held.j0 k a0 a1 a2 false)) = some (r1, r2) := h
 clear h
 have HC4 := Aside0.mk H
 clear H
 go_enter Tryz.func135, Tryz.ntmps135
 go_upto_region 1 with (fail)
 go_cut [8] (fun v8 wc => ∃ (kq : Nat) (x8_3 : Bool), v8 = .bool x8_3 ∧ Aside0 (fixq_held.j0 kq a0 a1 a2 x8_3 = some (r1, r2)) ∧ Aside0 (kq ≤ k) ∧ Drawn0 w wc)
 case first =>
  have H := HC4.out
  clear HC4
  by_cases c5 : a2 = true
  · subst c5
    have H1 : (if a0 = 0 then (fixq_held.j0 k a0 a1 true (decide (a1 ≤ 9223372036854775808))) else (fixq_held.j0 k a0 a1 true false)) = some (r1, r2) := by rw [if_pos rfl] at H; exact H
    clear H
    have H := H1
    clear H1
    by_cases c6 : a0 = 0
    · rw [if_pos c6] at H
      have c6b0 : (a0 == 0) = true := beq_iff_eq.mpr c6
      have c6b1 : (a0 != 0) = false := bne_eq_false_iff_eq.mpr c6
      clear c6
      (first | rw [c6b0] | (simp only [i64_w, i32_w]; rw [c6b0]) | skip)
      have H' := Aside0.mk H
      clear H
      go_wp2
      go_meet
      case rel => exact ⟨_, (decide (a1 ≤ 9223372036854775808)), (by first | rfl | (simp; done) | (simp [*]; done)), H', ⟨by first | omega | exact Nat.le_refl _⟩, by repeat (first | exact Drawn0.refl _ | apply Drawn0.step)⟩
    · rw [if_neg c6] at H
      have c6b0 : (a0 == 0) = false := beq_eq_false_iff_ne.mpr c6
      have c6b1 : (a0 != 0) = true := bne_iff_ne.mpr c6
      (first | rw [c6b0] | (simp only [i64_w, i32_w]; rw [c6b0]) | skip)
      have H' := Aside0.mk H
      clear H
      go_wp2
      go_meet
      case rel => exact ⟨_, (false), (by first | rfl | (simp; done) | (simp [*]; done)), H', ⟨by first | omega | exact Nat.le_refl _⟩, by repeat (first | exact Drawn0.refl _ | apply Drawn0.step)⟩
  · replace c5 := Bool.eq_false_iff.mpr c5
    subst c5
    have H1 : (fixq_held.j0 k a0 a1 false false) = some (r1, r2) := by rw [if_neg (show ¬ (false = true) by decide)] at H; exact H
    clear H
    have H := H1
    clear H1
    have H' := Aside0.mk H
    clear H
    go_wp2
    go_meet
    case rel => exact ⟨_, (false), (by first | rfl | (simp; done) | (simp [*]; done)), H', ⟨by first | omega | exact Nat.le_refl _⟩, by repeat (first | exact Drawn0.refl _ | apply Drawn0.step)⟩
 case rest =>
  clear HC4
  try clear c1
  try clear p2
  try clear c5
  try clear c6
  try clear c6b0
  try clear c6b1
  obtain ⟨kq, x8_3, rfl, HA, HJ3, ⟨mc3, rfl⟩⟩ := hcut
  cases kq with
  | zero => exact absurd HA.out (by simp [fixq_held.j0])
  | succ kj3 =>
   have H := HA.out
   clear HA
   simp only [fixq_held.j0] at H
   by_cases c7 : x8_3 = true
   · subst c7
     have H1 : (some (wrap64 (IntKind.u64.wrap (-a1)), 0)) = some (r1, r2) := by rw [if_pos rfl] at H; exact H
     clear H
     have H := H1
     clear H1
     simp only [Option.some.injEq, Prod.mk.injEq] at H
     obtain ⟨rfl, rfl⟩ := H
     go_wp2
     go_ret2
     exact ⟨by first | rfl | (simp; done) | (simp [*]; done), by repeat (first | exact Drawn0.refl _ | apply Drawn0.step)⟩
   · replace c7 := Bool.eq_false_iff.mpr c7
     subst c7
     have H1 : (if a2 = true then (some ((-9223372036854775808), 1)) else (if a0 = 0 then (if a1 ≤ 9223372036854775807 then (some (wrap64 (a1), 0)) else (some (9223372036854775807, 1))) else (some (9223372036854775807, 1)))) = some (r1, r2) := by rw [if_neg (show ¬ (false = true) by decide)] at H; exact H
     clear H
     have H := H1
     clear H1
     by_cases c8 : a2 = true
     · subst c8
       have H1 : (some ((-9223372036854775808), 1)) = some (r1, r2) := by rw [if_pos rfl] at H; exact H
       clear H
       have H := H1
       clear H1
       simp only [Option.some.injEq, Prod.mk.injEq] at H
       obtain ⟨rfl, rfl⟩ := H
       go_wp2
       go_ret2
       exact ⟨by first | rfl | (simp; done) | (simp [*]; done), by repeat (first | exact Drawn0.refl _ | apply Drawn0.step)⟩
     · replace c8 := Bool.eq_false_iff.mpr c8
       subst c8
       have H1 : (if a0 = 0 then (if a1 ≤ 9223372036854775807 then (some (wrap64 (a1), 0)) else (some (9223372036854775807, 1))) else (some (9223372036854775807, 1))) = some (r1, r2) := by rw [if_neg (show ¬ (false = true) by decide)] at H; exact H
       clear H
       have H := H1
       clear H1
       by_cases c9 : a0 = 0
       · rw [if_pos c9] at H
         have c9b0 : (a0 == 0) = true := beq_iff_eq.mpr c9
         have c9b1 : (a0 != 0) = false := bne_eq_false_iff_eq.mpr c9
         clear c9
         by_cases c10 : a1 ≤ 9223372036854775807
         · rw [if_pos c10] at H
           have c10b0 : decide (a1 ≤ 9223372036854775807) = true := decide_eq_true c10
           clear c10
           simp only [Option.some.injEq, Prod.mk.injEq] at H
           obtain ⟨rfl, rfl⟩ := H
           go_wp2
           go_ret2
           exact ⟨by first | rfl | (simp; done) | (simp [*]; done), by repeat (first | exact Drawn0.refl _ | apply Drawn0.step)⟩
         · rw [if_neg c10] at H
           have c10b0 : decide (a1 ≤ 9223372036854775807) = false := decide_eq_false c10
           clear c10
           simp only [Option.some.injEq, Prod.mk.injEq] at H
           obtain ⟨rfl, rfl⟩ := H
           go_wp2
           go_ret2
           exact ⟨by first | rfl | (simp; done) | (simp [*]; done), by repeat (first | exact Drawn0.refl _ | apply Drawn0.step)⟩
       · rw [if_neg c9] at H
         have c9b0 : (a0 == 0) = false := beq_eq_false_iff_ne.mpr c9
         have c9b1 : (a0 != 0) = true := bne_iff_ne.mpr c9
         simp only [Option.some.injEq, Prod.mk.injEq] at H
         obtain ⟨rfl, rfl⟩ := H
         go_wp2
         go_ret2
         exact ⟨by first | rfl | (simp; done) | (simp [*]; done), by repeat (first | exact Drawn0.refl _ | apply Drawn0.step)⟩

/-! ### fixq_Mul: function 119 -/
def fixq_Mul.f (k : Nat) (a0 : Int) (a1 : Int) : Option (Int × Int) := (fixq_size.f a0).bind fun t147 => ((fixq_size.f a1).bind fun t148 => ((bits_Mul64.f t147 t148).bind fun bt149 => ((fixq_held.f k (bt149.1 / 4294967296) (Go.bits .or .u64 (IntKind.u64.wrap (bt149.1 * 4294967296)) (bt149.2 / 4294967296)) ((decide (a0 < 0)) != (decide (a1 < 0)))).bind fun bt151 => (some (bt151.1, bt151.2)))))
theorem fixq_Mul.mono : ∀ a0 a1 k, LeO (fixq_Mul.f k a0 a1) (fixq_Mul.f (k + 1) a0 a1) := by
 intro a0 a1 k
 unfold fixq_Mul.f
 repeat' first
  | (with_reducible exact fixq_held.mono _ _ _ _)
  | (with_reducible exact LeO.refl _)
  | (with_reducible exact LeO.none _)
  | (with_reducible refine LeO.ite ?_ ?_)
  | (with_reducible refine LeO.bind ?_ (fun _ => ?_))
  | exact fixq_held.mono _ _ _ _
  | exact LeO.none _
  | refine LeO.ite ?_ ?_
  | refine LeO.bind ?_ (fun _ => ?_)
set_option maxHeartbeats 8000000 in
set_option maxRecDepth 100000 in
theorem fixq_Mul.calls (k : Nat) (a0 : Int) (a1 : Int) (r1 : Int) (r2 : Int) (w : World) (h : fixq_Mul.f k a0 a1 = some (r1, r2)) :
 Calls Tryz.prog 119 #[.int .i64 a0, .int .i64 a1] w fun e w' => e = .returned (.tuple #[.int .i64 r1, .int .i64 r2]) ∧ Drawn0 w w' := by
 have H : ((fixq_size.f a0).bind fun t147 => ((fixq_size.f a1).bind fun t148 => ((bits_Mul64.f t147 t148).bind fun bt149 => ((fixq_held.f k (bt149.1 / 4294967296) (Go.bits .or .u64 (IntKind.u64.wrap (bt149.1 * 4294967296)) (bt149.2 / 4294967296)) ((decide (a0 < 0)) != (decide (a1 < 0)))).bind fun bt151 => (some (bt151.1, bt151.2)))))) = some (r1, r2) := h
 clear h
 replace H := Option.bind_eq_some_iff.mp H
 obtain ⟨t147, A30, H⟩ := H
 replace H : ((fixq_size.f a1).bind fun t148 => ((bits_Mul64.f t147 t148).bind fun bt149 => ((fixq_held.f k (bt149.1 / 4294967296) (Go.bits .or .u64 (IntKind.u64.wrap (bt149.1 * 4294967296)) (bt149.2 / 4294967296)) ((decide (a0 < 0)) != (decide (a1 < 0)))).bind fun bt151 => (some (bt151.1, bt151.2))))) = some (r1, r2) := H
 have A3 := Aside0.mk A30
 clear A30
 replace H := Option.bind_eq_some_iff.mp H
 obtain ⟨t148, A40, H⟩ := H
 replace H : ((bits_Mul64.f t147 t148).bind fun bt149 => ((fixq_held.f k (bt149.1 / 4294967296) (Go.bits .or .u64 (IntKind.u64.wrap (bt149.1 * 4294967296)) (bt149.2 / 4294967296)) ((decide (a0 < 0)) != (decide (a1 < 0)))).bind fun bt151 => (some (bt151.1, bt151.2)))) = some (r1, r2) := H
 have A4 := Aside0.mk A40
 clear A40
 replace H := Option.bind_eq_some_iff.mp H
 obtain ⟨⟨t149, t150⟩, A50, H⟩ := H
 replace H : ((fixq_held.f k (t149 / 4294967296) (Go.bits .or .u64 (IntKind.u64.wrap (t149 * 4294967296)) (t150 / 4294967296)) ((decide (a0 < 0)) != (decide (a1 < 0)))).bind fun bt151 => (some (bt151.1, bt151.2))) = some (r1, r2) := H
 have A5 := Aside0.mk A50
 clear A50
 replace H := Option.bind_eq_some_iff.mp H
 obtain ⟨⟨t151, t152⟩, A60, H⟩ := H
 replace H : (some (t151, t152)) = some (r1, r2) := H
 have A6 := Aside0.mk A60
 clear A60
 simp only [Option.some.injEq, Prod.mk.injEq] at H
 obtain ⟨rfl, rfl⟩ := H
 go_enter Tryz.func119, Tryz.ntmps119
 go_wp2_with (first | ((with_reducible refine gate_callee (f := 134) rfl ?_); refine goesL_ (some 10) rfl rfl Tryz.func134 (by kernel_rfl) rfl #[.int .i64 a0] rfl (by (try simp only [List.map_toArray, List.map_cons, List.map_nil]); first | done | rfl | (simp only [List.length_drop, List.length_take]; rfl)) ?_; (with_reducible refine (fixq_size.calls a0 t147 _ A3.out).mono ?_); rintro e w' ⟨rfl, ⟨nd, rfl⟩⟩; refine ⟨_, rfl, ?_⟩) | ((with_reducible refine gate_callee (f := 134) rfl ?_); refine goesL_ (some 12) rfl rfl Tryz.func134 (by kernel_rfl) rfl #[.int .i64 a1] rfl (by (try simp only [List.map_toArray, List.map_cons, List.map_nil]); first | done | rfl | (simp only [List.length_drop, List.length_take]; rfl)) ?_; (with_reducible refine (fixq_size.calls a1 t148 _ A4.out).mono ?_); rintro e w' ⟨rfl, ⟨nd, rfl⟩⟩; refine ⟨_, rfl, ?_⟩) | ((with_reducible refine gate_callee (f := 133) rfl ?_); refine goesL_ (some 13) rfl rfl Tryz.func133 (by kernel_rfl) rfl #[.int .u64 t147, .int .u64 t148] rfl (by (try simp only [List.map_toArray, List.map_cons, List.map_nil]); first | done | rfl | (simp only [List.length_drop, List.length_take]; rfl)) ?_; (with_reducible refine (bits_Mul64.calls t147 t148 t149 t150 _ A5.out).mono ?_); rintro e w' ⟨rfl, ⟨nd, rfl⟩⟩; refine ⟨_, rfl, ?_⟩) | ((with_reducible refine gate_callee (f := 135) rfl ?_); refine goesL_ (some 28) rfl rfl Tryz.func135 (by kernel_rfl) rfl #[.int .u64 (t149 / 4294967296), .int .u64 (Go.bits .or .u64 (IntKind.u64.wrap (t149 * 4294967296)) (t150 / 4294967296)), .bool ((decide (a0 < 0)) != (decide (a1 < 0)))] rfl (by (try simp only [List.map_toArray, List.map_cons, List.map_nil]); first | done | rfl | (simp only [List.length_drop, List.length_take]; rfl)) ?_; (with_reducible refine (fixq_held.calls k (t149 / 4294967296) (Go.bits .or .u64 (IntKind.u64.wrap (t149 * 4294967296)) (t150 / 4294967296)) ((decide (a0 < 0)) != (decide (a1 < 0))) t151 t152 _ A6.out).mono ?_); rintro e w' ⟨rfl, ⟨nd, rfl⟩⟩; refine ⟨_, rfl, ?_⟩))
 go_ret2
 exact ⟨by first | rfl | (simp; done) | (simp [*]; done), by repeat (first | exact Drawn0.refl _ | apply Drawn0.step)⟩

/-! ### fixq_Div: function 120 -/
def fixq_Div.f (k : Nat) (a0 : Int) (a1 : Int) : Option (Int × Int) := if a1 = 0 then (if a0 = 0 then (some (0, 2)) else ((fixq_edge.f (decide (a0 < 0))).bind fun t153 => (some (t153, 2)))) else ((fixq_size.f a0).bind fun t154 => ((fixq_size.f a1).bind fun t155 => (if t155 = 0 then (none) else ((bits_Div64.f k (Int.tmod (t154 / 4294967296) t155) (IntKind.u64.wrap (t154 * 4294967296)) t155).bind fun bt156 => ((fixq_held.f k (IntKind.u64.wrap (Int.tdiv (t154 / 4294967296) t155)) bt156.1 ((decide (a0 < 0)) != (decide (a1 < 0)))).bind fun bt158 => (some (bt158.1, bt158.2)))))))
theorem fixq_Div.mono : ∀ a0 a1 k, LeO (fixq_Div.f k a0 a1) (fixq_Div.f (k + 1) a0 a1) := by
 intro a0 a1 k
 unfold fixq_Div.f
 repeat' first
  | (with_reducible exact bits_Div64.mono _ _ _ _)
  | (with_reducible exact fixq_held.mono _ _ _ _)
  | (with_reducible exact LeO.refl _)
  | (with_reducible exact LeO.none _)
  | (with_reducible refine LeO.ite ?_ ?_)
  | (with_reducible refine LeO.bind ?_ (fun _ => ?_))
  | exact bits_Div64.mono _ _ _ _
  | exact fixq_held.mono _ _ _ _
  | exact LeO.none _
  | refine LeO.ite ?_ ?_
  | refine LeO.bind ?_ (fun _ => ?_)
set_option maxHeartbeats 8000000 in
set_option maxRecDepth 100000 in
theorem fixq_Div.calls (k : Nat) (a0 : Int) (a1 : Int) (r1 : Int) (r2 : Int) (w : World) (h : fixq_Div.f k a0 a1 = some (r1, r2)) :
 Calls Tryz.prog 120 #[.int .i64 a0, .int .i64 a1] w fun e w' => e = .returned (.tuple #[.int .i64 r1, .int .i64 r2]) ∧ Drawn0 w w' := by
 have H : (if a1 = 0 then (if a0 = 0 then (some (0, 2)) else ((fixq_edge.f (decide (a0 < 0))).bind fun t153 => (some (t153, 2)))) else ((fixq_size.f a0).bind fun t154 => ((fixq_size.f a1).bind fun t155 => (if t155 = 0 then (none) else ((bits_Div64.f k (Int.tmod (t154 / 4294967296) t155) (IntKind.u64.wrap (t154 * 4294967296)) t155).bind fun bt156 => ((fixq_held.f k (IntKind.u64.wrap (Int.tdiv (t154 / 4294967296) t155)) bt156.1 ((decide (a0 < 0)) != (decide (a1 < 0)))).bind fun bt158 => (some (bt158.1, bt158.2)))))))) = some (r1, r2) := h
 clear h
 by_cases c3 : a1 = 0
 · rw [if_pos c3] at H
   have c3b0 : (a1 == 0) = true := beq_iff_eq.mpr c3
   have c3b1 : (a1 != 0) = false := bne_eq_false_iff_eq.mpr c3
   clear c3
   by_cases c4 : a0 = 0
   · rw [if_pos c4] at H
     have c4b0 : (a0 == 0) = true := beq_iff_eq.mpr c4
     have c4b1 : (a0 != 0) = false := bne_eq_false_iff_eq.mpr c4
     clear c4
     simp only [Option.some.injEq, Prod.mk.injEq] at H
     obtain ⟨rfl, rfl⟩ := H
     go_enter Tryz.func120, Tryz.ntmps120
     go_wp2
     go_ret2
     exact ⟨by first | rfl | (simp; done) | (simp [*]; done), by repeat (first | exact Drawn0.refl _ | apply Drawn0.step)⟩
   · rw [if_neg c4] at H
     have c4b0 : (a0 == 0) = false := beq_eq_false_iff_ne.mpr c4
     have c4b1 : (a0 != 0) = true := bne_iff_ne.mpr c4
     replace H := Option.bind_eq_some_iff.mp H
     obtain ⟨t153, A50, H⟩ := H
     replace H : (some (t153, 2)) = some (r1, r2) := H
     have A5 := Aside0.mk A50
     clear A50
     simp only [Option.some.injEq, Prod.mk.injEq] at H
     obtain ⟨rfl, rfl⟩ := H
     go_enter Tryz.func120, Tryz.ntmps120
     go_wp2_with (first | ((with_reducible refine gate_callee (f := 132) rfl ?_); refine goesL_ (some 19) rfl rfl Tryz.func132 (by kernel_rfl) rfl #[.bool (decide (a0 < 0))] rfl (by (try simp only [List.map_toArray, List.map_cons, List.map_nil]); first | done | rfl | (simp only [List.length_drop, List.length_take]; rfl)) ?_; (with_reducible refine (fixq_edge.calls (decide (a0 < 0)) t153 _ A5.out).mono ?_); rintro e w' ⟨rfl, ⟨nd, rfl⟩⟩; refine ⟨_, rfl, ?_⟩))
     go_ret2
     exact ⟨by first | rfl | (simp; done) | (simp [*]; done), by repeat (first | exact Drawn0.refl _ | apply Drawn0.step)⟩
 · rw [if_neg c3] at H
   have c3b0 : (a1 == 0) = false := beq_eq_false_iff_ne.mpr c3
   have c3b1 : (a1 != 0) = true := bne_iff_ne.mpr c3
   replace H := Option.bind_eq_some_iff.mp H
   obtain ⟨t154, A60, H⟩ := H
   replace H : ((fixq_size.f a1).bind fun t155 => (if t155 = 0 then (none) else ((bits_Div64.f k (Int.tmod (t154 / 4294967296) t155) (IntKind.u64.wrap (t154 * 4294967296)) t155).bind fun bt156 => ((fixq_held.f k (IntKind.u64.wrap (Int.tdiv (t154 / 4294967296) t155)) bt156.1 ((decide (a0 < 0)) != (decide (a1 < 0)))).bind fun bt158 => (some (bt158.1, bt158.2)))))) = some (r1, r2) := H
   have A6 := Aside0.mk A60
   clear A60
   replace H := Option.bind_eq_some_iff.mp H
   obtain ⟨t155, A70, H⟩ := H
   replace H : (if t155 = 0 then (none) else ((bits_Div64.f k (Int.tmod (t154 / 4294967296) t155) (IntKind.u64.wrap (t154 * 4294967296)) t155).bind fun bt156 => ((fixq_held.f k (IntKind.u64.wrap (Int.tdiv (t154 / 4294967296) t155)) bt156.1 ((decide (a0 < 0)) != (decide (a1 < 0)))).bind fun bt158 => (some (bt158.1, bt158.2))))) = some (r1, r2) := H
   have A7 := Aside0.mk A70
   clear A70
   by_cases c8 : t155 = 0
   · rw [if_pos c8] at H
     exact absurd H (by simp)
   · rw [if_neg c8] at H
     have c8b0 : (t155 == 0) = false := beq_eq_false_iff_ne.mpr c8
     have c8b1 : (t155 != 0) = true := bne_iff_ne.mpr c8
     replace H := Option.bind_eq_some_iff.mp H
     obtain ⟨⟨t156, t157⟩, A90, H⟩ := H
     replace H : ((fixq_held.f k (IntKind.u64.wrap (Int.tdiv (t154 / 4294967296) t155)) t156 ((decide (a0 < 0)) != (decide (a1 < 0)))).bind fun bt158 => (some (bt158.1, bt158.2))) = some (r1, r2) := H
     have A9 := Aside0.mk A90
     clear A90
     replace H := Option.bind_eq_some_iff.mp H
     obtain ⟨⟨t158, t159⟩, A100, H⟩ := H
     replace H : (some (t158, t159)) = some (r1, r2) := H
     have A10 := Aside0.mk A100
     clear A100
     simp only [Option.some.injEq, Prod.mk.injEq] at H
     obtain ⟨rfl, rfl⟩ := H
     go_enter Tryz.func120, Tryz.ntmps120
     go_wp2_with (first | ((with_reducible refine gate_callee (f := 134) rfl ?_); refine goesL_ (some 21) rfl rfl Tryz.func134 (by kernel_rfl) rfl #[.int .i64 a0] rfl (by (try simp only [List.map_toArray, List.map_cons, List.map_nil]); first | done | rfl | (simp only [List.length_drop, List.length_take]; rfl)) ?_; (with_reducible refine (fixq_size.calls a0 t154 _ A6.out).mono ?_); rintro e w' ⟨rfl, ⟨nd, rfl⟩⟩; refine ⟨_, rfl, ?_⟩) | ((with_reducible refine gate_callee (f := 134) rfl ?_); refine goesL_ (some 23) rfl rfl Tryz.func134 (by kernel_rfl) rfl #[.int .i64 a1] rfl (by (try simp only [List.map_toArray, List.map_cons, List.map_nil]); first | done | rfl | (simp only [List.length_drop, List.length_take]; rfl)) ?_; (with_reducible refine (fixq_size.calls a1 t155 _ A7.out).mono ?_); rintro e w' ⟨rfl, ⟨nd, rfl⟩⟩; refine ⟨_, rfl, ?_⟩) | ((with_reducible refine gate_callee (f := 182) rfl ?_); refine goesL_ (some 37) rfl rfl Tryz.func182 (by kernel_rfl) rfl #[.int .u64 (Int.tmod (t154 / 4294967296) t155), .int .u64 (IntKind.u64.wrap (t154 * 4294967296)), .int .u64 t155] rfl (by (try simp only [List.map_toArray, List.map_cons, List.map_nil]); first | done | rfl | (simp only [List.length_drop, List.length_take]; rfl)) ?_; (with_reducible refine (bits_Div64.calls k (Int.tmod (t154 / 4294967296) t155) (IntKind.u64.wrap (t154 * 4294967296)) t155 t156 t157 _ A9.out).mono ?_); rintro e w' ⟨rfl, ⟨nd, rfl⟩⟩; refine ⟨_, rfl, ?_⟩) | ((with_reducible refine gate_callee (f := 135) rfl ?_); refine goesL_ (some 47) rfl rfl Tryz.func135 (by kernel_rfl) rfl #[.int .u64 (IntKind.u64.wrap (Int.tdiv (t154 / 4294967296) t155)), .int .u64 t156, .bool ((decide (a0 < 0)) != (decide (a1 < 0)))] rfl (by (try simp only [List.map_toArray, List.map_cons, List.map_nil]); first | done | rfl | (simp only [List.length_drop, List.length_take]; rfl)) ?_; (with_reducible refine (fixq_held.calls k (IntKind.u64.wrap (Int.tdiv (t154 / 4294967296) t155)) t156 ((decide (a0 < 0)) != (decide (a1 < 0))) t158 t159 _ A10.out).mono ?_); rintro e w' ⟨rfl, ⟨nd, rfl⟩⟩; refine ⟨_, rfl, ?_⟩))
     go_ret2
     exact ⟨by first | rfl | (simp; done) | (simp [*]; done), by repeat (first | exact Drawn0.refl _ | apply Drawn0.step)⟩

-- NOT PRINTED: function 65 (vm_operators)


theorem wrap_in {x : Int} (h0 : -9223372036854775808 ≤ x) (h1 : x ≤ 9223372036854775807) : wrap64 x = x := by
 unfold wrap64; omega
theorem u64_in {x : Int} (h0 : 0 ≤ x) (h1 : x < 18446744073709551616) : IntKind.u64.wrap x = x := by
 unfold IntKind.wrap; simp [IntKind.bits, IntKind.signed]; omega
def In64 (a : Int) : Prop := -9223372036854775808 ≤ a ∧ a ≤ 9223372036854775807
/-- A sign and a size, as_ a number. -/
def sg (b : Bool) (n : Nat) : Int := if b then -(n : Int) else (n : Int)
/-- A number, held. -/
def sat (x : Int) : Int × Int := if x < -9223372036854775808 then (-9223372036854775808, 1) else if x > 9223372036854775807 then (9223372036854775807, 1) else (x, 0)
theorem sat_in (x : Int) (h : In64 x) : sat x = (x, 0) := by
 obtain ⟨h0, h1⟩ := h
 unfold sat; rw [if_neg (by omega), if_neg (by omega)]
theorem sat_bd (x : Int) : In64 (sat x).1 := by unfold sat In64; split <;> (try split) <;> constructor <;> simp <;> omega
theorem u64w (x : Int) : IntKind.u64.wrap x = x % 18446744073709551616 := by simp [IntKind.wrap, IntKind.bits, IntKind.signed]
theorem edge_eq (b : Bool) : fixq_edge.f b = some (if b then -9223372036854775808 else 9223372036854775807) := by cases b <;> rfl
theorem size_eq (a : Int) (h : In64 a) : fixq_size.f a = some (a.natAbs : Int) := by
 obtain ⟨h0, h1⟩ := h
 unfold fixq_size.f
 simp only [u64w]
 split <;> (congr 1; omega)
theorem add_eq (a b : Int) (ha : In64 a) (hb : In64 b) : fixq_Add.f a b = some (sat (a + b)) := by
 obtain ⟨h0, h1⟩ := ha
 obtain ⟨h2, h3⟩ := hb
 unfold fixq_Add.f sat
 simp only [edge_eq, Option.bind_some]
 by_cases hlo : a + b < -9223372036854775808
 · have w : wrap64 (a + b) = a + b + 18446744073709551616 := by unfold wrap64; omega
   rw [w, decide_eq_true (show a + b + 18446744073709551616 > a by omega), decide_eq_false (show ¬ b > 0 by omega), decide_eq_true (show b < 0 by omega), if_pos rfl, if_pos hlo]; rfl
 · by_cases hhi : a + b > 9223372036854775807
   · have w : wrap64 (a + b) = a + b - 18446744073709551616 := by unfold wrap64; omega
     rw [w, decide_eq_false (show ¬ a + b - 18446744073709551616 > a by omega), decide_eq_true (show b > 0 by omega), decide_eq_false (show ¬ b < 0 by omega), if_pos (by decide), if_neg hlo, if_pos hhi]; rfl
   · have w : wrap64 (a + b) = a + b := wrap_in (by omega) (by omega)
     rw [w, if_neg hlo, if_neg hhi]
     by_cases hp : b > 0
     · rw [decide_eq_true (show a + b > a by omega), decide_eq_true hp, if_neg (by decide)]
     · rw [decide_eq_false (show ¬ a + b > a by omega), decide_eq_false hp, if_neg (by decide)]
theorem sub_eq (a b : Int) (ha : In64 a) (hb : In64 b) : fixq_Sub.f a b = some (sat (a - b)) := by
 obtain ⟨h0, h1⟩ := ha
 obtain ⟨h2, h3⟩ := hb
 unfold fixq_Sub.f sat
 simp only [edge_eq, Option.bind_some]
 by_cases hlo : a - b < -9223372036854775808
 · have w : wrap64 (a - b) = a - b + 18446744073709551616 := by unfold wrap64; omega
   rw [w, decide_eq_false (show ¬ a - b + 18446744073709551616 < a by omega), decide_eq_true (show b > 0 by omega), if_pos rfl, if_pos hlo]; rfl
 · by_cases hhi : a - b > 9223372036854775807
   · have w : wrap64 (a - b) = a - b - 18446744073709551616 := by unfold wrap64; omega
     rw [w, decide_eq_true (show a - b - 18446744073709551616 < a by omega), decide_eq_false (show ¬ b > 0 by omega), if_pos (by decide), if_neg hlo, if_pos hhi]; rfl
   · have w : wrap64 (a - b) = a - b := wrap_in (by omega) (by omega)
     rw [w, if_neg hlo, if_neg hhi]
     by_cases hp : b > 0
     · rw [decide_eq_true (show a - b < a by omega), decide_eq_true hp, if_neg (by decide)]
     · rw [decide_eq_false (show ¬ a - b < a by omega), decide_eq_false hp, if_neg (by decide)]
theorem held_ev (hi lo : Int) (b : Bool) (h0 : 0 ≤ hi) (h1 : hi < 18446744073709551616) (l0 : 0 ≤ lo) (l1 : lo < 18446744073709551616) :
 Ev (fun k => fixq_held.f k hi lo b) (sat (sg b (hi * 18446744073709551616 + lo).toNat)) := by
 have hn : ((hi * 18446744073709551616 + lo).toNat : Int) = hi * 18446744073709551616 + lo := by omega
 refine Ev.step (f := fun _ => some (sat (sg b (hi * 18446744073709551616 + lo).toNat))) (fun k => ?_) (Ev.now _)
 unfold fixq_held.f
 simp only [fixq_held.j0]
 cases b with
 | true =>
  rw [if_pos rfl]
  have hs : sg true (hi * 18446744073709551616 + lo).toNat = -(hi * 18446744073709551616 + lo) := by unfold sg; rw [hn]; rfl
  rw [hs]
  by_cases hz : hi = 0
  · subst hz
    rw [if_pos rfl]
    by_cases hl : lo ≤ 9223372036854775808
    · rw [decide_eq_true hl, if_pos rfl, u64w, sat_in _ ⟨by omega, by omega⟩]
      congr 2
      unfold wrap64; omega
    · rw [decide_eq_false hl, if_neg (by decide), if_pos rfl]
      unfold sat; rw [if_pos (by omega)]
  · rw [if_neg hz, if_neg (by decide), if_pos rfl]
    unfold sat; rw [if_pos (by omega)]
 | false =>
  rw [if_neg (by decide), if_neg (by decide), if_neg (by decide)]
  have hs : sg false (hi * 18446744073709551616 + lo).toNat = hi * 18446744073709551616 + lo := by unfold sg; rw [hn]; rfl
  rw [hs]
  by_cases hz : hi = 0
  · subst hz
    rw [if_pos rfl]
    by_cases hl : lo ≤ 9223372036854775807
    · rw [if_pos hl, wrap_in (by omega) hl, sat_in _ ⟨by omega, by omega⟩]; simp
    · rw [if_neg hl]
      unfold sat; rw [if_neg (by omega), if_pos (by omega)]
  · rw [if_neg hz]
    unfold sat; rw [if_neg (by omega), if_pos (by omega)]
theorem wraps_u64 (n : Int) (h₀ : 0 ≤ n) (h₁ : n < 2 ^ 64) : IntKind.u64.wrap n = n := by rw [u64w]; omega
theorem and_mask32 (x : Int) (h₀ : 0 ≤ x) (h₁ : x < 18446744073709551616) : bits .and .u64 x 4294967295 = x % 4294967296 :=
 bits_mask .u64 64 (by decide) wraps_u64 32 (by decide) x h₀ (by omega)
theorem or_join32 (x y : Int) (hx₀ : 0 ≤ x) (hx : x % 4294967296 = 0) (hx₁ : x < 18446744073709551616) (hy₀ : 0 ≤ y) (hy : y < 4294967296) : bits .or .u64 x y = x + y :=
 bits_join .u64 64 (by decide) wraps_u64 32 x y hx₀ (by omega) (by omega) hy₀ (by omega) (by omega)
theorem mul64_eq (m n : Nat) (hm : m < 18446744073709551616) (hn : n < 18446744073709551616) :
 bits_Mul64.f (m : Int) (n : Int) = some (((m * n / 18446744073709551616 : Nat) : Int), ((m * n % 18446744073709551616 : Nat) : Int)) := by
 obtain ⟨g1, g2, g3, g4⟩ := Lib.mul64_hi m n hm hn
 unfold bits_Mul64.f
 have a1 : bits .and .u64 (m : Int) 4294967295 = ((m % 4294967296 : Nat) : Int) := by rw [and_mask32 _ (by omega) (by omega)]; omega
 have a2 : bits .and .u64 (n : Int) 4294967295 = ((n % 4294967296 : Nat) : Int) := by rw [and_mask32 _ (by omega) (by omega)]; omega
 have d1 : (m : Int) / 4294967296 = ((m / 4294967296 : Nat) : Int) := by omega
 have d2 : (n : Int) / 4294967296 = ((n / 4294967296 : Nat) : Int) := by omega
 rw [a1, a2, d1, d2]
 have hb := Lib.half_mul_le (a := m / 4294967296) (b := n / 4294967296) (by omega) (by omega)
 have hc := Lib.half_mul_le (a := m / 4294967296) (b := n % 4294967296) (by omega) (by omega)
 have hd := Lib.half_mul_le (a := m % 4294967296) (b := n / 4294967296) (by omega) (by omega)
 have he := Lib.half_mul_le (a := m % 4294967296) (b := n % 4294967296) (by omega) (by omega)
 simp only [← Int.natCast_mul]
 generalize m / 4294967296 * (n / 4294967296) = A at *
 generalize m / 4294967296 * (n % 4294967296) = B at *
 generalize m % 4294967296 * (n / 4294967296) = C at *
 generalize m % 4294967296 * (n % 4294967296) = D at *
 have w1 : IntKind.u64.wrap (A : Int) = A := u64_in (by omega) (by omega)
 have w2 : IntKind.u64.wrap (B : Int) = B := u64_in (by omega) (by omega)
 have w3 : IntKind.u64.wrap (C : Int) = C := u64_in (by omega) (by omega)
 have w4 : IntKind.u64.wrap (D : Int) = D := u64_in (by omega) (by omega)
 rw [w1, w2, w3, w4]
 have w5 : IntKind.u64.wrap ((B : Int) + (D : Int) / 4294967296) = ((B + D / 4294967296 : Nat) : Int) := by rw [u64_in (by omega) (by omega)]; omega
 rw [w5, and_mask32 _ (by omega) (by omega)]
 have w6 : IntKind.u64.wrap (((B + D / 4294967296 : Nat) : Int) % 4294967296 + (C : Int)) = (((B + D / 4294967296) % 4294967296 + C : Nat) : Int) := by rw [u64_in (by omega) (by omega)]; omega
 rw [w6]
 have w7 : IntKind.u64.wrap ((A : Int) + ((B + D / 4294967296 : Nat) : Int) / 4294967296) = ((A + (B + D / 4294967296) / 4294967296 : Nat) : Int) := by rw [u64_in (by omega) (by omega)]; omega
 rw [w7]
 have w8 : IntKind.u64.wrap (((A + (B + D / 4294967296) / 4294967296 : Nat) : Int) + (((B + D / 4294967296) % 4294967296 + C : Nat) : Int) / 4294967296) = ((m * n / 18446744073709551616 : Nat) : Int) := by
  rw [← g4, u64_in (by omega) (by omega)]; omega
 rw [w8, u64w]
 congr 2
theorem mul_eq (a b : Int) (ha : In64 a) (hb : In64 b) : Ev (fun k => fixq_Mul.f k a b) (sat (sg ((decide (a < 0)) != (decide (b < 0))) (a.natAbs * b.natAbs / 4294967296))) := by
 unfold fixq_Mul.f
 rw [size_eq a ha, size_eq b hb]
 obtain ⟨h0, h1⟩ := ha
 obtain ⟨h2, h3⟩ := hb
 simp only [Option.bind_some]
 rw [mul64_eq _ _ (by omega) (by omega)]
 simp only [Option.bind_some]
 have hle : a.natAbs * b.natAbs ≤ 9223372036854775808 * 9223372036854775808 := Nat.mul_le_mul (by omega) (by omega)
 generalize a.natAbs * b.natAbs = P at *
 have ho : bits .or .u64 (IntKind.u64.wrap (((P / 18446744073709551616 : Nat) : Int) * 4294967296)) (((P % 18446744073709551616 : Nat) : Int) / 4294967296) = ((P / 4294967296 % 18446744073709551616 : Nat) : Int) := by
  rw [u64w, or_join32 _ _ (by omega) (by omega) (by omega) (by omega) (by omega)]; omega
 rw [ho]
 have := held_ev (((P / 18446744073709551616 : Nat) : Int) / 4294967296) ((P / 4294967296 % 18446744073709551616 : Nat) : Int) ((decide (a < 0)) != (decide (b < 0))) (by omega) (by omega) (by omega) (by omega)
 have e : ((((P / 18446744073709551616 : Nat) : Int) / 4294967296) * 18446744073709551616 + ((P / 4294967296 % 18446744073709551616 : Nat) : Int)).toNat = P / 4294967296 := by omega
 rw [e] at this
 refine Ev.congr (fun k => ?_) this
 cases fixq_held.f k (((P / 18446744073709551616 : Nat) : Int) / 4294967296) ((P / 4294967296 % 18446744073709551616 : Nat) : Int) ((decide (a < 0)) != (decide (b < 0))) <;> rfl
theorem in64_of {a : Int} (h : (Lit.int .i64 a).wf = true) : In64 a := by
 simp [Lit.wf, IntKind.min, IntKind.max, IntKind.bits, IntKind.signed] at h
 unfold In64; omega

theorem neg_eq (a : Int) (ha : In64 a) : fixq_Neg.f a = some (sat (-a)) := by
 unfold fixq_Neg.f
 rw [sub_eq 0 a ⟨by omega, by omega⟩ ha]
 simp
set_option linter.unusedVariables false
set_option linter.unusedSimpArgs false

/-! ### How many bits a number needs -/
def IsLen (x L : Nat) : Prop := x < 2 ^ L ∧ (x = 0 ∨ 2 ^ (L - 1) ≤ x ∧ 0 < L)
theorem isLen_shift {x c L : Nat} (h : IsLen (x / 2 ^ c) L) (hx : 0 < x / 2 ^ c) : IsLen x (L + c) := by
 obtain ⟨h1, h2⟩ := h
 have hp := Nat.two_pow_pos c
 refine ⟨?_, .inr ⟨?_, by rcases h2 with h2 | h2 <;> omega⟩⟩
 · rw [Nat.pow_add]; exact (Nat.div_lt_iff_lt_mul hp).1 h1
 · rcases h2 with h2 | ⟨h2, h3⟩
   · omega
   · have : 2 ^ (L + c - 1) = 2 ^ (L - 1) * 2 ^ c := by rw [← Nat.pow_add]; congr 1; omega
     rw [this]
     exact (Nat.le_div_iff_mul_le hp).1 h2
/-- The table of bits.Len8. -/
def lenTab : ByteArray := ⟨#[0, 1, 2, 2, 3, 3, 3, 3, 4, 4, 4, 4, 4, 4, 4, 4, 5, 5, 5, 5, 5, 5, 5, 5, 5, 5, 5, 5, 5, 5, 5, 5, 6, 6, 6, 6, 6, 6, 6, 6, 6, 6, 6, 6, 6, 6, 6, 6, 6, 6, 6, 6, 6, 6, 6, 6, 6, 6, 6, 6, 6, 6, 6, 6, 7, 7, 7, 7, 7, 7, 7, 7, 7, 7, 7, 7, 7, 7, 7, 7, 7, 7, 7, 7, 7, 7, 7, 7, 7, 7, 7, 7, 7, 7, 7, 7, 7, 7, 7, 7, 7, 7, 7, 7, 7, 7, 7, 7, 7, 7, 7, 7, 7, 7, 7, 7, 7, 7, 7, 7, 7, 7, 7, 7, 7, 7, 7, 7, 8, 8, 8, 8, 8, 8, 8, 8, 8, 8, 8, 8, 8, 8, 8, 8, 8, 8, 8, 8, 8, 8, 8, 8, 8, 8, 8, 8, 8, 8, 8, 8, 8, 8, 8, 8, 8, 8, 8, 8, 8, 8, 8, 8, 8, 8, 8, 8, 8, 8, 8, 8, 8, 8, 8, 8, 8, 8, 8, 8, 8, 8, 8, 8, 8, 8, 8, 8, 8, 8, 8, 8, 8, 8, 8, 8, 8, 8, 8, 8, 8, 8, 8, 8, 8, 8, 8, 8, 8, 8, 8, 8, 8, 8, 8, 8, 8, 8, 8, 8, 8, 8, 8, 8, 8, 8, 8, 8, 8, 8, 8, 8, 8, 8, 8, 8, 8, 8, 8, 8, 8, 8, 8, 8, 8, 8, 8, 8]⟩
theorem len_step (k : Nat) (x0 x2 : Int) : bits_Len64.j0 (k + 1) x0 x2 = if x0 ≥ 65536 then (if (x0 / 65536) ≥ 256 then (if 0 ≤ (((x0 / 65536) / 256) % 256) then (if (((x0 / 65536) / 256) % 256) < 256 then (some (wrap64 ((wrap64 ((wrap64 (x2 + 16)) + 8)) + (wrap64 (bt lenTab (((x0 / 65536) / 256) % 256)))))) else (none)) else (none)) else (if 0 ≤ ((x0 / 65536) % 256) then (if ((x0 / 65536) % 256) < 256 then (some (wrap64 ((wrap64 (x2 + 16)) + (wrap64 (bt lenTab ((x0 / 65536) % 256)))))) else (none)) else (none))) else (if x0 ≥ 256 then (if 0 ≤ ((x0 / 256) % 256) then (if ((x0 / 256) % 256) < 256 then (some (wrap64 ((wrap64 (x2 + 8)) + (wrap64 (bt lenTab ((x0 / 256) % 256)))))) else (none)) else (none)) else (if 0 ≤ ((x0) % 256) then (if ((x0) % 256) < 256 then (some (wrap64 (x2 + (wrap64 (bt lenTab ((x0) % 256)))))) else (none)) else (none))) := rfl
theorem lenTab_ok : ∀ i : Fin 256, (i.val = 0 ∧ bt lenTab (i.val : Int) = 0) ∨ (2 ^ ((bt lenTab (i.val : Int)).toNat - 1) ≤ i.val ∧ i.val < 2 ^ (bt lenTab (i.val : Int)).toNat ∧ 0 < (bt lenTab (i.val : Int)).toNat ∧ bt lenTab (i.val : Int) ≤ 8) := by decide +kernel
theorem lenTab_at (i : Nat) (h : i < 256) : ∃ L : Nat, bt lenTab (i : Int) = (L : Int) ∧ L ≤ 8 ∧ IsLen i L := by
 have h0 := bt_range lenTab (i : Int)
 have h1 := lenTab_ok ⟨i, h⟩
 simp only at h1
 refine ⟨(bt lenTab (i : Int)).toNat, by omega, ?_, ?_⟩
 · rcases h1 with h1 | h1 <;> omega
 · rcases h1 with ⟨h1, h2⟩ | ⟨h1, h2, h3, h4⟩
   · rw [h2]; exact ⟨by subst h1; decide, .inl h1⟩
   · exact ⟨h2, .inr ⟨h1, h3⟩⟩
theorem len_low (x n : Nat) (hx : x < 4294967296) (hn : n ≤ 32) : ∃ L : Nat, Ev (fun k => bits_Len64.j0 k (x : Int) (n : Int)) ((n + L : Nat) : Int) ∧ IsLen x L ∧ L ≤ 32 := by
 by_cases h1 : x ≥ 65536
 · by_cases h2 : x / 65536 ≥ 256
   · obtain ⟨L, hL, hl, h⟩ := lenTab_at (x / 65536 / 256) (by omega)
     have := isLen_shift (x := x) (c := 24) (L := L) (by rw [show x / 2 ^ 24 = x / 65536 / 256 by omega]; exact h) (by omega)
     refine ⟨L + 24, Ev.step (f := fun _ => some ((n + (L + 24) : Nat) : Int)) (fun k => ?_) (Ev.now _), this, by omega⟩
     rw [len_step]
     rw [if_pos (by omega), if_pos (by omega), if_pos (by omega), if_pos (by omega), show ((x : Int) / 65536 / 256) % 256 = ((x / 65536 / 256 : Nat) : Int) by omega]
     rw [hL]
     rw [wrap_in (x := (n : Int) + 16) (by omega) (by omega), wrap_in (x := (n : Int) + 16 + 8) (by omega) (by omega), wrap_in (x := (L : Int)) (by omega) (by omega), wrap_in (by omega) (by omega)]
     exact congrArg some (by omega)
   · obtain ⟨L, hL, hl, h⟩ := lenTab_at (x / 65536) (by omega)
     have := isLen_shift (x := x) (c := 16) (L := L) (by rw [show x / 2 ^ 16 = x / 65536 by omega]; exact h) (by omega)
     refine ⟨L + 16, Ev.step (f := fun _ => some ((n + (L + 16) : Nat) : Int)) (fun k => ?_) (Ev.now _), this, by omega⟩
     rw [len_step]
     rw [if_pos (by omega), if_neg (by omega), if_pos (by omega), if_pos (by omega), show ((x : Int) / 65536) % 256 = ((x / 65536 : Nat) : Int) by omega]
     rw [hL]
     rw [wrap_in (x := (n : Int) + 16) (by omega) (by omega), wrap_in (x := (L : Int)) (by omega) (by omega), wrap_in (by omega) (by omega)]
     exact congrArg some (by omega)
 · by_cases h2 : x ≥ 256
   · obtain ⟨L, hL, hl, h⟩ := lenTab_at (x / 256) (by omega)
     have := isLen_shift (x := x) (c := 8) (L := L) (by rw [show x / 2 ^ 8 = x / 256 by omega]; exact h) (by omega)
     refine ⟨L + 8, Ev.step (f := fun _ => some ((n + (L + 8) : Nat) : Int)) (fun k => ?_) (Ev.now _), this, by omega⟩
     rw [len_step]
     rw [if_neg (by omega), if_pos (by omega), if_pos (by omega), if_pos (by omega), show ((x : Int) / 256) % 256 = ((x / 256 : Nat) : Int) by omega]
     rw [hL]
     rw [wrap_in (x := (n : Int) + 8) (by omega) (by omega), wrap_in (x := (L : Int)) (by omega) (by omega), wrap_in (by omega) (by omega)]
     exact congrArg some (by omega)
   · obtain ⟨L, hL, hl, h⟩ := lenTab_at x (by omega)
     refine ⟨L, Ev.step (f := fun _ => some ((n + L : Nat) : Int)) (fun k => ?_) (Ev.now _), h, by omega⟩
     rw [len_step]
     rw [if_neg (by omega), if_neg (by omega), if_pos (by omega), if_pos (by omega), show (x : Int) % 256 = (x : Int) by omega]
     rw [hL]
     rw [wrap_in (x := (L : Int)) (by omega) (by omega), wrap_in (by omega) (by omega)]
     congr 1
theorem len_ev (x : Nat) (hx : x < 18446744073709551616) : ∃ L : Nat, Ev (fun k => bits_Len64.f k (x : Int)) (L : Int) ∧ IsLen x L ∧ L ≤ 64 := by
 unfold bits_Len64.f
 by_cases h : x ≥ 4294967296
 · obtain ⟨L, hL, h1, h2⟩ := len_low (x / 4294967296) 32 (by omega) (by omega)
   have := isLen_shift (x := x) (c := 32) (L := L) (by rw [show x / 2 ^ 32 = x / 4294967296 by omega]; exact h1) (by omega)
   refine ⟨L + 32, Ev.congr (fun k => ?_) (by rw [Nat.add_comm 32 L] at hL; exact hL), this, by omega⟩
   rw [if_pos (by omega)]
   congr 1
 · obtain ⟨L, hL, h1, h2⟩ := len_low x 0 (by omega) (by omega)
   refine ⟨L, Ev.congr (fun k => ?_) (by rw [Nat.zero_add] at hL; exact hL), h1, by omega⟩
   rw [if_neg (by omega)]
   congr 1
theorem lz_ev (x : Nat) (h0 : 0 < x) (hx : x < 18446744073709551616) : ∃ s : Nat, Ev (fun k => bits_LeadingZeros64.f k (x : Int)) (s : Int) ∧ s ≤ 63 ∧ x * 2 ^ s < 18446744073709551616 ∧ 9223372036854775808 ≤ x * 2 ^ s := by
 obtain ⟨L, hL, ⟨h1, h2⟩, h3⟩ := len_ev x hx
 obtain ⟨h2, h4⟩ : 2 ^ (L - 1) ≤ x ∧ 0 < L := by
  rcases h2 with h2 | h2
  · omega
  · exact h2
 refine ⟨64 - L, ?_, by omega, ?_, ?_⟩
 · unfold bits_LeadingZeros64.f
   refine Ev.bind hL ?_
   rw [wrap_in (by omega) (by omega), show (64 : Int) - (L : Int) = ((64 - L : Nat) : Int) by omega]
   exact Ev.now _
 · have : x * 2 ^ (64 - L) < 2 ^ L * 2 ^ (64 - L) := Nat.mul_lt_mul_of_pos_right h1 (Nat.two_pow_pos _)
   rw [← Nat.pow_add, show L + (64 - L) = 64 by omega] at this
   simpa using this
 · have : 2 ^ (L - 1) * 2 ^ (64 - L) ≤ x * 2 ^ (64 - L) := Nat.mul_le_mul_right _ h2
   rw [← Nat.pow_add, show L - 1 + (64 - L) = 63 by omega] at this
   simpa using this

/-- What is known of a digit that is tried: u is what is divided, v1, v0 the divisor's halves, d the next digit, q the try, r what it leaves by v1. -/
structure Dig (v1 v0 u d q r Q : Nat) : Prop where
 hv1 : v1 < 4294967296
 hv1' : 2147483648 ≤ v1
 hv0 : v0 < 4294967296
 hd : d < 4294967296
 hu : u < v1 * 4294967296 + v0
 eq : u = q * v1 + r
 hr : r < 4294967296
 hQ : Q = (u * 4294967296 + d) / (v1 * 4294967296 + v0)
 hge : Q ≤ q
 hq : q ≤ 4294967297
theorem dig_le {v1 v0 u d q r Q : Nat} (hv1' : 2147483648 ≤ v1) (eq : u = q * v1 + r) (hQ : Q = (u * 4294967296 + d) / (v1 * 4294967296 + v0)) : q ≤ Q ↔ q * v0 ≤ r * 4294967296 + d := by
 subst hQ
 rw [Nat.le_div_iff_mul_le (by omega), Nat.mul_add, ← Nat.mul_assoc]
 generalize q * v1 = X at *
 generalize q * v0 = Y at *
 omega
theorem dig_lt' (u d v B : Nat) (hd : d < B) (hu : u < v) : (u * B + d) / v < B := by
 refine (Nat.div_lt_iff_lt_mul (by omega)).2 ?_
 have : (u + 1) * B ≤ v * B := Nat.mul_le_mul_right _ hu
 rw [Nat.succ_mul] at this
 rw [Nat.mul_comm B v]
 omega
theorem dig_lt {v1 v0 u d Q : Nat} (hv1' : 2147483648 ≤ v1) (hd : d < 4294967296) (hu : u < v1 * 4294967296 + v0) (hQ : Q = (u * 4294967296 + d) / (v1 * 4294967296 + v0)) : Q < 4294967296 := by
 rw [hQ]
 exact dig_lt' u d _ _ hd hu
theorem Dig.stop {v1 v0 u d q r Q : Nat} (h : Dig v1 v0 u d q r Q) (hc : ¬ (4294967296 ≤ q ∨ r * 4294967296 + d < q * v0)) : q = Q := by
 have := (dig_le h.hv1' h.eq h.hQ).2 (by omega)
 have := h.hge
 omega
theorem Dig.gt {v1 v0 u d q r Q : Nat} (h : Dig v1 v0 u d q r Q) (hc : 4294967296 ≤ q ∨ r * 4294967296 + d < q * v0) : Q < q := by
 rcases hc with hc | hc
 · have := dig_lt h.hv1' h.hd h.hu h.hQ
   omega
 · rcases Nat.lt_or_ge Q q with hlt | hge
   · exact hlt
   · have := (dig_le h.hv1' h.eq h.hQ).1 hge
     omega
theorem dig_down {q v1 r : Nat} (hq : 0 < q) : q * v1 + r = (q - 1) * v1 + (r + v1) := by
 obtain ⟨p, rfl⟩ : ∃ p, q = p + 1 := ⟨q - 1, by omega⟩
 rw [Nat.add_sub_cancel, Nat.succ_mul]; omega
theorem Dig.last {v1 v0 u d q r Q : Nat} (h : Dig v1 v0 u d q r Q) (hc : 4294967296 ≤ q ∨ r * 4294967296 + d < q * v0) (hb : 4294967296 ≤ r + v1) : q - 1 = Q := by
 have hgt := h.gt hc
 have hq := h.hq
 have hv0 := h.hv0
 have := (dig_le (q := q - 1) (r := r + v1) h.hv1' (by rw [h.eq, dig_down (by omega)]) h.hQ).2 (by
  have : (q - 1) * v0 ≤ 4294967296 * 4294967295 := Nat.mul_le_mul (by omega) (by omega)
  omega)
 omega
theorem Dig.next {v1 v0 u d q r Q : Nat} (h : Dig v1 v0 u d q r Q) (hc : 4294967296 ≤ q ∨ r * 4294967296 + d < q * v0) (hb : r + v1 < 4294967296) : Dig v1 v0 u d (q - 1) (r + v1) Q := by
 have hgt := h.gt hc
 exact ⟨h.hv1, h.hv1', h.hv0, h.hd, h.hu, by rw [h.eq, dig_down (by omega)], hb, h.hQ, by omega, by have := h.hq; omega⟩
theorem dig_start {v1 v0 u d : Nat} (hv1 : v1 < 4294967296) (hv1' : 2147483648 ≤ v1) (hv0 : v0 < 4294967296) (hd : d < 4294967296) (hu : u < v1 * 4294967296 + v0) :
 Dig v1 v0 u d (u / v1) (u % v1) ((u * 4294967296 + d) / (v1 * 4294967296 + v0)) := by
 refine ⟨hv1, hv1', hv0, hd, hu, by rw [Nat.mul_comm, Nat.div_add_mod], Nat.lt_trans (Nat.mod_lt _ (by omega)) hv1, rfl, ?_, ?_⟩
 · rw [Nat.le_div_iff_mul_le (by omega)]
   generalize hQ : (u * 4294967296 + d) / (v1 * 4294967296 + v0) = Q
   have h1 : Q * (v1 * 4294967296 + v0) ≤ u * 4294967296 + d := by rw [← hQ]; exact Nat.div_mul_le_self _ _
   rw [Nat.mul_add, ← Nat.mul_assoc] at h1
   generalize Q * v1 = X at *
   generalize Q * v0 = Y at *
   omega
 · have : u / v1 < 4294967298 := by
    rw [Nat.div_lt_iff_lt_mul (by omega)]; omega
   omega

theorem wsub (q : Nat) (h : 0 < q) (h2 : q ≤ 4294967297) : IntKind.u64.wrap ((q : Int) - 1) = ((q - 1 : Nat) : Int) := by rw [u64_in (by omega) (by omega)]; omega
theorem cond_eq (q v0 r d : Nat) (hq : q < 4294967296) (hv : v0 < 4294967296) (hr : r < 4294967296) (hd : d < 4294967296) :
 decide ((IntKind.u64.wrap ((q : Int) * (v0 : Int))) > (IntKind.u64.wrap ((IntKind.u64.wrap (4294967296 * (r : Int))) + (d : Int)))) = decide (r * 4294967296 + d < q * v0) := by
 have hm : q * v0 ≤ 4294967295 * 4294967295 := Nat.mul_le_mul (by omega) (by omega)
 rw [← Int.natCast_mul]
 generalize q * v0 = X at *
 rw [u64_in (x := (X : Int)) (by omega) (by omega), u64_in (x := 4294967296 * (r : Int)) (by omega) (by omega), u64_in (by omega) (by omega)]
 by_cases h : r * 4294967296 + d < X
 · rw [decide_eq_true h, decide_eq_true (by omega)]
 · rw [decide_eq_false h, decide_eq_false (by omega)]
theorem loop1 (v s v1 v0 u d e : Nat) (Q : Nat) (res : Int × Int) (hj : Ev (fun k => bits_Div64.j2 k (v : Int) (s : Int) (v1 : Int) (v0 : Int) (u : Int) (d : Int) (e : Int) (Q : Int)) res) : ∀ (n q r : Nat), q ≤ n → Dig v1 v0 u d q r Q →
 Ev (fun k => bits_Div64.l0 k (v : Int) (s : Int) (v1 : Int) (v0 : Int) (u : Int) (d : Int) (e : Int) (q : Int) (r : Int)) res
 | n, q, r, hn, h => by
  have hr := h.hr; have hv1 := h.hv1; have hv0 := h.hv0; have hd := h.hd; have hqb := h.hq
  refine Ev.step (f := fun k => bits_Div64.j1 k (v : Int) (s : Int) (v1 : Int) (v0 : Int) (u : Int) (d : Int) (e : Int) (q : Int) (r : Int) (decide (4294967296 ≤ q ∨ r * 4294967296 + d < q * v0))) (fun k => ?_) ?_
  · simp only [bits_Div64.l0]
    by_cases hq : q ≥ 4294967296
    · rw [if_pos (by omega), decide_eq_true (.inl hq)]
    · rw [if_neg (by omega), cond_eq q v0 r d (by omega) hv0 hr hd]
      congr 1
      by_cases h2 : r * 4294967296 + d < q * v0
      · rw [decide_eq_true h2, decide_eq_true (.inr h2)]
      · rw [decide_eq_false h2, decide_eq_false (by omega)]
  · have w : IntKind.u64.wrap ((r : Int) + (v1 : Int)) = ((r + v1 : Nat) : Int) := by rw [u64_in (by omega) (by omega)]; omega
    by_cases hc : 4294967296 ≤ q ∨ r * 4294967296 + d < q * v0
    · rw [decide_eq_true hc]
      have hgt := h.gt hc
      have w2 := wsub q (by omega) hqb
      by_cases hb : 4294967296 ≤ r + v1
      · refine Ev.step (fun k => ?_) hj
        simp only [bits_Div64.j1]
        rw [if_pos trivial, w, w2, if_pos (by omega), h.last hc hb]
      · cases n with
        | zero => omega
        | succ n =>
         refine Ev.step (fun k => ?_) (loop1 v s v1 v0 u d e Q res hj n (q - 1) (r + v1) (by omega) (h.next hc (by omega)))
         simp only [bits_Div64.j1]
         rw [if_pos trivial, w, w2, if_neg (by omega)]
    · rw [decide_eq_false hc]
      refine Ev.step (fun k => ?_) hj
      simp only [bits_Div64.j1]
      rw [if_neg (by decide), h.stop hc]
/-- What Div64 hands back for the digits q1, Q. -/
def divOut (v s e q1 u Q : Nat) : Int × Int := (IntKind.u64.wrap ((IntKind.u64.wrap ((q1 : Int) * 4294967296)) + (Q : Int)), shr .u64 (IntKind.u64.wrap ((IntKind.u64.wrap ((IntKind.u64.wrap ((u : Int) * 4294967296)) + (e : Int))) - (IntKind.u64.wrap ((Q : Int) * (v : Int))))) (s : Int))
theorem loop2 (v s v1 v0 u e q1 : Nat) (Q : Nat) : ∀ (n q r : Nat), q ≤ n → Dig v1 v0 u e q r Q →
 Ev (fun k => bits_Div64.l1 k (v : Int) (s : Int) (v1 : Int) (v0 : Int) (e : Int) (q1 : Int) (r : Int) (u : Int) (q : Int)) (divOut v s e q1 u Q)
 | n, q, r, hn, h => by
  have hr := h.hr; have hv1 := h.hv1; have hv0 := h.hv0; have hd := h.hd; have hqb := h.hq
  refine Ev.step (f := fun k => bits_Div64.j4 k (v : Int) (s : Int) (v1 : Int) (v0 : Int) (e : Int) (q1 : Int) (r : Int) (u : Int) (q : Int) (decide (4294967296 ≤ q ∨ r * 4294967296 + e < q * v0))) (fun k => ?_) ?_
  · simp only [bits_Div64.l1]
    by_cases hq : q ≥ 4294967296
    · rw [if_pos (by omega), decide_eq_true (.inl hq)]
    · rw [if_neg (by omega), cond_eq q v0 r e (by omega) hv0 hr hd]
      congr 1
      by_cases h2 : r * 4294967296 + e < q * v0
      · rw [decide_eq_true h2, decide_eq_true (.inr h2)]
      · rw [decide_eq_false h2, decide_eq_false (by omega)]
  · have w : IntKind.u64.wrap ((r : Int) + (v1 : Int)) = ((r + v1 : Nat) : Int) := by rw [u64_in (by omega) (by omega)]; omega
    by_cases hc : 4294967296 ≤ q ∨ r * 4294967296 + e < q * v0
    · rw [decide_eq_true hc]
      have hgt := h.gt hc
      have w2 := wsub q (by omega) hqb
      by_cases hb : 4294967296 ≤ r + v1
      · refine Ev.step (fun k => ?_) (Ev.now _)
        simp only [bits_Div64.j4]
        rw [if_pos trivial, w, w2, if_pos (by omega), if_pos (by omega), h.last hc hb]
        rfl
      · cases n with
        | zero => omega
        | succ n =>
         refine Ev.step (fun k => ?_) (loop2 v s v1 v0 u e q1 Q n (q - 1) (r + v1) (by omega) (h.next hc (by omega)))
         simp only [bits_Div64.j4]
         rw [if_pos trivial, w, w2, if_neg (by omega)]
    · rw [decide_eq_false hc]
      refine Ev.step (fun k => ?_) (Ev.now _)
      simp only [bits_Div64.j4]
      rw [if_neg (by decide), if_pos (by omega), h.stop hc]
      rfl
end Go.Proofs.YtgalkkolbobmbaaGreat.V
