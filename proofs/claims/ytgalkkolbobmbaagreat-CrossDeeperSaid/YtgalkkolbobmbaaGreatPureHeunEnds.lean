/- astrolabelaw20.alive: true (the kernel has walked it). -/
import Derived.Test.YtgalkkolbobmbaaGreatM20C
import Derived.Below
import Derived.Test.YtgalkkolbobmbaaGreatX0
import Derived.Test.YtgalkkolbobmbaaGreatQ0
import Derived.Test.YtgalkkolbobmbaaGreatHBetween
import Derived.Test.YtgalkkolbobmbaaGreatMLc
import Derived.Test.YtgalkkolbobmbaaGreatHBet0
import Derived.Test.YtgalkkolbobmbaaGreatEvC

namespace Go.Proofs.YtgalkkolbobmbaaGreat.X
open Go Go.RowKit
def astrolabelaw20_alive.f : Option Bool := some true
theorem astrolabelaw20_alive.calls (r : Bool) (w : World) (h : astrolabelaw20_alive.f = some r) : Calls Tryz.prog 49 #[] w fun e w' => e = .returned (.bool r) ∧ Below w.heap.size w w' := by
 obtain rfl : true = r := Option.some.inj h
 exact (Abs.m20a_good w.heap.size).runs rfl rfl trivial
end Go.Proofs.YtgalkkolbobmbaaGreat.X

-- written by myprint.py (wip/tools) out of the translation
namespace Go.Proofs.YtgalkkolbobmbaaGreat.X
open Go.RowKit Go.Proofs.YtgalkkolbobmbaaGreatW.PrintWords Go.Proofs.YtgalkkolbobmbaaGreatW.PrintLast Go.Proofs.YtgalkkolbobmbaaGreatW.PrintMore
attribute [local go_sem] max2_int min2_int max_two min_two max_three min_three max_four min_four   -- for this text's walks alone
set_option linter.unusedVariables false
set_option linter.unusedSimpArgs false

/-! ### cross_Raised: function 50 -/
def cross_Raised.l0 : Nat → List Int → List Int → List Bool → Int → Int → Option (List Bool)
 | 0, _, _, _, _, _ => none
 | k + 1, x0, x1, x5, x11, x12 => if x12 < x11 then (if 0 ≤ x12 then (if x12 < (x0.length : Int) then (if (rd x0 x12) ≤ 0 then (if x12 < (x1.length : Int) then (if x5.length < 140737488355328 then (cross_Raised.l0 k x0 x1 (x5 ++ [decide ((rd x1 x12) > 0)]) x11 (wrap64 (x12 + 1))) else (none)) else (none)) else (if x5.length < 140737488355328 then (cross_Raised.l0 k x0 x1 (x5 ++ [false]) x11 (wrap64 (x12 + 1))) else (none))) else (none)) else (none)) else (some x5)
def cross_Raised.f (k : Nat) (l0 : List Int) (l1 : List Int) : Option (List Bool) := cross_Raised.l0 k l0 l1 ([] : List Bool) (mn (l0.length : Int) (l1.length : Int)) 0
theorem cross_Raised.mono_l : ∀ k, (∀ y0 y1 y2 y3 y4, LeO (cross_Raised.l0 k y0 y1 y2 y3 y4) (cross_Raised.l0 (k + 1) y0 y1 y2 y3 y4))
 | 0 => fun _ _ _ _ _ r h => by simp [cross_Raised.l0] at h
 | k + 1 => by
  have ih0 := cross_Raised.mono_l k
  · intro y0 y1 y2 y3 y4
    unfold cross_Raised.l0
    repeat' first
    | (with_reducible exact ih0 _ _ _ _ _)
    | (with_reducible exact LeO.refl _)
    | (with_reducible exact LeO.none _)
    | (with_reducible refine LeO.ite ?_ ?_)
    | (with_reducible refine LeO.bind ?_ (fun _ => ?_))
    | exact ih0 _ _ _ _ _
    | exact LeO.none _
    | refine LeO.ite ?_ ?_
    | refine LeO.bind ?_ (fun _ => ?_)
theorem cross_Raised.mono : ∀ a0 a1 k, LeO (cross_Raised.f k a0 a1) (cross_Raised.f (k + 1) a0 a1) := by
 intro a0 a1 k
 have ih0 := cross_Raised.mono_l k
 unfold cross_Raised.f
 repeat' first
  | (with_reducible exact ih0 _ _ _ _ _)
  | (with_reducible exact LeO.refl _)
  | (with_reducible exact LeO.none _)
  | (with_reducible refine LeO.ite ?_ ?_)
  | (with_reducible refine LeO.bind ?_ (fun _ => ?_))
  | exact ih0 _ _ _ _ _
  | exact LeO.none _
  | refine LeO.ite ?_ ?_
  | refine LeO.bind ?_ (fun _ => ?_)
set_option maxHeartbeats 8000000 in
set_option maxRecDepth 100000 in
theorem cross_Raised.calls (k : Nat) (A0 : Option Addr) (c0 : Nat) (l0 : List Int) (A1 : Option Addr) (c1 : Nat) (l1 : List Int) (r : List Bool) (w : World) (hr0 : Kd.C (Kd.int .i64) w A0 l0.length l0) (hc0 : l0.length ≤ c0) (hr1 : Kd.C (Kd.int .i64) w A1 l1.length l1) (hc1 : l1.length ≤ c1) (h : cross_Raised.f k l0 l1 = some r) :
 Calls Tryz.prog 50 #[.slice A0 l0.length c0, .slice A1 l1.length c1] w fun e w' => ∃ v0_ : Value, e = .returned (v0_) ∧ Kd.R Kd.bool 4 w' w.heap.size (fun _ => True) v0_ r ∧ Below w.heap.size w w' := by
 have HR0 := Aside0.mk hr0
 have HC0 := Aside0.mk hc0
 clear hr0 hc0
 have HR1 := Aside0.mk hr1
 have HC1 := Aside0.mk hc1
 clear hr1 hc1
 have HB := Aside0.mk (Below.refl w.heap.size w)
 have H : (cross_Raised.l0 k l0 l1 ([] : List Bool) (mn (l0.length : Int) (l1.length : Int)) 0) = some r := h
 clear h
 obtain ⟨ji3, hji3⟩ : ∃ j_ : Int, (mn (l0.length : Int) (l1.length : Int)) = j_ := ⟨_, rfl⟩
 replace H : (cross_Raised.l0 k l0 l1 ([] : List Bool) ji3 0) = some r := by first | (rw [hji3] at H; exact H) | (simp only [hji3] at H ⊢; exact H)
 (try (have hji3l : 0 ≤ ji3 := by (rw [← hji3]; unfold mn; (repeat' split) <;> omega)))
 (try (have hji3m : 0 ≤ ji3 := by omega))
 have hji3_ : (if (l1.length : Int) < (l0.length : Int) then (l1.length : Int) else (l0.length : Int)) = ji3 := hji3
 have hji3n : (if l1.length < l0.length then (l1.length : Int) else (l0.length : Int)) = ji3 := by rw [← hji3_]; simp only [Int.ofNat_lt]
 have H' := Aside0.mk H
 clear H
 go_enter Tryz.func50, Tryz.ntmps50
 go_wp2
 go_loopg [5, 12] k (fun kq v5 v12 w' => ∃ (x5_1 : List Bool) (x12_1 : Int), v12 = .int .i64 x12_1 ∧ Aside0 (cross_Raised.l0 kq l0 l1 x5_1 ji3 x12_1 = some r) ∧ Aside0 (kq ≤ k) ∧ Aside0 (Kd.R Kd.bool 4 w' w.heap.size (fun _ => True) v5 x5_1) ∧ Aside0 (Below w.heap.size w w'))
 case atStart => exact ⟨(([] : List Bool)), (0), (by first | rfl | (simp; done) | (simp [*]; done)), H', ⟨Nat.le_refl _⟩, ⟨by first | exact Kd.R_nil _ _ _ _ _ | exact Kd.N_nil _ _ _ _ _ | exact Kd.V_nil _ _ _ _ _ | exact Kd.Q_nil _ _ _ _ _ | exact Kd.S_nil _ _ _ _ _⟩, ⟨by repeat (first | (with_reducible first | exact HB.out | apply below_alloc | apply pw_below_drewN | apply below_drew1) | exact HB.out)⟩⟩
 case round =>
  clear H'
  try clear c1
  try clear p2
  obtain ⟨x5_1, x12_1, rfl, HA, HK1, HO_5, HB⟩ := hrel
  cases gk with
  | zero => exact absurd HA.out (by simp [cross_Raised.l0])
  | succ k1 =>
   have H := HA.out
   clear HA
   simp only [cross_Raised.l0] at H
   by_cases c4 : x12_1 < ji3
   · rw [if_pos c4] at H
     have c4b0 : decide (x12_1 < ji3) = true := decide_eq_true c4
     clear c4
     by_cases c5 : 0 ≤ x12_1
     · rw [if_pos c5] at H
       have c5b0 : decide (0 ≤ x12_1) = true := decide_eq_true c5
       clear c5
       by_cases c6 : x12_1 < (l0.length : Int)
       · rw [if_pos c6] at H
         have c6b0 : decide (x12_1 < (l0.length : Int)) = true := decide_eq_true c6
         clear c6
         by_cases c7 : (rd l0 x12_1) ≤ 0
         · rw [if_pos c7] at H
           have c7b0 : decide ((rd l0 x12_1) ≤ 0) = true := decide_eq_true c7
           clear c7
           by_cases c8 : x12_1 < (l1.length : Int)
           · rw [if_pos c8] at H
             have c8b0 : decide (x12_1 < (l1.length : Int)) = true := decide_eq_true c8
             clear c8
             by_cases c9 : x5_1.length < 140737488355328
             · rw [if_pos c9] at H
               have LMc9 := Aside0.mk c9
               clear c9
               obtain ⟨y114, hy114⟩ : ∃ y_ : List Bool, y_ = (x5_1 ++ [decide ((rd l1 x12_1) > 0)]) := ⟨_, rfl⟩
               replace H : (cross_Raised.l0 k1 l0 l1 y114 ji3 (wrap64 (x12_1 + 1))) = some r := by first | (rw [hy114]; with_reducible exact H) | (have H2_ := (Option.bind_some _ _).symm.trans H; rw [hy114]; with_reducible exact H2_) | (have H2_ := (Option.bind_some _ _).symm.trans H; with_reducible exact H2_) | with_reducible exact H | (rw [hy114]; exact H) | exact H
               have Ny114 := Aside0.mk hy114
               clear hy114
               have H' := Aside0.mk H
               clear H
               have p112 : 0 ≤ (x12_1 : Int) := of_decide_eq_true (by first | (with_reducible assumption) | assumption)
               have q112 : x12_1 < (l0.length : Int) := of_decide_eq_true (by first | (with_reducible assumption) | assumption)
               obtain ⟨ad112, e112, hx112_0⟩ := Kd.at_int HR0.out x12_1 p112 q112
               cases e112
               replace hx112_0 := (HB.out.cell (World.block_lt_of_cell? w _ hx112_0)).trans hx112_0
               replace p112 := eq_true p112
               replace q112 := eq_true q112
               have p113 : 0 ≤ (x12_1 : Int) := of_decide_eq_true (by first | (with_reducible assumption) | assumption)
               have q113 : x12_1 < (l1.length : Int) := of_decide_eq_true (by first | (with_reducible assumption) | assumption)
               obtain ⟨ad113, e113, hx113_0⟩ := Kd.at_int HR1.out x12_1 p113 q113
               cases e113
               replace hx113_0 := (HB.out.cell (World.block_lt_of_cell? w _ hx113_0)).trans hx113_0
               replace p113 := eq_true p113
               replace q113 := eq_true q113
               go_wp2_with (first | ((with_reducible refine gate_builtin (b := .append) (xs := #[.tmp 15, .tmp 28]) rfl ?_); at_builtin; refine Kd.R_append Kd.bool (w0 := w) w.heap.size rfl (.tmp 15) (.tmp 28) 27 4 (.bool false) 1 rfl Tryz.underlying27 info4 rfl (by decide) (by omega) u5 x5_1 (decide ((rd l1 x12_1) > 0)) [.bool (decide ((rd l1 x12_1) > 0))] (fun _ => True) (fun _ => False) rfl rfl ?aP (fun _ hk => hk.elim) ?aF ?aO ?aB ?aS ?aL ?_; (case aP => exact rfl); (case aB => exact (by repeat (first | (with_reducible first | exact HB.out | apply below_alloc | apply pw_below_drewN | apply below_drew1) | exact HB.out))); (case aF => exact (fun _ _ => trivial)); (case aO => exact (by (with_reducible repeat (first | apply Kd.R_alloc | apply Kd.R_drewN | apply Kd.R_drew)); exact HO_5.out)); (case aS => exact (below_size (by repeat (first | (with_reducible first | exact HB.out | apply below_alloc | apply pw_below_drewN | apply below_drew1) | exact HB.out)))); (case aL => have := LMc9.out; omega); intro v115 w10 ho hb hg hat; rw [← Ny114.out] at ho; have n0_ := Aside0.mk (hb); have n1_ := Aside0.mk (ho); clear HB; clear HO_5; have HB := n0_; have HO116 := n1_; clear n0_ n1_; clear ho hb hg hat))
               go_roundg k1
               case measure => have := HK1.out; omega
               case rel => exact ⟨(y114), (wrap64 (x12_1 + 1)), (by first | rfl | (simp; done) | (simp [*]; done)), H', ⟨by have := HK1.out; omega⟩, ⟨by (with_reducible repeat (first | apply Kd.R_alloc | apply Kd.R_drewN | apply Kd.R_drew)); exact HO116.out⟩, ⟨by repeat (first | (with_reducible first | exact HB.out | apply below_alloc | apply pw_below_drewN | apply below_drew1) | exact HB.out)⟩⟩
             · rw [if_neg c9] at H
               exact absurd H (by simp)
           · rw [if_neg c8] at H
             exact absurd H (by simp)
         · rw [if_neg c7] at H
           have c7b0 : decide ((rd l0 x12_1) ≤ 0) = false := decide_eq_false c7
           clear c7
           by_cases c11 : x5_1.length < 140737488355328
           · rw [if_pos c11] at H
             have LMc11 := Aside0.mk c11
             clear c11
             obtain ⟨y117, hy117⟩ : ∃ y_ : List Bool, y_ = (x5_1 ++ [false]) := ⟨_, rfl⟩
             replace H : (cross_Raised.l0 k1 l0 l1 y117 ji3 (wrap64 (x12_1 + 1))) = some r := by first | (rw [hy117]; with_reducible exact H) | (have H2_ := (Option.bind_some _ _).symm.trans H; rw [hy117]; with_reducible exact H2_) | (have H2_ := (Option.bind_some _ _).symm.trans H; with_reducible exact H2_) | with_reducible exact H | (rw [hy117]; exact H) | exact H
             have Ny117 := Aside0.mk hy117
             clear hy117
             have H' := Aside0.mk H
             clear H
             have p112 : 0 ≤ (x12_1 : Int) := of_decide_eq_true (by first | (with_reducible assumption) | assumption)
             have q112 : x12_1 < (l0.length : Int) := of_decide_eq_true (by first | (with_reducible assumption) | assumption)
             obtain ⟨ad112, e112, hx112_0⟩ := Kd.at_int HR0.out x12_1 p112 q112
             cases e112
             replace hx112_0 := (HB.out.cell (World.block_lt_of_cell? w _ hx112_0)).trans hx112_0
             replace p112 := eq_true p112
             replace q112 := eq_true q112
             go_wp2_with (first | ((with_reducible refine gate_builtin (b := .append) (xs := #[.tmp 15, .tmp 28]) rfl ?_); at_builtin; refine Kd.R_append Kd.bool (w0 := w) w.heap.size rfl (.tmp 15) (.tmp 28) 27 4 (.bool false) 1 rfl Tryz.underlying27 info4 rfl (by decide) (by omega) u5 x5_1 false [.bool false] (fun _ => True) (fun _ => False) rfl rfl ?aP (fun _ hk => hk.elim) ?aF ?aO ?aB ?aS ?aL ?_; (case aP => exact rfl); (case aB => exact (by repeat (first | (with_reducible first | exact HB.out | apply below_alloc | apply pw_below_drewN | apply below_drew1) | exact HB.out))); (case aF => exact (fun _ _ => trivial)); (case aO => exact (by (with_reducible repeat (first | apply Kd.R_alloc | apply Kd.R_drewN | apply Kd.R_drew)); exact HO_5.out)); (case aS => exact (below_size (by repeat (first | (with_reducible first | exact HB.out | apply below_alloc | apply pw_below_drewN | apply below_drew1) | exact HB.out)))); (case aL => have := LMc11.out; omega); intro v118 w12 ho hb hg hat; rw [← Ny117.out] at ho; have n0_ := Aside0.mk (hb); have n1_ := Aside0.mk (ho); clear HB; clear HO_5; have HB := n0_; have HO119 := n1_; clear n0_ n1_; clear ho hb hg hat))
             go_roundg k1
             case measure => have := HK1.out; omega
             case rel => exact ⟨(y117), (wrap64 (x12_1 + 1)), (by first | rfl | (simp; done) | (simp [*]; done)), H', ⟨by have := HK1.out; omega⟩, ⟨by (with_reducible repeat (first | apply Kd.R_alloc | apply Kd.R_drewN | apply Kd.R_drew)); exact HO119.out⟩, ⟨by repeat (first | (with_reducible first | exact HB.out | apply below_alloc | apply pw_below_drewN | apply below_drew1) | exact HB.out)⟩⟩
           · rw [if_neg c11] at H
             exact absurd H (by simp)
       · rw [if_neg c6] at H
         exact absurd H (by simp)
     · rw [if_neg c5] at H
       exact absurd H (by simp)
   · rw [if_neg c4] at H
     have c4b0 : decide (x12_1 < ji3) = false := decide_eq_false c4
     clear c4
     obtain rfl := Option.some.inj H
     go_wp2
     go_ret
     exact ⟨_, by first | rfl | (simp [errW_none, errW_some] <;> rfl) | (simp only [← hji3]; first | rfl | (simp [errW_none, errW_some] <;> rfl)) | (simp [*, errW_none, errW_some] <;> rfl), by (with_reducible repeat (first | apply Kd.R_alloc | apply Kd.R_drewN | apply Kd.R_drew)); exact HO_5.out, by repeat (first | (with_reducible first | exact HB.out | apply below_alloc | apply pw_below_drewN | apply below_drew1) | exact HB.out)⟩

/-! ### slices_Index_bool_bool: function 146 -/
def slices_Index_bool_bool.l0 : Nat → List Bool → Bool → Int → Int → Option (Int)
 | 0, _, _, _, _ => none
 | k + 1, x0, x1, x7, x8 => if x8 < x7 then (if 0 ≤ x8 then (if x8 < (x0.length : Int) then (if (x1 == (rdOf false x0 x8)) = true then (some x8) else (slices_Index_bool_bool.l0 k x0 x1 x7 (wrap64 (x8 + 1)))) else (none)) else (none)) else (some (-1))
def slices_Index_bool_bool.f (k : Nat) (l0 : List Bool) (a1 : Bool) : Option (Int) := slices_Index_bool_bool.l0 k l0 a1 (l0.length : Int) 0
theorem slices_Index_bool_bool.mono_l : ∀ k, (∀ y0 y1 y2 y3, LeO (slices_Index_bool_bool.l0 k y0 y1 y2 y3) (slices_Index_bool_bool.l0 (k + 1) y0 y1 y2 y3))
 | 0 => fun _ _ _ _ r h => by simp [slices_Index_bool_bool.l0] at h
 | k + 1 => by
  have ih0 := slices_Index_bool_bool.mono_l k
  · intro y0 y1 y2 y3
    unfold slices_Index_bool_bool.l0
    repeat' first
    | (with_reducible exact ih0 _ _ _ _)
    | (with_reducible exact LeO.refl _)
    | (with_reducible exact LeO.none _)
    | (with_reducible refine LeO.ite ?_ ?_)
    | (with_reducible refine LeO.bind ?_ (fun _ => ?_))
    | exact ih0 _ _ _ _
    | exact LeO.none _
    | refine LeO.ite ?_ ?_
    | refine LeO.bind ?_ (fun _ => ?_)
theorem slices_Index_bool_bool.mono : ∀ a0 a1 k, LeO (slices_Index_bool_bool.f k a0 a1) (slices_Index_bool_bool.f (k + 1) a0 a1) := by
 intro a0 a1 k
 have ih0 := slices_Index_bool_bool.mono_l k
 unfold slices_Index_bool_bool.f
 repeat' first
  | (with_reducible exact ih0 _ _ _ _)
  | (with_reducible exact LeO.refl _)
  | (with_reducible exact LeO.none _)
  | (with_reducible refine LeO.ite ?_ ?_)
  | (with_reducible refine LeO.bind ?_ (fun _ => ?_))
  | exact ih0 _ _ _ _
  | exact LeO.none _
  | refine LeO.ite ?_ ?_
  | refine LeO.bind ?_ (fun _ => ?_)
set_option maxHeartbeats 8000000 in
set_option maxRecDepth 100000 in
theorem slices_Index_bool_bool.calls (k : Nat) (A0 : Option Addr) (c0 : Nat) (l0 : List Bool) (a1 : Bool) (r : Int) (w : World) (hr0 : Kd.C Kd.bool w A0 l0.length l0) (hc0 : l0.length ≤ c0) (h : slices_Index_bool_bool.f k l0 a1 = some r) :
 Calls Tryz.prog 146 #[.slice A0 l0.length c0, .bool a1] w fun e w' => e = .returned (.int .i64 r) ∧ Drawn0 w w' := by
 have HR0 := Aside0.mk hr0
 have HC0 := Aside0.mk hc0
 clear hr0 hc0
 have H : (slices_Index_bool_bool.l0 k l0 a1 (l0.length : Int) 0) = some r := h
 clear h
 have H' := Aside0.mk H
 clear H
 go_enter Tryz.func146, Tryz.ntmps146
 go_wp2
 go_loopg [8] k (fun kq v8 w' => ∃ (x8_1 : Int), v8 = .int .i64 x8_1 ∧ Aside0 (slices_Index_bool_bool.l0 kq l0 a1 (l0.length : Int) x8_1 = some r) ∧ Aside0 (kq ≤ k) ∧ Drawn0 w w')
 case atStart => exact ⟨(0), (by first | rfl | (simp; done) | (simp [*]; done)), H', ⟨Nat.le_refl _⟩, by repeat (first | exact Drawn0.refl _ | apply Drawn0.step)⟩
 case round =>
  clear H'
  try clear c1
  try clear p2
  obtain ⟨x8_1, rfl, HA, HK1, ⟨m1, rfl⟩⟩ := hrel
  cases gk with
  | zero => exact absurd HA.out (by simp [slices_Index_bool_bool.l0])
  | succ k1 =>
   have H := HA.out
   clear HA
   simp only [slices_Index_bool_bool.l0] at H
   by_cases c3 : x8_1 < (l0.length : Int)
   · rw [if_pos c3] at H
     have c3b0 : decide (x8_1 < (l0.length : Int)) = true := decide_eq_true c3
     clear c3
     by_cases c4 : 0 ≤ x8_1
     · rw [if_pos c4] at H
       have c4b0 : decide (0 ≤ x8_1) = true := decide_eq_true c4
       clear c4
       by_cases c5 : x8_1 < (l0.length : Int)
       · rw [if_pos c5] at H
         have c5b0 : decide (x8_1 < (l0.length : Int)) = true := decide_eq_true c5
         clear c5
         by_cases c6 : (a1 == (rdOf false l0 x8_1)) = true
         · rw [if_pos c6] at H
           have c6b0 : (a1 == (rdOf false l0 x8_1)) = true := c6
           (try (have c6b1 : decide (a1 = (rdOf false l0 x8_1)) = true := by simpa using c6))
           (try (have c6b2 : (a1 == (rdOf false l0 x8_1)) = true := by simpa using c6))
           clear c6
           obtain rfl := Option.some.inj H
           have p120 : 0 ≤ (x8_1 : Int) := of_decide_eq_true (by first | (with_reducible assumption) | assumption)
           have q120 : x8_1 < (l0.length : Int) := of_decide_eq_true (by first | (with_reducible assumption) | assumption)
           obtain ⟨ad120, e120, hx120_0⟩ := Kd.at_bool HR0.out x8_1 p120 q120
           cases e120
           replace p120 := eq_true p120
           replace q120 := eq_true q120
           go_wp2
           go_ret
           exact ⟨by first | rfl | (simp; done) | (simp [*]; done), by repeat (first | exact Drawn0.refl _ | apply Drawn0.step)⟩
         · rw [if_neg c6] at H
           have c6b0 : (a1 == (rdOf false l0 x8_1)) = false := by simpa using c6
           (try (have c6b1 : decide (a1 = (rdOf false l0 x8_1)) = false := by simpa using c6))
           (try (have c6b2 : (a1 == (rdOf false l0 x8_1)) = false := by simpa using c6))
           (try (have c6b3 : ¬ (a1 = (rdOf false l0 x8_1)) := by simpa using c6))
           clear c6
           have H' := Aside0.mk H
           clear H
           have p120 : 0 ≤ (x8_1 : Int) := of_decide_eq_true (by first | (with_reducible assumption) | assumption)
           have q120 : x8_1 < (l0.length : Int) := of_decide_eq_true (by first | (with_reducible assumption) | assumption)
           obtain ⟨ad120, e120, hx120_0⟩ := Kd.at_bool HR0.out x8_1 p120 q120
           cases e120
           replace p120 := eq_true p120
           replace q120 := eq_true q120
           go_wp2
           go_roundg k1
           case measure => have := HK1.out; omega
           case rel => exact ⟨(wrap64 (x8_1 + 1)), (by first | rfl | (simp; done) | (simp [*]; done)), H', ⟨by have := HK1.out; omega⟩, by repeat (first | exact Drawn0.refl _ | apply Drawn0.step)⟩
       · rw [if_neg c5] at H
         exact absurd H (by simp)
     · rw [if_neg c4] at H
       exact absurd H (by simp)
   · rw [if_neg c3] at H
     have c3b0 : decide (x8_1 < (l0.length : Int)) = false := decide_eq_false c3
     clear c3
     obtain rfl := Option.some.inj H
     go_wp2
     go_ret
     exact ⟨by first | rfl | (simp; done) | (simp [*]; done), by repeat (first | exact Drawn0.refl _ | apply Drawn0.step)⟩

/-! ### slices_Contains_bool_bool: function 85 -/
def slices_Contains_bool_bool.f (k : Nat) (l0 : List Bool) (a1 : Bool) : Option (Bool) := (slices_Index_bool_bool.f k l0 a1).bind fun t121 => (some (decide (t121 ≥ 0)))
theorem slices_Contains_bool_bool.mono : ∀ a0 a1 k, LeO (slices_Contains_bool_bool.f k a0 a1) (slices_Contains_bool_bool.f (k + 1) a0 a1) := by
 intro a0 a1 k
 unfold slices_Contains_bool_bool.f
 repeat' first
  | (with_reducible exact slices_Index_bool_bool.mono _ _ _)
  | (with_reducible exact LeO.refl _)
  | (with_reducible exact LeO.none _)
  | (with_reducible refine LeO.ite ?_ ?_)
  | (with_reducible refine LeO.bind ?_ (fun _ => ?_))
  | exact slices_Index_bool_bool.mono _ _ _
  | exact LeO.none _
  | refine LeO.ite ?_ ?_
  | refine LeO.bind ?_ (fun _ => ?_)
set_option maxHeartbeats 8000000 in
set_option maxRecDepth 100000 in
theorem slices_Contains_bool_bool.calls (k : Nat) (A0 : Option Addr) (c0 : Nat) (l0 : List Bool) (a1 : Bool) (r : Bool) (w : World) (hr0 : Kd.C Kd.bool w A0 l0.length l0) (hc0 : l0.length ≤ c0) (h : slices_Contains_bool_bool.f k l0 a1 = some r) :
 Calls Tryz.prog 85 #[.slice A0 l0.length c0, .bool a1] w fun e w' => e = .returned (.bool r) ∧ Drawn0 w w' := by
 have HR0 := Aside0.mk hr0
 have HC0 := Aside0.mk hc0
 clear hr0 hc0
 have H : ((slices_Index_bool_bool.f k l0 a1).bind fun t121 => (some (decide (t121 ≥ 0)))) = some r := h
 clear h
 replace H := Option.bind_eq_some_iff.mp H
 obtain ⟨t121, A30, H⟩ := H
 replace H : (some (decide (t121 ≥ 0))) = some r := H
 have A3 := Aside0.mk A30
 clear A30
 obtain rfl := Option.some.inj H
 go_enter Tryz.func85, Tryz.ntmps85
 go_wp2_with (first | ((with_reducible refine gate_callee (f := 146) rfl ?_); refine goesL_ (some 7) rfl rfl Tryz.func146 (by kernel_rfl) rfl #[.slice A0 l0.length c0, .bool a1] rfl (by (try simp only [List.map_toArray, List.map_cons, List.map_nil]); first | done | rfl | (simp only [List.length_drop, List.length_take]; rfl)) ?_; (with_reducible refine (slices_Index_bool_bool.calls k _ _ l0 a1 t121 _ ?side1 ?side2 A3.out).mono ?_); (case side1 => repeat (first | exact HR0.out | (with_reducible refine Kd.C_alloc ?_ _) | (with_reducible refine Kd.C_drewN ?_ _) | (with_reducible refine Kd.C_drew ?_))); (case side2 => exact HC0.out); rintro e w' ⟨rfl, ⟨nd, rfl⟩⟩; refine ⟨_, rfl, ?_⟩))
 go_ret
 exact ⟨by first | rfl | (simp; done) | (simp [*]; done), by repeat (first | exact Drawn0.refl _ | apply Drawn0.step)⟩

/-! ### cross_Any: function 51 -/
def cross_Any.f (k : Nat) (l0 : List Bool) : Option (Bool) := (slices_Contains_bool_bool.f k l0 true).bind fun t122 => (some t122)
theorem cross_Any.mono : ∀ a0 k, LeO (cross_Any.f k a0) (cross_Any.f (k + 1) a0) := by
 intro a0 k
 unfold cross_Any.f
 repeat' first
  | (with_reducible exact slices_Contains_bool_bool.mono _ _ _)
  | (with_reducible exact LeO.refl _)
  | (with_reducible exact LeO.none _)
  | (with_reducible refine LeO.ite ?_ ?_)
  | (with_reducible refine LeO.bind ?_ (fun _ => ?_))
  | exact slices_Contains_bool_bool.mono _ _ _
  | exact LeO.none _
  | refine LeO.ite ?_ ?_
  | refine LeO.bind ?_ (fun _ => ?_)
set_option maxHeartbeats 8000000 in
set_option maxRecDepth 100000 in
theorem cross_Any.calls (k : Nat) (A0 : Option Addr) (c0 : Nat) (l0 : List Bool) (r : Bool) (w : World) (hr0 : Kd.C Kd.bool w A0 l0.length l0) (hc0 : l0.length ≤ c0) (h : cross_Any.f k l0 = some r) :
 Calls Tryz.prog 51 #[.slice A0 l0.length c0] w fun e w' => e = .returned (.bool r) ∧ Drawn0 w w' := by
 have HR0 := Aside0.mk hr0
 have HC0 := Aside0.mk hc0
 clear hr0 hc0
 have H : ((slices_Contains_bool_bool.f k l0 true).bind fun t122 => (some t122)) = some r := h
 clear h
 replace H := Option.bind_eq_some_iff.mp H
 obtain ⟨t122, A20, H⟩ := H
 replace H : (some t122) = some r := H
 have A2 := Aside0.mk A20
 clear A20
 obtain rfl := Option.some.inj H
 go_enter Tryz.func51, Tryz.ntmps51
 go_wp2_with (first | ((with_reducible refine gate_callee (f := 85) rfl ?_); refine goesL_ (some 4) rfl rfl Tryz.func85 (by kernel_rfl) rfl #[.slice A0 l0.length c0, .bool true] rfl (by (try simp only [List.map_toArray, List.map_cons, List.map_nil]); first | done | rfl | (simp only [List.length_drop, List.length_take]; rfl)) ?_; (with_reducible refine (slices_Contains_bool_bool.calls k _ _ l0 true t122 _ ?side1 ?side2 A2.out).mono ?_); (case side1 => repeat (first | exact HR0.out | (with_reducible refine Kd.C_alloc ?_ _) | (with_reducible refine Kd.C_drewN ?_ _) | (with_reducible refine Kd.C_drew ?_))); (case side2 => exact HC0.out); rintro e w' ⟨rfl, ⟨nd, rfl⟩⟩; refine ⟨_, rfl, ?_⟩))
 go_ret
 exact ⟨by first | rfl | (simp; done) | (simp [*]; done), by repeat (first | exact Drawn0.refl _ | apply Drawn0.step)⟩

end Go.Proofs.YtgalkkolbobmbaaGreat.X


namespace Go.Proofs.YtgalkkolbobmbaaGreat.Pure
open Go.RowKit Go.Proofs.YtgalkkolbobmbaaGreat.X Go.Proofs.YtgalkkolbobmbaaGreatW.PrintWords Go.Proofs.YtgalkkolbobmbaaGreatW.PrintLast
set_option linter.unusedVariables false

theorem wrap_up {i n : Nat} (h : i < n) (hn : n ≤ 140737488355328) : wrap64 ((i : Int) + 1) = ((i + 1 : Nat) : Int) := by
 simp only [wrap64]; omega
def raisV (l0 l1 : List Int) : Nat → List Bool
 | 0 => []
 | n + 1 => raisV l0 l1 n ++ [decide (rd l0 (n : Int) ≤ 0) && decide (rd l1 (n : Int) > 0)]
theorem raisV_length (l0 l1 : List Int) : ∀ n, (raisV l0 l1 n).length = n
 | 0 => rfl
 | n + 1 => by simp [raisV, raisV_length l0 l1 n]
theorem cross_loop (l0 l1 : List Int) (M : Nat) (h0 : M ≤ l0.length) (h1 : M ≤ l1.length) (hM : M ≤ 300) : ∀ (d i : Nat), i + d = M →
 Ev (fun K => cross_Raised.l0 K l0 l1 (raisV l0 l1 i) (M : Int) (i : Int)) (raisV l0 l1 M)
 | 0, i, hi => by
  obtain rfl : i = M := by omega
  exact Ev.step (f := fun _ => some (raisV l0 l1 i)) (fun k => by simp only [cross_Raised.l0]; rw [if_neg (by omega)]) (Ev.now _)
 | d + 1, i, hi => by
  have hL := raisV_length l0 l1 i
  refine Ev.step (fun k => ?_) (cross_loop l0 l1 M h0 h1 hM d (i + 1) (by omega))
  simp only [cross_Raised.l0]
  rw [if_pos (by omega), if_pos (by omega), if_pos (by omega), wrap_up (n := M) (by omega) (by omega)]
  by_cases c : rd l0 (i : Int) ≤ 0
  · rw [if_pos c, if_pos (by omega), if_pos (by omega)]
    simp only [raisV, decide_eq_true c, Bool.true_and]
  · rw [if_neg c, if_pos (by omega)]
    simp only [raisV, decide_eq_false c, Bool.false_and]
end Go.Proofs.YtgalkkolbobmbaaGreat.Pure


namespace Go.Proofs.YtgalkkolbobmbaaGreat.V
open Go.RowKit Go.Proofs.YtgalkkolbobmbaaGreatW.PrintWords Go.Proofs.YtgalkkolbobmbaaGreatW.PrintLast Go.Proofs.YtgalkkolbobmbaaGreatW.PrintMore
set_option linter.unusedVariables false
set_option linter.unusedSimpArgs false
theorem rdOf_nat (l : List Bool) (i : Nat) (h : i < l.length) : rdOf false l (i : Int) = l[i] := by
 unfold rdOf
 rw [Int.toNat_natCast, List.getD_eq_getElem?_getD, List.getElem?_eq_getElem h, Option.getD_some]
def anyV (l : List Bool) : Bool := l.any id
theorem anyV_iff {l : List Bool} : anyV l = true ↔ ∃ j : Nat, j < l.length ∧ rdOf false l (j : Int) = true := by
 unfold anyV
 rw [List.any_eq_true]
 constructor
 · rintro ⟨x, hx, h⟩
   obtain ⟨j, hj, rfl⟩ := List.getElem_of_mem hx
   exact ⟨j, hj, by rw [rdOf_nat l j hj]; exact h⟩
 · rintro ⟨j, hj, h⟩
   rw [rdOf_nat l j hj] at h
   exact ⟨l[j], List.getElem_mem hj, h⟩
theorem index_loop (l : List Bool) (hl : l.length ≤ 300) : ∀ (d i : Nat), i + d = l.length →
 ∃ r : Int, Ev (fun K => X.slices_Index_bool_bool.l0 K l true (l.length : Int) (i : Int)) r ∧ (r ≥ 0 ↔ ∃ j : Nat, i ≤ j ∧ j < l.length ∧ rdOf false l (j : Int) = true)
 | 0, i, hi => ⟨-1, Ev.step (f := fun _ => some (-1)) (fun k => by simp only [X.slices_Index_bool_bool.l0]; rw [if_neg (by omega)]) (Ev.now _), ⟨fun h => absurd h (by omega), fun ⟨j, h1, h2, _⟩ => by omega⟩⟩
 | d + 1, i, hi => by
  by_cases c : rdOf false l (i : Int) = true
  · refine ⟨(i : Int), Ev.step (f := fun _ => some (i : Int)) (fun k => ?_) (Ev.now _), ⟨fun _ => ⟨i, Nat.le_refl _, by omega, c⟩, fun _ => by omega⟩⟩
    simp only [X.slices_Index_bool_bool.l0]
    rw [if_pos (by omega), if_pos (by omega), if_pos (by omega), if_pos (by rw [c]; rfl)]
  · obtain ⟨r, h1, h2⟩ := index_loop l hl d (i + 1) (by omega)
    refine ⟨r, Ev.step (fun k => ?_) h1, h2.trans ⟨fun ⟨j, q1, q2, q3⟩ => ⟨j, by omega, q2, q3⟩, fun ⟨j, q1, q2, q3⟩ => ⟨j, ?_, q2, q3⟩⟩⟩
    · simp only [X.slices_Index_bool_bool.l0]
      rw [if_pos (by omega), if_pos (by omega), if_pos (by omega), if_neg (by rw [Bool.eq_false_iff.mpr c]; decide), Pure.wrap_up (n := l.length) (by omega) (by omega)]
    · by_cases e : j = i
      · subst e; exact absurd q3 c
      · omega
theorem any_ev (l : List Bool) (hl : l.length ≤ 300) : Ev (fun K => X.cross_Any.f K l) (anyV l) := by
 obtain ⟨r, h1, h2⟩ := index_loop l hl l.length 0 (Nat.zero_add _)
 have e : anyV l = decide (r ≥ 0) := by
  rw [Bool.eq_iff_iff, anyV_iff, decide_eq_true_iff, h2]
  exact ⟨fun ⟨j, a, b⟩ => ⟨j, by omega, a, b⟩, fun ⟨j, _, a, b⟩ => ⟨j, a, b⟩⟩
 rw [e]
 exact Ev.congr (f := fun K => ((X.slices_Index_bool_bool.l0 K l true (l.length : Int) 0).bind fun t121 => (some (decide (t121 ≥ 0)))).bind fun t122 => some t122) (fun K => by unfold X.cross_Any.f X.slices_Contains_bool_bool.f X.slices_Index_bool_bool.f; rfl) (Ev.bind (Ev.bind h1 (Ev.now _)) (Ev.now _))
theorem raised_ev {l0 l1 : List Int} {M : Nat} (h0 : l0.length = M) (h1 : l1.length = M) (hM : M ≤ 300) : Ev (fun K => X.cross_Raised.f K l0 l1) (Pure.raisV l0 l1 M) :=
 Ev.congr (fun K => by unfold X.cross_Raised.f; rw [show mn (l0.length : Int) (l1.length : Int) = (M : Int) by unfold mn; split <;> omega]; rfl) (Pure.cross_loop l0 l1 M (by omega) (by omega) hM M 0 (by omega))
/-- What is between two lists. -/
def betL (a b : List Int) (part k : Int) : List Int := Q.betV a b part k a.length
theorem bet_len (a b : List Int) (part k : Int) : (betL a b part k).length = a.length := Q.betV_length _ _ _ _ _
theorem betV_in (a b : List Int) (part k : Int) : ∀ n, AllIn (Q.betV a b part k n)
 | 0 => fun x hx => by cases hx
 | n + 1 => fun x hx => by
  unfold Q.betV at hx
  rcases List.mem_append.1 hx with hx | hx
  · exact betV_in a b part k n x hx
  · rw [List.mem_singleton.1 hx]; exact Q.sat_bd _
theorem bet_in (a b : List Int) (part k : Int) : AllIn (betL a b part k) := betV_in _ _ _ _ _
theorem bet_ev {a b : List Int} {part k : Int} (ha : AllIn a) (hb : AllIn b) (hl : a.length = b.length) (hs : a.length ≤ 35184372088832) : Ev (fun K => Q.heun_Between.f K a b part k) (betL a b part k, Q.betF a b part k a.length) :=
 Q.between_ev a b part k ha hb hl hs
/-- What is raised at a part. -/
def rsAt (o : S26) (inn mem a b : List Int) (k part : Int) : List Bool := Pure.raisV (zeroR o inn a mem).put (zeroR o inn (betL a b part k) mem).put o.f4.toNat
/-- The flags when a part was looked at. -/
def atF (o : S26) (inn mem a b : List Int) (k part fl : Int) : Int := bits BinOp.or IntKind.i64 fl (bits BinOp.or IntKind.i64 (Q.betF a b part k a.length) (zeroR o inn (betL a b part k) mem).fl)
/-- What is found between two parts, of which none is raised at the lower one and one at the higher one; the flags; what was done. -/
def bisW (o : S26) (inn mem a b : List Int) (k : Int) : Nat → Int → Int → Int → Int → Int × Int × Int
 | 0, _, high, fl, dn => (high, fl, dn)
 | d + 1, low, high, fl, dn => if anyV (rsAt o inn mem a b k ((low + high) / 2)) = true then bisW o inn mem a b k d low ((low + high) / 2) (atF o inn mem a b k ((low + high) / 2) fl) (dn + o.f7.length) else bisW o inn mem a b k d ((low + high) / 2) high (atF o inn mem a b k ((low + high) / 2) fl) (dn + o.f7.length)
theorem bis_succ (o : S26) (inn mem a b : List Int) (k : Int) (d : Nat) (low high fl dn : Int) : bisW o inn mem a b k (d + 1) low high fl dn = if anyV (rsAt o inn mem a b k ((low + high) / 2)) = true then bisW o inn mem a b k d low ((low + high) / 2) (atF o inn mem a b k ((low + high) / 2) fl) (dn + o.f7.length) else bisW o inn mem a b k d ((low + high) / 2) high (atF o inn mem a b k ((low + high) / 2) fl) (dn + o.f7.length) := rfl
def fHigh (K : Nat) : Int := ((2 ^ K : Nat) : Int)
/-- What Find finds: the part, the flags, what was done. -/
def findW (o : S26) (inn mem a b : List Int) (K : Nat) (dn : Int) : Int × Int × Int :=
 if anyV (rsAt o inn mem a b (K : Int) (fHigh K)) = true then bisW o inn mem a b (K : Int) K 0 (fHigh K) (atF o inn mem a b (K : Int) (fHigh K) (zeroR o inn a mem).fl) (dn + o.f7.length + o.f7.length)
 else (fHigh K, atF o inn mem a b (K : Int) (fHigh K) (zeroR o inn a mem).fl, dn + o.f7.length + o.f7.length)
def findS (o : S26) (inn mem a b : List Int) (K : Nat) : List Int := if anyV (rsAt o inn mem a b (K : Int) (fHigh K)) = true then betL a b (findW o inn mem a b K 0).1 (K : Int) else b
theorem bis_dn (o : S26) (inn mem a b : List Int) (k : Int) : ∀ (d : Nat) (low high fl dn : Int), (bisW o inn mem a b k d low high fl dn).2.2 = dn + d * o.f7.length ∧ ∀ e, (bisW o inn mem a b k d low high fl e).1 = (bisW o inn mem a b k d low high fl dn).1 ∧ (bisW o inn mem a b k d low high fl e).2.1 = (bisW o inn mem a b k d low high fl dn).2.1
 | 0, low, high, fl, dn => ⟨by simp [bisW], fun e => ⟨rfl, rfl⟩⟩
 | d + 1, low, high, fl, dn => by
  unfold bisW
  split
  · obtain ⟨h1, h2⟩ := bis_dn o inn mem a b k d low ((low + high) / 2) (atF o inn mem a b k ((low + high) / 2) fl) (dn + o.f7.length)
    exact ⟨by rw [h1, Int.natCast_add, Int.add_mul]; omega, fun e => h2 _⟩
  · obtain ⟨h1, h2⟩ := bis_dn o inn mem a b k d ((low + high) / 2) high (atF o inn mem a b k ((low + high) / 2) fl) (dn + o.f7.length)
    exact ⟨by rw [h1, Int.natCast_add, Int.add_mul]; omega, fun e => h2 _⟩

/-- A list of truths of later blocks than b. -/
structure NwB (b : Nat) (w : World) (A : Option Addr) (l : List Bool) : Prop where
 c : Kd.C Kd.bool w A l.length l
 ge : ∀ ad, A = some ad → 0 < l.length → b ≤ ad.block
theorem NwB.chg {b : Nat} {w w' : World} {A : Option Addr} {l : List Bool} {T : Nat → Prop} (h : NwB b w A l) (hc : Chg T w w') (hT : ∀ k, T k → k < b) : NwB b w' A l :=
 ⟨C_keep h.c (fun ad ha hp ht => by have := h.ge ad ha hp; have := hT _ ht; omega) hc (fun _ _ hk => hk), h.ge⟩
theorem NwB.lower {b c : Nat} {w : World} {A : Option Addr} {l : List Bool} (h : NwB b w A l) (hc : c ≤ b) : NwB c w A l := ⟨h.c, fun ad ha hp => Nat.le_trans hc (h.ge ad ha hp)⟩
theorem Nw.lower {b c : Nat} {w : World} {A : Option Addr} {l : List Int} (h : Nw b w A l) (hc : c ≤ b) : Nw c w A l := ⟨h.c, fun ad ha hp => Nat.le_trans hc (h.ge ad ha hp)⟩
theorem NwB.of_R' {e base : Nat} {w : World} {ok : Nat → Prop} {v : Value} {l : List Bool} (h : Kd.bool.R e w base ok v l) : ∃ A c, v = .slice A l.length c ∧ l.length ≤ c ∧ NwB base w A l := by
 obtain ⟨A, c, hv, hl, hC, hn⟩ := R_list (Kd.R_mono (Kd.R_bound h) (ok' := fun k => base ≤ k) (fun _ hk => hk.2.1))
 exact ⟨A, c, hv, hl, hC, hn⟩
/-- A machine since a world w0: whatever is made later lies apart from it. -/
def MachAt (w0 : World) (n Bm : Nat) (o : S26) (dn : Int) (w : World) : Prop := ∃ cs v0 v1 v2 v3 v6 v7 v8 v9 d0, Mach n Bm cs v0 v1 v2 v3 v6 v7 v8 v9 o.f0 o.f1 o.f2 o.f3 o.f4 o.f5 o.f6 o.f7 o.f8 o.f9 d0 w0 ∧
 w.heap[Bm]? = some (.cells (cs.setIfInBounds 34 (.int .i64 dn)) 112 (0, 0)) ∧ Chg (fun k => k = Bm) w0 w
theorem MachAt.start {n Bm : Nat} {o : S26} {dn : Int} {w : World} (h : MachO n Bm o dn w) : MachAt w n Bm o dn w := by
 obtain ⟨cs, v0, v1, v2, v3, v6, v7, v8, v9, hM⟩ := h
 exact ⟨cs, v0, v1, v2, v3, v6, v7, v8, v9, dn, hM, hM.blk, Chg.refl _ _⟩
theorem MachAt.mach {w0 : World} {n Bm : Nat} {o : S26} {dn : Int} {w : World} (h : MachAt w0 n Bm o dn w) : MachO n Bm o dn w := by
 obtain ⟨cs, v0, v1, v2, v3, v6, v7, v8, v9, d0, hM, hb, hc⟩ := h
 exact ⟨cs, v0, v1, v2, v3, v6, v7, v8, v9, hM.chg hc hb⟩
theorem MachAt.blk {w0 : World} {n Bm : Nat} {o : S26} {dn : Int} {w : World} (h : MachAt w0 n Bm o dn w) : n ≤ Bm ∧ Bm < w0.heap.size ∧ w0.heap.size ≤ w.heap.size := by
 obtain ⟨cs, v0, v1, v2, v3, v6, v7, v8, v9, d0, hM, hb, hc⟩ := h
 exact ⟨hM.lo, lt_of_block hM.blk, hc.size⟩
theorem MachAt.chg {w0 : World} {n Bm : Nat} {o : S26} {dn : Int} {w w' : World} {S : Nat → Prop} (h : MachAt w0 n Bm o dn w) (hc' : Chg S w w') (hS : ∀ i, S i → i ≠ Bm ∧ w0.heap.size ≤ i) : MachAt w0 n Bm o dn w' := by
 obtain ⟨cs, v0, v1, v2, v3, v6, v7, v8, v9, d0, hM, hb, hc⟩ := h
 exact ⟨cs, v0, v1, v2, v3, v6, v7, v8, v9, d0, hM, (hc'.block _ (lt_of_block hb) (fun hk => (hS _ hk).1 rfl)).trans hb, hc.then_ hc' (fun i hi => .inr (hS i hi).2)⟩
theorem MachAt.below {w0 : World} {n Bm : Nat} {o : S26} {dn : Int} {w w' : World} (h : MachAt w0 n Bm o dn w) (hb : Below w.heap.size w w') : MachAt w0 n Bm o dn w' :=
 h.chg (Chg.of_below hb (fun _ => False)) (fun _ hi => hi.elim)
theorem MachAt.cell {w0 : World} {n Bm : Nat} {o : S26} {dn : Int} {w : World} (h : MachAt w0 n Bm o dn w) : ∃ c, w.heap[Bm]? = some (.cells c 112 (0, 0)) := by
 obtain ⟨cs, v0, v1, v2, v3, v6, v7, v8, v9, d0, hM, hb, hc⟩ := h
 exact ⟨_, hb⟩
theorem zero_at {w0 : World} {n Bm : Nat} {o : S26} {dn : Int} {w : World} (h : MachAt w0 n Bm o dn w) (G : Good o) (Ai As Am : Option Addr) (ci cs' cm : Nat) (inn st mem : List Int) (hi : LI Bm w Ai inn) (hs : LI Bm w As st) (hm : LI Bm w Am mem)
 (hf : Fits o inn st mem) (ai : AllIn inn) (ais : AllIn st) (am : AllIn mem) (hd0 : 0 ≤ dn) (hd1 : dn ≤ 100000000000) :
 Calls Tryz.prog 30 #[.pointer (some ⟨Bm, 0, none⟩), .slice Ai inn.length ci, .slice As st.length cs', .slice Am mem.length cm] w fun e w' => ∃ v, e = .returned (.tuple #[v, .int .i64 (zeroR o inn st mem).fl, .int .i64 0]) ∧
  Kd.R (Kd.int .i64) 2 w' w.heap.size (fun k => k ≠ Bm) v (zeroR o inn st mem).put ∧ MachAt w0 n Bm o (dn + o.f7.length) w' ∧ Chg (fun k => k = Bm) w w' := by
 obtain ⟨cs, v0, v1, v2, v3, v6, v7, v8, v9, d0, hM, hb', hc'⟩ := h
 obtain ⟨e1, e2, e3⟩ := nr_ready G
 have hb := right_bounds G.right
 obtain ⟨-, -, hr⟩ := zeroR_run G hf ai ais am
 refine (zero_any (hM.chg hc' hb') opV (opsForV cs) 4001 (nrO o) Ai As Am ci cs' cm inn st mem hi hs hm hf e1 e2 e3 hb.2.2.2.2.1 (by omega) _ _ (hr dn hd0 hd1)).mono ?_
 rintro e w' ⟨v, he, hR, hM', hc⟩
 exact ⟨v, he, hR, ⟨cs, v0, v1, v2, v3, v6, v7, v8, v9, d0, hM, hM'.blk, hc'.then_ hc (fun i hi => .inl hi)⟩, hc⟩
/-- A list of blocks below n, none of them Bm. -/
structure Ld (Bm n : Nat) (w : World) (A : Option Addr) (l : List Int) : Prop where
 c : Kd.C (Kd.int .i64) w A l.length l
 ok : ∀ ad, A = some ad → 0 < l.length → ad.block ≠ Bm ∧ ad.block < n
/-- What Find's closure works on. -/
structure FW (w0 : World) (n Bm Ba Bb Bk B6 B7 B8 B15 B16 : Nat) (o : S26) (Aa Ab Ai Am Az : Option Addr) (ca cb ci cm cz : Nat) (a b inn mem z : List Int) (k fl dn : Int) (w : World) : Prop where
 pa : w.heap[Ba]? = some (.cells #[.slice Aa a.length ca] 23 (0, 0))
 pb : w.heap[Bb]? = some (.cells #[.slice Ab b.length cb] 23 (0, 0))
 pk : w.heap[Bk]? = some (.cells #[.int .i64 k] 3 (0, 0))
 p6 : w.heap[B6]? = some (.cells #[.pointer (some ⟨Bm, 0, none⟩)] 31 (0, 0))
 p7 : w.heap[B7]? = some (.cells #[.slice Ai inn.length ci] 23 (0, 0))
 p8 : w.heap[B8]? = some (.cells #[.slice Am mem.length cm] 23 (0, 0))
 pz : w.heap[B15]? = some (.cells #[.slice Az z.length cz] 23 (0, 0))
 p16 : w.heap[B16]? = some (.cells #[.int .i64 fl] 3 (0, 0))
 nk : Bk ≠ B16
 n16 : w0.heap.size ≤ B16
 ca' : a.length ≤ ca
 cb' : b.length ≤ cb
 cz' : z.length ≤ cz
 la : Ld Bm w0.heap.size w Aa a
 lb : Ld Bm w0.heap.size w Ab b
 li : Ld Bm w0.heap.size w Ai inn
 lm : Ld Bm w0.heap.size w Am mem
 lz : Kd.C (Kd.int .i64) w Az z.length z
 nz : ∀ ad, Az = some ad → 0 < z.length → ad.block ≠ Bm ∧ ad.block ≠ B16
 M : MachAt w0 n Bm o dn w
theorem ty_ne {w : World} {i j : Nat} {x y : Array Value} {s t : Nat} (h : w.heap[i]? = some (.cells x s (0, 0))) (k : w.heap[j]? = some (.cells y t (0, 0))) (hn : s ≠ t) : i ≠ j := by
 rintro rfl
 rw [h] at k
 injection k with k
 injection k with _ k
 exact hn k
theorem Ld.chg {Bm n : Nat} {w w' : World} {A : Option Addr} {l : List Int} {S : Nat → Prop} (h : Ld Bm n w A l) (hc : Chg S w w') (hS : ∀ k, S k → k = Bm ∨ n ≤ k) : Ld Bm n w' A l :=
 ⟨C_keep h.c (fun ad ha hp hs => by have := h.ok ad ha hp; have := hS _ hs; omega) hc (fun _ _ hk => hk), h.ok⟩
theorem Ld.LI {Bm n : Nat} {w : World} {A : Option Addr} {l : List Int} (h : Ld Bm n w A l) : LI Bm w A l := ⟨h.c, fun ad ha hp => (h.ok ad ha hp).1⟩
theorem LI.Ld {Bm : Nat} {w : World} {A : Option Addr} {l : List Int} (h : LI Bm w A l) : Ld Bm w.heap.size w A l := ⟨h.c, fun ad ha hp => ⟨h.ne ad ha hp, by
 have hc := h.c
 rw [ha] at hc
 exact C_lt hc hp (by decide)⟩⟩
section
variable {w0 : World} {n Bm Ba Bb Bk B6 B7 B8 B15 B16 : Nat} {o : S26} {Aa Ab Ai Am Az : Option Addr} {ca cb ci cm cz : Nat} {a b inn mem z : List Int} {k fl dn : Int} {w w' : World}
theorem FW.chg {fl' dn' : Int} (h : FW w0 n Bm Ba Bb Bk B6 B7 B8 B15 B16 o Aa Ab Ai Am Az ca cb ci cm cz a b inn mem z k fl dn w) (hc : Chg (fun i => i = Bm ∨ i = B16) w w') (hf : w'.heap[B16]? = some (.cells #[.int .i64 fl'] 3 (0, 0))) (hM : MachAt w0 n Bm o dn' w') :
 FW w0 n Bm Ba Bb Bk B6 B7 B8 B15 B16 o Aa Ab Ai Am Az ca cb ci cm cz a b inn mem z k fl' dn' w' := by
 obtain ⟨c, hm⟩ := h.M.cell
 have keep : ∀ {i : Nat} {x : Obj}, w.heap[i]? = some x → i ≠ Bm → i ≠ B16 → w'.heap[i]? = some x := fun hx h1 h2 => (hc.block _ (lt_of_block hx) (fun hk => by rcases hk with hk | hk; exact h1 hk; exact h2 hk)).trans hx
 have hS : ∀ i, (i = Bm ∨ i = B16) → i = Bm ∨ w0.heap.size ≤ i := fun i hi => by
  rcases hi with rfl | rfl
  · exact .inl rfl
  · exact .inr h.n16
 exact ⟨keep h.pa (ty_ne h.pa hm (by decide)) (ty_ne h.pa h.p16 (by decide)), keep h.pb (ty_ne h.pb hm (by decide)) (ty_ne h.pb h.p16 (by decide)), keep h.pk (ty_ne h.pk hm (by decide)) h.nk,
  keep h.p6 (ty_ne h.p6 hm (by decide)) (ty_ne h.p6 h.p16 (by decide)), keep h.p7 (ty_ne h.p7 hm (by decide)) (ty_ne h.p7 h.p16 (by decide)), keep h.p8 (ty_ne h.p8 hm (by decide)) (ty_ne h.p8 h.p16 (by decide)),
  keep h.pz (ty_ne h.pz hm (by decide)) (ty_ne h.pz h.p16 (by decide)), hf, h.nk, h.n16, h.ca', h.cb', h.cz', h.la.chg hc hS, h.lb.chg hc hS, h.li.chg hc hS, h.lm.chg hc hS,
  C_keep h.lz (fun ad ha hp hs => by rcases hs with hs | hs; exact (h.nz ad ha hp).1 hs; exact (h.nz ad ha hp).2 hs) hc (fun _ _ hk => hk), h.nz, hM⟩
theorem FW.below (h : FW w0 n Bm Ba Bb Bk B6 B7 B8 B15 B16 o Aa Ab Ai Am Az ca cb ci cm cz a b inn mem z k fl dn w) (hb : Below w.heap.size w w') : FW w0 n Bm Ba Bb Bk B6 B7 B8 B15 B16 o Aa Ab Ai Am Az ca cb ci cm cz a b inn mem z k fl dn w' :=
 h.chg (Chg.of_below hb _) ((hb.block _ (lt_of_block h.p16)).trans h.p16) (h.M.below hb)
theorem FW.far {fl0 dn0 : Int} {wa : World} {S : Nat → Prop} (h : FW w0 n Bm Ba Bb Bk B6 B7 B8 B15 B16 o Aa Ab Ai Am Az ca cb ci cm cz a b inn mem z k fl dn w) (h0 : FW w0 n Bm Ba Bb Bk B6 B7 B8 B15 B16 o Aa Ab Ai Am Az ca cb ci cm cz a b inn mem z k fl0 dn0 wa) (hc : Chg S w w') (hS : ∀ i, S i → wa.heap.size ≤ i) :
 FW w0 n Bm Ba Bb Bk B6 B7 B8 B15 B16 o Aa Ab Ai Am Az ca cb ci cm cz a b inn mem z k fl dn w' := by
 have hm := h0.M.blk
 have keep : ∀ {i : Nat} {x : Obj}, w.heap[i]? = some x → i < wa.heap.size → w'.heap[i]? = some x := fun hx h1 => (hc.block _ (lt_of_block hx) (fun hk => by have := hS _ hk; omega)).trans hx
 have hn : ∀ i, S i → i = Bm ∨ w0.heap.size ≤ i := fun i hi => .inr (by have := hS i hi; omega)
 exact ⟨keep h.pa (lt_of_block h0.pa), keep h.pb (lt_of_block h0.pb), keep h.pk (lt_of_block h0.pk), keep h.p6 (lt_of_block h0.p6), keep h.p7 (lt_of_block h0.p7), keep h.p8 (lt_of_block h0.p8), keep h.pz (lt_of_block h0.pz), keep h.p16 (lt_of_block h0.p16), h.nk, h.n16, h.ca', h.cb', h.cz',
  h.la.chg hc hn, h.lb.chg hc hn, h.li.chg hc hn, h.lm.chg hc hn, C_keep h.lz (fun ad ha hp hs => by
   have hz := h0.lz
   rw [ha] at hz
   have := C_lt hz hp (by decide)
   have := hS _ hs
   omega) hc (fun _ _ hk => hk), h.nz, h.M.chg hc (fun i hi => by have := hS i hi; omega)⟩
end
set_option maxHeartbeats 4000000 in
set_option maxRecDepth 100000 in
theorem fat_any {w0 : World} {n Bm Ba Bb Bk B6 B7 B8 B15 B16 : Nat} {o : S26} {Aa Ab Ai Am Az : Option Addr} {ca cb ci cm cz : Nat} {a b inn mem : List Int} {k fl dn : Int} {w : World}
 (h : FW w0 n Bm Ba Bb Bk B6 B7 B8 B15 B16 o Aa Ab Ai Am Az ca cb ci cm cz a b inn mem (zeroR o inn a mem).put k fl dn w) (G : Good o) (part : Int) (hf : Fits o inn a mem) (hl : a.length = b.length) (aa : AllIn a) (ab : AllIn b) (ai : AllIn inn) (am : AllIn mem) (hd0 : 0 ≤ dn) (hd1 : dn ≤ 100000000000) :
 Calls Tryz.prog 86 #[.int .i64 part, .pointer (some ⟨Ba, 0, none⟩), .pointer (some ⟨Bb, 0, none⟩), .pointer (some ⟨Bk, 0, none⟩), .pointer (some ⟨B6, 0, none⟩), .pointer (some ⟨B7, 0, none⟩), .pointer (some ⟨B8, 0, none⟩), .pointer (some ⟨B16, 0, none⟩), .pointer (some ⟨B15, 0, none⟩)] w
  fun e w' => ∃ (Ar : Option Addr) (cr : Nat) (As : Option Addr) (cs : Nat), e = .returned (.agg #[.int .i64 part, .slice Ar (rsAt o inn mem a b k part).length cr, .slice As (betL a b part k).length cs]) ∧ (rsAt o inn mem a b k part).length ≤ cr ∧ NwB w.heap.size w' Ar (rsAt o inn mem a b k part) ∧
   (betL a b part k).length ≤ cs ∧ Nw w.heap.size w' As (betL a b part k) ∧ FW w0 n Bm Ba Bb Bk B6 B7 B8 B15 B16 o Aa Ab Ai Am Az ca cb ci cm cz a b inn mem (zeroR o inn a mem).put k (atF o inn mem a b k part fl) (dn + o.f7.length) w' ∧ Chg (fun i => i = Bm ∨ i = B16) w w' := by
 have hb := right_bounds G.right
 obtain ⟨kB, hkB⟩ := (bet_ev (part := part) (k := k) aa ab hl (by have := hf.2.1; omega)).rounds
 have HKB := Aside0.mk hkB
 have H := Aside0.mk h
 have HIN := Aside0.mk (And.intro aa (And.intro ab (And.intro ai am)))
 have HF := Aside0.mk (And.intro hf hl)
 clear h aa ab ai am hkB hf hl
 go_enter Tryz.func86, Tryz.ntmps86
 have ka : ∀ x, (w.alloc x).cell? ⟨Ba, 0, none⟩ = some (.slice Aa a.length ca) := fun x => (blk_cell (blk_alloc H.out.pa x) 0).trans rfl
 have kb : ∀ x, (w.alloc x).cell? ⟨Bb, 0, none⟩ = some (.slice Ab b.length cb) := fun x => (blk_cell (blk_alloc H.out.pb x) 0).trans rfl
 have kk : ∀ x, (w.alloc x).cell? ⟨Bk, 0, none⟩ = some (.int .i64 k) := fun x => (blk_cell (blk_alloc H.out.pk x) 0).trans rfl
 go_wp2_with fail
 obtain ⟨w1, hw1⟩ : ∃ z, w.alloc (Obj.cells #[Value.int IntKind.i64 0, Value.slice none 0 0, Value.slice none 0 0] 72) = z := ⟨_, rfl⟩
 have B1 : Below w.heap.size w w1 := by rw [← hw1]; exact below_alloc (Below.refl _ _) _
 have X1 := Aside0.mk (show w1.heap[w.heap.size]? = some (.cells #[Value.int IntKind.i64 0, Value.slice none 0 0, Value.slice none 0 0] 72 (0, 0)) by rw [← hw1]; exact blk_new w _)
 have H1 := Aside0.mk (H.out.below B1)
 have C1 := Aside0.mk (Chg.of_below B1 (fun i => i = Bm ∨ i = B16))
 rw [hw1]
 clear hw1 ka kb kk B1
 refine (Q.heun_Between.calls kB Aa ca a Ab cb b part k _ _ w1 H1.out.la.c H1.out.ca' H1.out.lb.c H1.out.cb' HKB.out).mono ?_
 rintro e w2 ⟨v2, rfl, hR2, hb2⟩
 obtain ⟨As, cs, rfl, hls, hN2⟩ := Nw.of_R' hR2
 have N2 := Aside0.mk (And.intro hN2 hls)
 have H2 := Aside0.mk (H1.out.below hb2)
 have X2 := Aside0.mk ((hb2.block _ (lt_of_block X1.out)).trans X1.out)
 have C2 := Aside0.mk (C1.out.below hb2)
 have hlt1 := Aside0.mk (show Bm < w1.heap.size ∧ w.heap.size < w1.heap.size by have := H1.out.M.blk; have := lt_of_block X1.out; omega)
 clear hR2 hb2 hN2 hls H1 X1 C1
 have k6 : w2.cell? ⟨B6, 0, none⟩ = some (.pointer (some ⟨Bm, 0, none⟩)) := (blk_cell H2.out.p6 0).trans rfl
 have k7 : w2.cell? ⟨B7, 0, none⟩ = some (.slice Ai inn.length ci) := (blk_cell H2.out.p7 0).trans rfl
 have k8 : w2.cell? ⟨B8, 0, none⟩ = some (.slice Am mem.length cm) := (blk_cell H2.out.p8 0).trans rfl
 go_wp2_with fail
 refine (zero_at H2.out.M G Ai As Am ci cs cm inn (betL a b part k) mem H2.out.li.LI (N2.out.1.LI hlt1.out.1) H2.out.lm.LI ⟨HF.out.1.1, (bet_len _ _ _ _).trans HF.out.1.2.1, HF.out.1.2.2⟩ HIN.out.2.2.1 (bet_in _ _ _ _) HIN.out.2.2.2 hd0 hd1).mono ?_
 rintro e w3 ⟨v3, rfl, hR3, hM3, hc3⟩
 obtain ⟨A3, c3, rfl, hl3, hN3⟩ := Nw.of_R' hR3
 obtain ⟨mc, hmc⟩ := H2.out.M.cell
 have H3 := Aside0.mk (H2.out.chg (hc3.mono (fun i hi => .inl hi)) ((hc3.block _ (lt_of_block H2.out.p16) (ty_ne H2.out.p16 hmc (by decide))).trans H2.out.p16) hM3)
 have N3 := Aside0.mk (And.intro (N2.out.1.chg hc3 (fun i hi => by rw [hi]; exact hlt1.out.1)) (And.intro N2.out.2 (And.intro hN3 hl3)))
 have X3 := Aside0.mk ((hc3.block _ (lt_of_block X2.out) (ty_ne X2.out hmc (by decide))).trans X2.out)
 have C3 := Aside0.mk (C2.out.then_ hc3 (fun i hi => .inl (.inl hi)))
 have hlt2 := Aside0.mk (show w.heap.size < w2.heap.size by have := lt_of_block X2.out; omega)
 clear hR3 hM3 hc3 hl3 hN3 hmc mc k6 k7 k8 H2 N2 X2 C2
 have k16 : w3.cell? ⟨B16, 0, none⟩ = some (.int .i64 fl) := (blk_cell H3.out.p16 0).trans rfl
 have f16 := blk_frozen H3.out.p16 0
 have k15 : ∀ v, (w3.setCell ⟨B16, 0, none⟩ v).cell? ⟨B15, 0, none⟩ = some (.slice Az (zeroR o inn a mem).put.length cz) := fun v => by
  have hx := ((Chg.setCell (S := fun i => i = B16) (p := ⟨B16, 0, none⟩) (Chg.refl _ w3) (.inl rfl) v).block B15 (lt_of_block H3.out.pz) (ty_ne H3.out.pz H3.out.p16 (by decide))).trans H3.out.pz
  exact (blk_cell hx 0).trans rfl
 go_wp2_with fail
 obtain ⟨fl', hfl'⟩ : ∃ z, bits BinOp.or IntKind.i64 fl (bits BinOp.or IntKind.i64 (Q.betF a b part k a.length) (zeroR o inn (betL a b part k) mem).fl) = z := ⟨_, rfl⟩
 have HFL := Aside0.mk (show atF o inn mem a b k part fl = fl' from hfl')
 rw [hfl']
 obtain ⟨w4, hw4⟩ : ∃ z, w3.setCell ⟨B16, 0, none⟩ (.int .i64 fl') = z := ⟨_, rfl⟩
 have hc4 : Chg (fun i => i = B16) w3 w4 := by rw [← hw4]; exact Chg.setCell (S := fun i => i = B16) (p := ⟨B16, 0, none⟩) (Chg.refl _ w3) (.inl rfl) _
 have hp4 : w4.heap[B16]? = some (.cells #[.int .i64 fl'] 3 (0, 0)) := by rw [← hw4]; exact heap_setCell_same w3 B16 0 _ 3 _ H3.out.p16
 obtain ⟨mc, hmc⟩ := H3.out.M.cell
 have hB16 := Aside0.mk (lt_of_block H.out.p16)
 have hlt1b := Aside0.mk (show B16 < w1.heap.size ∧ B16 < w2.heap.size by have := hB16.out; have := hlt1.out; have := hlt2.out; omega)
 have H4 := Aside0.mk (H3.out.chg (hc4.mono (fun i hi => .inr hi)) hp4 (H3.out.M.chg hc4 (fun i hi => by rw [hi]; exact ⟨ty_ne H3.out.p16 hmc (by decide), H3.out.n16⟩)))
 have N4 := Aside0.mk (And.intro (N3.out.1.chg hc4 (fun i hi => by rw [hi]; exact hlt1b.out.1)) (And.intro N3.out.2.1 (And.intro (N3.out.2.2.1.chg hc4 (fun i hi => by rw [hi]; exact hlt1b.out.2)) N3.out.2.2.2)))
 have X4 := Aside0.mk ((hc4.block _ (lt_of_block X3.out) (ty_ne X3.out H3.out.p16 (by decide))).trans X3.out)
 have C4 := Aside0.mk (C3.out.then_ hc4 (fun i hi => .inl (.inr hi)))
 rw [hw4]
 clear hw4 hc4 hp4 hmc mc k16 f16 k15 H3 N3 X3 C3 hfl'
 have z1 := (zeroR_run G HF.out.1 HIN.out.2.2.1 HIN.out.1 HIN.out.2.2.2).1
 have z2 := (zeroR_run G (st := betL a b part k) ⟨HF.out.1.1, (bet_len _ _ _ _).trans HF.out.1.2.1, HF.out.1.2.2⟩ HIN.out.2.2.1 (bet_in _ _ _ _) HIN.out.2.2.2).1
 obtain ⟨kR, hkR⟩ := (raised_ev z1 z2 (by omega)).rounds
 refine (X.cross_Raised.calls kR Az cz (zeroR o inn a mem).put A3 c3 (zeroR o inn (betL a b part k) mem).put _ w4 H4.out.lz H4.out.cz' N4.out.2.2.1.c N4.out.2.2.2 hkR).mono ?_
 rintro e w5 ⟨v5, rfl, hR5, hb5⟩
 have H5 := Aside0.mk (H4.out.below hb5)
 have N5 := Aside0.mk (And.intro (N4.out.1.chg (Chg.of_below hb5 (fun _ => False)) (fun _ hi => hi.elim)) N4.out.2.1)
 have X5 := Aside0.mk ((hb5.block _ (lt_of_block X4.out)).trans X4.out)
 have C5 := Aside0.mk (C4.out.below hb5)
 obtain ⟨A5, c5, rfl, hl5, hB5⟩ := NwB.of_R' hR5
 have R5 := Aside0.mk (And.intro hl5 hB5)
 have hlt4 := Aside0.mk (show w.heap.size < w4.heap.size ∧ Bm < w4.heap.size ∧ B16 < w4.heap.size by have := lt_of_block X4.out; have := H4.out.M.blk; have := lt_of_block H4.out.p16; omega)
 clear hR5 hb5 H4 N4 X4 C4 hkR z1 z2 hl5 hB5
 have f0 := blk_frozen X5.out 0
 have f1 := blk_frozen X5.out 1
 have f2 := blk_frozen X5.out 2
 have q0 := (blk_cell X5.out 0).trans rfl
 have q1 := (blk_cell X5.out 1).trans rfl
 have q2 := (blk_cell X5.out 2).trans rfl
 go_wp2_with fail
 have hRS : Pure.raisV (zeroR o inn a mem).put (zeroR o inn (betL a b part k) mem).put o.f4.toNat = rsAt o inn mem a b k part := rfl
 rw [hRS] at R5 ⊢
 obtain ⟨w6, hw6⟩ : ∃ z, ((w5.setCell ⟨w.heap.size, 0, none⟩ (.int .i64 part)).setCell ⟨w.heap.size, 1, none⟩ (.slice A5 (rsAt o inn mem a b k part).length c5)).setCell ⟨w.heap.size, 2, none⟩ (.slice As (betL a b part k).length cs) = z := ⟨_, rfl⟩
 have hW : w6.heap[w.heap.size]? = some (.cells #[.int .i64 part, .slice A5 (rsAt o inn mem a b k part).length c5, .slice As (betL a b part k).length cs] 72 (0, 0)) := by
  rw [← hw6]
  exact heap_setCell_same _ w.heap.size 2 _ 72 _ (heap_setCell_same _ w.heap.size 1 _ 72 _ (heap_setCell_same _ w.heap.size 0 _ 72 _ X5.out))
 have hc6 : Chg (fun i => i = w.heap.size) w5 w6 := by
  rw [← hw6]
  exact Chg.setCell (S := fun i => i = w.heap.size) (p := ⟨w.heap.size, 2, none⟩) (Chg.setCell (S := fun i => i = w.heap.size) (p := ⟨w.heap.size, 1, none⟩) (Chg.setCell (S := fun i => i = w.heap.size) (p := ⟨w.heap.size, 0, none⟩) (Chg.refl _ w5) (.inl rfl) _) (.inl rfl) _) (.inl rfl) _
 rw [hw6]
 have hx := ty_ne X5.out H5.out.p16 (by decide)
 obtain ⟨mc, hmc⟩ := H5.out.M.cell
 have hy := ty_ne X5.out hmc (by decide)
 have h16 := hB16.out
 have hm0 := H.out.M.blk
 refine bodyPost_ret (results_cell_row rfl _ _ w.heap.size 72 #[.int .i64 part, .slice A5 (rsAt o inn mem a b k part).length c5, .slice As (betL a b part k).length cs] (0, 0) _ rfl hW Tryz.underlying72 rfl (by kernel_rfl)) rfl
  ⟨A5, c5, As, cs, rfl, R5.out.1, (R5.out.2.chg hc6 (fun i hi => by rw [hi]; exact hlt4.out.1)).lower (by have := hlt4.out; omega), N5.out.2, (N5.out.1.chg hc6 (fun i hi => by rw [hi]; exact hlt1.out.2)).lower (by have := hlt1.out; omega), ?_, C5.out.then_ hc6 (fun i hi => .inr (by rw [hi]; exact Nat.le_refl _))⟩
 rw [HFL.out]
 exact H5.out.far H.out hc6 (fun i hi => by rw [hi]; exact Nat.le_refl _)
end Go.Proofs.YtgalkkolbobmbaaGreat.V


namespace Go.Proofs.YtgalkkolbobmbaaGreat.Pure
open Go.RowKit Go.Proofs.YtgalkkolbobmbaaGreat.Q Go.Proofs.YtgalkkolbobmbaaGreatW.PrintWords Go.Proofs.YtgalkkolbobmbaaGreatW.PrintLast

theorem u8_in {a : Int} (h : (Lit.int .u8 a).wf = true) : 0 ≤ a ∧ a ≤ 255 := by
 simp [Lit.wf, IntKind.min, IntKind.max, IntKind.bits, IntKind.signed] at h
 omega
theorem pow_tab : ∀ n : Fin 33, shl .i64 1 (n.val : Int) = ((2 ^ n.val : Nat) : Int) := by decide +kernel
end Go.Proofs.YtgalkkolbobmbaaGreat.Pure
