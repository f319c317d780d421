-- written by myprint.py (wip/tools) out of the translation
import Derived.Test.YtccolpkjgjjipaaK0
namespace Go.Proofs.Ytccolpkjgjjipaa.K
open Go.RowKit Go.Proofs.YtccolpkjgjjipaaW.PrintWords Go.Proofs.YtccolpkjgjjipaaW.PrintLast Go.Proofs.YtccolpkjgjjipaaW.PrintMore
attribute [local go_sem] max2_int min2_int max_two min_two max_three min_three max_four min_four   -- for this text's walks alone
set_option linter.unusedVariables false
set_option linter.unusedSimpArgs false

/-! ### astrolaberef16_Number: function 57 -/
mutual
def astrolaberef16_Number.j0 : Nat → List Int → Int → Option (List Int)
  | 0, _, _ => none
  | k + 1, x0, x5 => astrolaberef16_Number.l0 k x0 x5
def astrolaberef16_Number.l0 : Nat → List Int → Int → Option (List Int)
  | 0, _, _ => none
  | k + 1, x0, x5 => if x5 ≥ 128 then (if x0.length < 140737488355328 then (astrolaberef16_Number.l0 k (x0 ++ [(((Int.tmod x5 128) % 256) + 128) % 256]) (IntKind.u64.wrap (Int.tdiv x5 128))) else (none)) else (if x0.length < 140737488355328 then (some (x0 ++ [(x5) % 256])) else (none))
end
def astrolaberef16_Number.f (k : Nat) (l0 : List Int) (a1 : Int) : Option (List Int) := if a1 ≥ 0 then (astrolaberef16_Number.j0 k l0 (IntKind.u64.wrap (2 * (IntKind.u64.wrap (a1))))) else (astrolaberef16_Number.j0 k l0 (IntKind.u64.wrap ((IntKind.u64.wrap (2 * (IntKind.u64.wrap (wrap64 (-(wrap64 (a1 + 1))))))) + 1)))
theorem astrolaberef16_Number.mono_l : ∀ k, (∀ y0 y1, LeO (astrolaberef16_Number.j0 k y0 y1) (astrolaberef16_Number.j0 (k + 1) y0 y1)) ∧ (∀ y0 y1, LeO (astrolaberef16_Number.l0 k y0 y1) (astrolaberef16_Number.l0 (k + 1) y0 y1))
  | 0 => ⟨fun _ _ r h => by simp [astrolaberef16_Number.j0] at h, fun _ _ r h => by simp [astrolaberef16_Number.l0] at h⟩
  | k + 1 => by
    obtain ⟨ih0, ih1⟩ := astrolaberef16_Number.mono_l k
    refine ⟨?_, ?_⟩
    · intro y0 y1
      unfold astrolaberef16_Number.j0
      repeat' first
      | (with_reducible exact ih0 _ _)
      | (with_reducible exact ih1 _ _)
      | (with_reducible exact LeO.refl _)
      | (with_reducible exact LeO.none _)
      | (with_reducible refine LeO.ite ?_ ?_)
      | (with_reducible refine LeO.bind ?_ (fun _ => ?_))
      | exact ih0 _ _
      | exact ih1 _ _
      | exact LeO.none _
      | refine LeO.ite ?_ ?_
      | refine LeO.bind ?_ (fun _ => ?_)
    · intro y0 y1
      unfold astrolaberef16_Number.l0
      repeat' first
      | (with_reducible exact ih0 _ _)
      | (with_reducible exact ih1 _ _)
      | (with_reducible exact LeO.refl _)
      | (with_reducible exact LeO.none _)
      | (with_reducible refine LeO.ite ?_ ?_)
      | (with_reducible refine LeO.bind ?_ (fun _ => ?_))
      | exact ih0 _ _
      | exact ih1 _ _
      | exact LeO.none _
      | refine LeO.ite ?_ ?_
      | refine LeO.bind ?_ (fun _ => ?_)
theorem astrolaberef16_Number.mono : ∀ a0 a1 k, LeO (astrolaberef16_Number.f k a0 a1) (astrolaberef16_Number.f (k + 1) a0 a1) := by
  intro a0 a1 k
  obtain ⟨ih0, ih1⟩ := astrolaberef16_Number.mono_l k
  unfold astrolaberef16_Number.f
  repeat' first
      | (with_reducible exact ih0 _ _)
      | (with_reducible exact ih1 _ _)
      | (with_reducible exact LeO.refl _)
      | (with_reducible exact LeO.none _)
      | (with_reducible refine LeO.ite ?_ ?_)
      | (with_reducible refine LeO.bind ?_ (fun _ => ?_))
      | exact ih0 _ _
      | exact ih1 _ _
      | exact LeO.none _
      | refine LeO.ite ?_ ?_
      | refine LeO.bind ?_ (fun _ => ?_)
set_option maxHeartbeats 8000000 in
set_option maxRecDepth 100000 in
theorem astrolaberef16_Number.calls (k : Nat) (P0_ : Nat → Prop) (u9000_ : Value) (l0 : List Int) (a1 : Int) (r : List Int) (w0 w : World) (hB : Below w0.heap.size w0 w) (ho0 : Kd.R (Kd.int .u8) 5 w w0.heap.size P0_ u9000_ l0) (h : astrolaberef16_Number.f k l0 a1 = some r) :
    Calls Try.prog 57 #[u9000_, .int .i64 a1] w fun e w' => ∃ v0_ : Value, e = .returned (v0_) ∧ Kd.R (Kd.int .u8) 5 w' w0.heap.size (fun k_ => (P0_ k_ ∨ w.heap.size ≤ k_)) v0_ r ∧ Below w0.heap.size w0 w' ∧ Kept w w' (fun k_ => P0_ k_) := by
  have HO0 := Aside0.mk (show Kd.R (Kd.int .u8) 5 w w0.heap.size (fun k_ => (P0_ k_ ∨ w.heap.size ≤ k_)) u9000_ l0 from Kd.R_mono ho0 (fun k_ hk => (.inl hk)))
  have HK := Aside0.mk (Kept.refl w (fun k_ => P0_ k_))
  have HW0 := Aside0.mk hB.size
  have HB := Aside0.mk hB
  clear hB
  have H : (if a1 ≥ 0 then (astrolaberef16_Number.j0 k l0 (IntKind.u64.wrap (2 * (IntKind.u64.wrap (a1))))) else (astrolaberef16_Number.j0 k l0 (IntKind.u64.wrap ((IntKind.u64.wrap (2 * (IntKind.u64.wrap (wrap64 (-(wrap64 (a1 + 1))))))) + 1)))) = some r := h
  clear h
  have HC3 := Aside0.mk H
  clear H
  go_enter Try.func57, Try.ntmps57
  go_upto_if 7 with (fail)
  go_cut [5] (fun v5 wc => ∃ (kq : Nat) (x5_2 : Int), v5 = .int .u64 x5_2 ∧ Aside0 (astrolaberef16_Number.j0 kq l0 x5_2 = some r) ∧ Aside0 (kq ≤ k) ∧ Aside0 (Kd.R (Kd.int .u8) 5 wc w0.heap.size (fun k_ => (P0_ k_ ∨ w.heap.size ≤ k_)) u9000_ l0) ∧ Aside0 (Kept w wc (fun k_ => P0_ k_)) ∧ Aside0 (Below w0.heap.size w0 wc))
  case first =>
    have H := HC3.out
    clear HC3
    by_cases c4 : a1 ≥ 0
    · rw [if_pos c4] at H
      have c4b0 : decide (0 ≤ a1) = true := decide_eq_true c4
      clear c4
      (first | rw [c4b0] | (simp only [i64_w, i32_w]; rw [c4b0]) | skip)
      have H' := Aside0.mk H
      clear H
      go_wp2
      go_meet
      case rel => exact ⟨_, (IntKind.u64.wrap (2 * (IntKind.u64.wrap (a1)))), (by first | rfl | (simp; done) | (simp [*]; done)), H', ⟨by first | omega | exact Nat.le_refl _⟩, ⟨by (with_reducible repeat (first | apply Kd.R_alloc | apply Kd.R_drewN | apply Kd.R_drew)); exact HO0.out⟩, ⟨by repeat (first | (with_reducible first | exact HK.out | apply Kept.alloc | apply Kept.drewN | apply Kept.drew) | exact HK.out)⟩, ⟨by repeat (first | (with_reducible first | exact HB.out | apply below_alloc | apply pw_below_drewN | apply below_drew1) | exact HB.out)⟩⟩
    · rw [if_neg c4] at H
      have c4b0 : decide (0 ≤ a1) = false := decide_eq_false c4
      clear c4
      (first | rw [c4b0] | (simp only [i64_w, i32_w]; rw [c4b0]) | skip)
      have H' := Aside0.mk H
      clear H
      go_wp2
      go_meet
      case rel => exact ⟨_, (IntKind.u64.wrap ((IntKind.u64.wrap (2 * (IntKind.u64.wrap (wrap64 (-(wrap64 (a1 + 1))))))) + 1)), (by first | rfl | (simp; done) | (simp [*]; done)), H', ⟨by first | omega | exact Nat.le_refl _⟩, ⟨by (with_reducible repeat (first | apply Kd.R_alloc | apply Kd.R_drewN | apply Kd.R_drew)); exact HO0.out⟩, ⟨by repeat (first | (with_reducible first | exact HK.out | apply Kept.alloc | apply Kept.drewN | apply Kept.drew) | exact HK.out)⟩, ⟨by repeat (first | (with_reducible first | exact HB.out | apply below_alloc | apply pw_below_drewN | apply below_drew1) | exact HB.out)⟩⟩
  case rest =>
    clear HC3
    try clear p2
    try clear c4
    try clear c4b0
    obtain ⟨kq, x5_2, rfl, HA, HJ2, HO_0, HK, HB⟩ := hcut
    cases kq with
    | zero => exact absurd HA.out (by simp [astrolaberef16_Number.j0])
    | succ kj2 =>
      have H := HA.out
      clear HA
      simp only [astrolaberef16_Number.j0] at H
      have H' := Aside0.mk H
      clear H
      go_wp2
      go_loopg [0, 5] kj2 (fun kq v0 v5 w' => ∃ (x0_2 : List Int) (x5_2 : Int), v5 = .int .u64 x5_2 ∧ Aside0 (astrolaberef16_Number.l0 kq x0_2 x5_2 = some r) ∧ Aside0 (kq ≤ kj2) ∧ Aside0 (Kd.R (Kd.int .u8) 5 w' w0.heap.size (fun k_ => (P0_ k_ ∨ w.heap.size ≤ k_)) v0 x0_2) ∧ Aside0 (Kept w w' (fun k_ => P0_ k_)) ∧ Aside0 (Below w0.heap.size w0 w'))
      case atStart => exact ⟨(l0), (x5_2), (by first | rfl | (simp; done) | (simp [*]; done)), H', ⟨Nat.le_refl _⟩, ⟨by (with_reducible repeat (first | apply Kd.R_alloc | apply Kd.R_drewN | apply Kd.R_drew)); exact HO_0.out⟩, ⟨by repeat (first | (with_reducible first | exact HK.out | apply Kept.alloc | apply Kept.drewN | apply Kept.drew) | exact HK.out)⟩, ⟨by repeat (first | (with_reducible first | exact HB.out | apply below_alloc | apply pw_below_drewN | apply below_drew1) | exact HB.out)⟩⟩
      case round =>
        clear H'
        try clear p2
        try clear c4
        try clear c4b0
        try clear p2
        obtain ⟨x0_2, x5_2, rfl, HA, HK2, HO_0, HK, HB⟩ := hrel
        cases gk with
        | zero => exact absurd HA.out (by simp [astrolaberef16_Number.l0])
        | succ k2 =>
          have H := HA.out
          clear HA
          simp only [astrolaberef16_Number.l0] at H
          by_cases c5 : x5_2 ≥ 128
          · rw [if_pos c5] at H
            have c5b0 : decide (128 ≤ x5_2) = true := decide_eq_true c5
            clear c5
            by_cases c6 : x0_2.length < 140737488355328
            · rw [if_pos c6] at H
              have LMc6 := Aside0.mk c6
              clear c6
              rw [show (((Int.tmod x5_2 128) % 256) + 128) % 256 = ((Int.tmod x5_2 128) + 128) % 256 from by omega] at H
              obtain ⟨y189, hy189⟩ : ∃ y_ : List Int, y_ = (x0_2 ++ [((Int.tmod x5_2 128) + 128) % 256]) := ⟨_, rfl⟩
              replace H : (astrolaberef16_Number.l0 k2 y189 (IntKind.u64.wrap (Int.tdiv x5_2 128))) = some r := by first | (rw [hy189]; with_reducible exact H) | (have H2_ := (Option.bind_some _ _).symm.trans H; rw [hy189]; with_reducible exact H2_) | (have H2_ := (Option.bind_some _ _).symm.trans H; with_reducible exact H2_) | with_reducible exact H | (rw [hy189]; exact H) | exact H
              have Ny189 := Aside0.mk hy189
              clear hy189
              have H' := Aside0.mk H
              clear H
              go_wp2_with (first | ((with_reducible refine gate_builtin (b := .append) (xs := #[.tmp 19, .tmp 24]) rfl ?_); at_builtin; refine Kd.R_append (Kd.int .u8) (w0 := w0) w0.heap.size rfl (.tmp 19) (.tmp 24) 22 5 (.int .u8 0) 1 rfl Try.underlying22 info5 rfl (by decide) (by omega) u0 x0_2 (((Int.tmod x5_2 128) + 128) % 256) [.int .u8 (((Int.tmod x5_2 128) + 128) % 256)] (fun k_ => (P0_ k_ ∨ w.heap.size ≤ k_)) (fun _ => False) rfl rfl ?aP (fun _ hk => hk.elim) ?aF ?aO ?aB ?aS ?aL ?_; (case aP => exact rfl); (case aB => exact (by repeat (first | (with_reducible first | exact HB.out | apply below_alloc | apply pw_below_drewN | apply below_drew1) | exact HB.out))); (case aF => exact (fun k_ hk => (.inr (Nat.le_trans (by first | exact HK.out.1 | exact (show Kept w _ (fun k_ => P0_ k_) from by repeat (first | (with_reducible first | exact HK.out | apply Kept.alloc | apply Kept.drewN | apply Kept.drew) | exact HK.out)).1) hk)))); (case aO => exact (by (with_reducible repeat (first | apply Kd.R_alloc | apply Kd.R_drewN | apply Kd.R_drew)); exact HO_0.out)); (case aS => exact (below_size (by repeat (first | (with_reducible first | exact HB.out | apply below_alloc | apply pw_below_drewN | apply below_drew1) | exact HB.out)))); (case aL => have := LMc6.out; omega); intro v190 w7 ho hb hg hat; rw [← Ny189.out] at ho; have n0_ := Aside0.mk (hb); have n1_ := Aside0.mk (Kept.of_grown (S := (fun k_ => P0_ k_)) hg (by repeat (first | (with_reducible first | exact HK.out | apply Kept.alloc | apply Kept.drewN | apply Kept.drew) | exact HK.out)) (fun k_ e_ => (HO_0.out.1 k_ e_))); have n2_ := Aside0.mk (ho); clear HB; clear HK; clear HO_0; have HB := n0_; have HK := n1_; have HO191 := n2_; clear n0_ n1_ n2_; clear ho hb hg hat))
              go_roundg k2
              case measure => have := HJ2.out; have := HK2.out; omega
              case rel => exact ⟨(y189), (IntKind.u64.wrap (Int.tdiv x5_2 128)), (by first | rfl | (simp; done) | (simp [*]; done)), H', ⟨by have := HJ2.out; have := HK2.out; omega⟩, ⟨by (with_reducible repeat (first | apply Kd.R_alloc | apply Kd.R_drewN | apply Kd.R_drew)); exact HO191.out⟩, ⟨by repeat (first | (with_reducible first | exact HK.out | apply Kept.alloc | apply Kept.drewN | apply Kept.drew) | exact HK.out)⟩, ⟨by repeat (first | (with_reducible first | exact HB.out | apply below_alloc | apply pw_below_drewN | apply below_drew1) | exact HB.out)⟩⟩
            · rw [if_neg c6] at H
              exact absurd H (by simp)
          · rw [if_neg c5] at H
            have c5b0 : decide (128 ≤ x5_2) = false := decide_eq_false c5
            clear c5
            by_cases c8 : x0_2.length < 140737488355328
            · rw [if_pos c8] at H
              have LMc8 := Aside0.mk c8
              clear c8
              obtain ⟨y192, hy192⟩ : ∃ y_ : List Int, y_ = (x0_2 ++ [(x5_2) % 256]) := ⟨_, rfl⟩
              replace H : (some y192) = some r := by first | (rw [hy192]; with_reducible exact H) | (have H2_ := (Option.bind_some _ _).symm.trans H; rw [hy192]; with_reducible exact H2_) | (have H2_ := (Option.bind_some _ _).symm.trans H; with_reducible exact H2_) | with_reducible exact H | (rw [hy192]; exact H) | exact H
              have Ny192 := Aside0.mk hy192
              clear hy192
              obtain rfl := Option.some.inj H
              go_wp2_with (first | ((with_reducible refine gate_builtin (b := .append) (xs := #[.tmp 28, .tmp 31]) rfl ?_); at_builtin; refine Kd.R_append (Kd.int .u8) (w0 := w0) w0.heap.size rfl (.tmp 28) (.tmp 31) 22 5 (.int .u8 0) 1 rfl Try.underlying22 info5 rfl (by decide) (by omega) u0 x0_2 ((x5_2) % 256) [.int .u8 ((x5_2) % 256)] (fun k_ => (P0_ k_ ∨ w.heap.size ≤ k_)) (fun _ => False) rfl rfl ?aP (fun _ hk => hk.elim) ?aF ?aO ?aB ?aS ?aL ?_; (case aP => exact rfl); (case aB => exact (by repeat (first | (with_reducible first | exact HB.out | apply below_alloc | apply pw_below_drewN | apply below_drew1) | exact HB.out))); (case aF => exact (fun k_ hk => (.inr (Nat.le_trans (by first | exact HK.out.1 | exact (show Kept w _ (fun k_ => P0_ k_) from by repeat (first | (with_reducible first | exact HK.out | apply Kept.alloc | apply Kept.drewN | apply Kept.drew) | exact HK.out)).1) hk)))); (case aO => exact (by (with_reducible repeat (first | apply Kd.R_alloc | apply Kd.R_drewN | apply Kd.R_drew)); exact HO_0.out)); (case aS => exact (below_size (by repeat (first | (with_reducible first | exact HB.out | apply below_alloc | apply pw_below_drewN | apply below_drew1) | exact HB.out)))); (case aL => have := LMc8.out; omega); intro v193 w9 ho hb hg hat; rw [← Ny192.out] at ho; have n0_ := Aside0.mk (hb); have n1_ := Aside0.mk (Kept.of_grown (S := (fun k_ => P0_ k_)) hg (by repeat (first | (with_reducible first | exact HK.out | apply Kept.alloc | apply Kept.drewN | apply Kept.drew) | exact HK.out)) (fun k_ e_ => (HO_0.out.1 k_ e_))); have n2_ := Aside0.mk (ho); clear HB; clear HK; clear HO_0; have HB := n0_; have HK := n1_; have HO194 := n2_; clear n0_ n1_ n2_; clear ho hb hg hat))
              go_ret
              exact ⟨_, by first | rfl | (simp [errW_none, errW_some] <;> rfl) | (simp [*, errW_none, errW_some] <;> rfl), by (with_reducible repeat (first | apply Kd.R_alloc | apply Kd.R_drewN | apply Kd.R_drew)); exact HO194.out, by repeat (first | (with_reducible first | exact HB.out | apply below_alloc | apply pw_below_drewN | apply below_drew1) | exact HB.out), by repeat (first | (with_reducible first | exact HK.out | apply Kept.alloc | apply Kept.drewN | apply Kept.drew) | exact HK.out)⟩
            · rw [if_neg c8] at H
              exact absurd H (by simp)

/-! ### astrolaberef16_ints: function 55 -/
def astrolaberef16_ints.l0 : Nat → List Int → List Int → Int → Option (List Int)
  | 0, _, _, _ => none
  | k + 1, x0, x1, x5 => if x5 < (x1.length : Int) then (if 0 ≤ x5 then ((astrolaberef16_Number.f k x0 (rd x1 x5)).bind fun t199 => (astrolaberef16_ints.l0 k t199 x1 (wrap64 (x5 + 1)))) else (none)) else (some x0)
def astrolaberef16_ints.f (k : Nat) (l0 : List Int) (l1 : List Int) : Option (List Int) := (astrolaberef16_Number.f k l0 (l1.length : Int)).bind fun t195 => (astrolaberef16_ints.l0 k t195 l1 0)
theorem astrolaberef16_ints.mono_l : ∀ k, (∀ y0 y1 y2, LeO (astrolaberef16_ints.l0 k y0 y1 y2) (astrolaberef16_ints.l0 (k + 1) y0 y1 y2))
  | 0 => fun _ _ _ r h => by simp [astrolaberef16_ints.l0] at h
  | k + 1 => by
    have ih0 := astrolaberef16_ints.mono_l k
    · intro y0 y1 y2
      unfold astrolaberef16_ints.l0
      repeat' first
      | (with_reducible exact ih0 _ _ _)
      | (with_reducible exact astrolaberef16_Number.mono _ _ _)
      | (with_reducible exact LeO.refl _)
      | (with_reducible exact LeO.none _)
      | (with_reducible refine LeO.ite ?_ ?_)
      | (with_reducible refine LeO.bind ?_ (fun _ => ?_))
      | exact ih0 _ _ _
      | exact astrolaberef16_Number.mono _ _ _
      | exact LeO.none _
      | refine LeO.ite ?_ ?_
      | refine LeO.bind ?_ (fun _ => ?_)
theorem astrolaberef16_ints.mono : ∀ a0 a1 k, LeO (astrolaberef16_ints.f k a0 a1) (astrolaberef16_ints.f (k + 1) a0 a1) := by
  intro a0 a1 k
  have ih0 := astrolaberef16_ints.mono_l k
  unfold astrolaberef16_ints.f
  repeat' first
      | (with_reducible exact ih0 _ _ _)
      | (with_reducible exact astrolaberef16_Number.mono _ _ _)
      | (with_reducible exact LeO.refl _)
      | (with_reducible exact LeO.none _)
      | (with_reducible refine LeO.ite ?_ ?_)
      | (with_reducible refine LeO.bind ?_ (fun _ => ?_))
      | exact ih0 _ _ _
      | exact astrolaberef16_Number.mono _ _ _
      | exact LeO.none _
      | refine LeO.ite ?_ ?_
      | refine LeO.bind ?_ (fun _ => ?_)
set_option maxHeartbeats 8000000 in
set_option maxRecDepth 100000 in
theorem astrolaberef16_ints.calls (k : Nat) (P0_ : Nat → Prop) (u9000_ : Value) (l0 : List Int) (A1 : Option Addr) (c1 : Nat) (l1 : List Int) (r : List Int) (w0 w : World) (hB : Below w0.heap.size w0 w) (ho0 : Kd.R (Kd.int .u8) 5 w w0.heap.size P0_ u9000_ l0) (hr1 : ∀ W_, Kept w W_ (fun k_ => P0_ k_) → Kd.C (Kd.int .i64) W_ A1 l1.length l1) (hc1 : l1.length ≤ c1) (h : astrolaberef16_ints.f k l0 l1 = some r) :
    Calls Try.prog 55 #[u9000_, .slice A1 l1.length c1] w fun e w' => ∃ v0_ : Value, e = .returned (v0_) ∧ Kd.R (Kd.int .u8) 5 w' w0.heap.size (fun k_ => (P0_ k_ ∨ w.heap.size ≤ k_)) v0_ r ∧ Below w0.heap.size w0 w' ∧ Kept w w' (fun k_ => P0_ k_) := by
  have HO0 := Aside0.mk (show Kd.R (Kd.int .u8) 5 w w0.heap.size (fun k_ => (P0_ k_ ∨ w.heap.size ≤ k_)) u9000_ l0 from Kd.R_mono ho0 (fun k_ hk => (.inl hk)))
  have HR1 := Aside0.mk hr1
  have HC1 := Aside0.mk hc1
  clear hr1 hc1
  have HK := Aside0.mk (Kept.refl w (fun k_ => P0_ k_))
  have HW0 := Aside0.mk hB.size
  have HB := Aside0.mk hB
  clear hB
  have H : ((astrolaberef16_Number.f k l0 (l1.length : Int)).bind fun t195 => (astrolaberef16_ints.l0 k t195 l1 0)) = some r := h
  clear h
  replace H := Option.bind_eq_some_iff.mp H
  obtain ⟨t195, A30, H⟩ := H
  replace H : (astrolaberef16_ints.l0 k t195 l1 0) = some r := H
  have A3 := Aside0.mk A30
  clear A30
  have H' := Aside0.mk H
  clear H
  obtain ⟨Ao4, co4, eo4⟩ := Kd.R_slice HO0.out
  subst eo4
  go_enter Try.func55, Try.ntmps55
  go_wp2_with (first | ((with_reducible refine gate_callee (f := 57) rfl ?_); refine goesL_ (some 9) rfl rfl Try.func57 (by kernel_rfl) rfl #[.slice Ao4 l0.length co4, .int .i64 (l1.length : Int)] rfl (by (try simp only [List.map_toArray, List.map_cons, List.map_nil]); first | done | rfl | (simp only [List.length_drop, List.length_take]; rfl)) ?_; (with_reducible refine (astrolaberef16_Number.calls k (fun k_ => some k_ = (.slice Ao4 l0.length co4 : Value).ownBlock) (.slice Ao4 l0.length co4) l0 (l1.length : Int) t195 w0 _ ?side1 ?side2 A3.out).mono ?_); (case side1 => repeat (first | (with_reducible first | exact HB.out | apply below_alloc | apply pw_below_drewN | apply below_drew1) | exact HB.out)); (case side2 => exact Kd.R_tight rfl HO0.out); rintro e w5 ⟨v196, rfl, ho0, hb, hkp⟩; refine ⟨_, rfl, ?_⟩; have n0_ := Aside0.mk (Kd.R_mono (ok' := fun k_ => (P0_ k_ ∨ w.heap.size ≤ k_)) ho0 (fun k_ hk_ => Or.elim hk_ (fun hs_ => (HO0.out.1 k_ (hs_).symm)) (fun hn_ => (.inr (Nat.le_trans (by first | exact HK.out.1 | exact (show Kept w _ (fun k_ => P0_ k_) from by repeat (first | (with_reducible first | exact HK.out | apply Kept.alloc | apply Kept.drewN | apply Kept.drew) | exact HK.out)).1) hn_))))); have n1_ := Aside0.mk (Kept.then_ (S := (fun k_ => P0_ k_)) (by repeat (first | (with_reducible first | exact HK.out | apply Kept.alloc | apply Kept.drewN | apply Kept.drew) | exact HK.out)) hkp (fun k_ hs_ => (fun e_ => (HO0.out.1 k_ e_.symm)) hs_)); have n2_ := Aside0.mk (hb); clear HK; clear HB; clear HO0; have HO197 := n0_; have HK := n1_; have HB := n2_; clear n0_ n1_ n2_; (try clear hb); (try clear hkp); (try clear ho0)))
  go_loopg [0, 5] k (fun kq v0 v5 w' => ∃ (x0_1 : List Int) (x5_1 : Int), v5 = .int .i64 x5_1 ∧ Aside0 (astrolaberef16_ints.l0 kq x0_1 l1 x5_1 = some r) ∧ Aside0 (kq ≤ k) ∧ Aside0 (Kd.R (Kd.int .u8) 5 w' w0.heap.size (fun k_ => (P0_ k_ ∨ w.heap.size ≤ k_)) v0 x0_1) ∧ Aside0 (Kept w w' (fun k_ => P0_ k_)) ∧ Aside0 (Below w0.heap.size w0 w'))
  case atStart => exact ⟨(t195), (0), (by first | rfl | (simp; done) | (simp [*]; done)), H', ⟨Nat.le_refl _⟩, ⟨by (with_reducible repeat (first | apply Kd.R_alloc | apply Kd.R_drewN | apply Kd.R_drew)); exact HO197.out⟩, ⟨by repeat (first | (with_reducible first | exact HK.out | apply Kept.alloc | apply Kept.drewN | apply Kept.drew) | exact HK.out)⟩, ⟨by repeat (first | (with_reducible first | exact HB.out | apply below_alloc | apply pw_below_drewN | apply below_drew1) | exact HB.out)⟩⟩
  case round =>
    clear H'
    try clear c1
    try clear p2
    try clear c5
    obtain ⟨x0_1, x5_1, rfl, HA, HK1, HO_0, HK, HB⟩ := hrel
    cases gk with
    | zero => exact absurd HA.out (by simp [astrolaberef16_ints.l0])
    | succ k1 =>
      have H := HA.out
      clear HA
      simp only [astrolaberef16_ints.l0] at H
      by_cases c6 : x5_1 < (l1.length : Int)
      · rw [if_pos c6] at H
        have c6b0 : decide (x5_1 < (l1.length : Int)) = true := decide_eq_true c6
        clear c6
        by_cases c7 : 0 ≤ x5_1
        · rw [if_pos c7] at H
          have c7b0 : decide (0 ≤ x5_1) = true := decide_eq_true c7
          clear c7
          replace H := Option.bind_eq_some_iff.mp H
          obtain ⟨t199, A80, H⟩ := H
          replace H : (astrolaberef16_ints.l0 k1 t199 l1 (wrap64 (x5_1 + 1))) = some r := H
          have A8 := Aside0.mk A80
          clear A80
          have H' := Aside0.mk H
          clear H
          have p198 : 0 ≤ (x5_1 : Int) := of_decide_eq_true (by first | (with_reducible assumption) | assumption)
          have q198 : x5_1 < (l1.length : Int) := of_decide_eq_true (by first | (with_reducible assumption) | assumption)
          obtain ⟨ad198, e198, hx198_0⟩ := Kd.at_int (Kd.C_kept_now HR1.out HK.out) x5_1 p198 q198
          cases e198
          replace p198 := eq_true p198
          replace q198 := eq_true q198
          obtain ⟨Ao9, co9, eo9⟩ := Kd.R_slice HO_0.out
          subst eo9
          go_wp2_with (first | ((with_reducible refine gate_callee (f := 57) rfl ?_); refine goesL_ (some 21) rfl rfl Try.func57 (by kernel_rfl) rfl #[.slice Ao9 x0_1.length co9, .int .i64 (rd l1 x5_1)] rfl (by (try simp only [List.map_toArray, List.map_cons, List.map_nil]); first | done | rfl | (simp only [List.length_drop, List.length_take]; rfl)) ?_; (with_reducible refine (astrolaberef16_Number.calls k1 (fun k_ => some k_ = (.slice Ao9 x0_1.length co9 : Value).ownBlock) (.slice Ao9 x0_1.length co9) x0_1 (rd l1 x5_1) t199 w0 _ ?side1 ?side2 A8.out).mono ?_); (case side1 => repeat (first | (with_reducible first | exact HB.out | apply below_alloc | apply pw_below_drewN | apply below_drew1) | exact HB.out)); (case side2 => exact Kd.R_tight rfl HO_0.out); rintro e w10 ⟨v200, rfl, ho0, hb, hkp⟩; refine ⟨_, rfl, ?_⟩; have n0_ := Aside0.mk (Kd.R_mono (ok' := fun k_ => (P0_ k_ ∨ w.heap.size ≤ k_)) ho0 (fun k_ hk_ => Or.elim hk_ (fun hs_ => (HO_0.out.1 k_ (hs_).symm)) (fun hn_ => (.inr (Nat.le_trans (by first | exact HK.out.1 | exact (show Kept w _ (fun k_ => P0_ k_) from by repeat (first | (with_reducible first | exact HK.out | apply Kept.alloc | apply Kept.drewN | apply Kept.drew) | exact HK.out)).1) hn_))))); have n1_ := Aside0.mk (Kept.then_ (S := (fun k_ => P0_ k_)) (by repeat (first | (with_reducible first | exact HK.out | apply Kept.alloc | apply Kept.drewN | apply Kept.drew) | exact HK.out)) hkp (fun k_ hs_ => (fun e_ => (HO_0.out.1 k_ e_.symm)) hs_)); have n2_ := Aside0.mk (hb); clear HK; clear HB; clear HO_0; have HO201 := n0_; have HK := n1_; have HB := n2_; clear n0_ n1_ n2_; (try clear hb); (try clear hkp); (try clear ho0)))
          go_roundg k1
          case measure => have := HK1.out; omega
          case rel => exact ⟨(t199), (wrap64 (x5_1 + 1)), (by first | rfl | (simp; done) | (simp [*]; done)), H', ⟨by have := HK1.out; omega⟩, ⟨by (with_reducible repeat (first | apply Kd.R_alloc | apply Kd.R_drewN | apply Kd.R_drew)); exact HO201.out⟩, ⟨by repeat (first | (with_reducible first | exact HK.out | apply Kept.alloc | apply Kept.drewN | apply Kept.drew) | exact HK.out)⟩, ⟨by repeat (first | (with_reducible first | exact HB.out | apply below_alloc | apply pw_below_drewN | apply below_drew1) | exact HB.out)⟩⟩
        · rw [if_neg c7] at H
          exact absurd H (by simp)
      · rw [if_neg c6] at H
        have c6b0 : decide (x5_1 < (l1.length : Int)) = false := decide_eq_false c6
        clear c6
        obtain rfl := Option.some.inj H
        go_wp2
        go_ret
        exact ⟨_, by first | rfl | (simp [errW_none, errW_some] <;> rfl) | (simp [*, errW_none, errW_some] <;> rfl), by (with_reducible repeat (first | apply Kd.R_alloc | apply Kd.R_drewN | apply Kd.R_drew)); exact HO_0.out, by repeat (first | (with_reducible first | exact HB.out | apply below_alloc | apply pw_below_drewN | apply below_drew1) | exact HB.out), by repeat (first | (with_reducible first | exact HK.out | apply Kept.alloc | apply Kept.drewN | apply Kept.drew) | exact HK.out)⟩

/-! ### astrolaberef16_numbers: function 56 -/
def astrolaberef16_numbers.l0 : Nat → List Int → List Int → Int → Option (List Int)
  | 0, _, _, _ => none
  | k + 1, x0, x1, x5 => if x5 < (x1.length : Int) then (if 0 ≤ x5 then ((astrolaberef16_Number.f k x0 (rd x1 x5)).bind fun t206 => (astrolaberef16_numbers.l0 k t206 x1 (wrap64 (x5 + 1)))) else (none)) else (some x0)
def astrolaberef16_numbers.f (k : Nat) (l0 : List Int) (l1 : List Int) : Option (List Int) := (astrolaberef16_Number.f k l0 (l1.length : Int)).bind fun t202 => (astrolaberef16_numbers.l0 k t202 l1 0)
theorem astrolaberef16_numbers.mono_l : ∀ k, (∀ y0 y1 y2, LeO (astrolaberef16_numbers.l0 k y0 y1 y2) (astrolaberef16_numbers.l0 (k + 1) y0 y1 y2))
  | 0 => fun _ _ _ r h => by simp [astrolaberef16_numbers.l0] at h
  | k + 1 => by
    have ih0 := astrolaberef16_numbers.mono_l k
    · intro y0 y1 y2
      unfold astrolaberef16_numbers.l0
      repeat' first
      | (with_reducible exact ih0 _ _ _)
      | (with_reducible exact astrolaberef16_Number.mono _ _ _)
      | (with_reducible exact LeO.refl _)
      | (with_reducible exact LeO.none _)
      | (with_reducible refine LeO.ite ?_ ?_)
      | (with_reducible refine LeO.bind ?_ (fun _ => ?_))
      | exact ih0 _ _ _
      | exact astrolaberef16_Number.mono _ _ _
      | exact LeO.none _
      | refine LeO.ite ?_ ?_
      | refine LeO.bind ?_ (fun _ => ?_)
theorem astrolaberef16_numbers.mono : ∀ a0 a1 k, LeO (astrolaberef16_numbers.f k a0 a1) (astrolaberef16_numbers.f (k + 1) a0 a1) := by
  intro a0 a1 k
  have ih0 := astrolaberef16_numbers.mono_l k
  unfold astrolaberef16_numbers.f
  repeat' first
      | (with_reducible exact ih0 _ _ _)
      | (with_reducible exact astrolaberef16_Number.mono _ _ _)
      | (with_reducible exact LeO.refl _)
      | (with_reducible exact LeO.none _)
      | (with_reducible refine LeO.ite ?_ ?_)
      | (with_reducible refine LeO.bind ?_ (fun _ => ?_))
      | exact ih0 _ _ _
      | exact astrolaberef16_Number.mono _ _ _
      | exact LeO.none _
      | refine LeO.ite ?_ ?_
      | refine LeO.bind ?_ (fun _ => ?_)
set_option maxHeartbeats 8000000 in
set_option maxRecDepth 100000 in
theorem astrolaberef16_numbers.calls (k : Nat) (P0_ : Nat → Prop) (u9000_ : Value) (l0 : List Int) (A1 : Option Addr) (c1 : Nat) (l1 : List Int) (r : List Int) (w0 w : World) (hB : Below w0.heap.size w0 w) (ho0 : Kd.R (Kd.int .u8) 5 w w0.heap.size P0_ u9000_ l0) (hr1 : ∀ W_, Kept w W_ (fun k_ => P0_ k_) → Kd.C (Kd.int .i64) W_ A1 l1.length l1) (hc1 : l1.length ≤ c1) (h : astrolaberef16_numbers.f k l0 l1 = some r) :
    Calls Try.prog 56 #[u9000_, .slice A1 l1.length c1] w fun e w' => ∃ v0_ : Value, e = .returned (v0_) ∧ Kd.R (Kd.int .u8) 5 w' w0.heap.size (fun k_ => (P0_ k_ ∨ w.heap.size ≤ k_)) v0_ r ∧ Below w0.heap.size w0 w' ∧ Kept w w' (fun k_ => P0_ k_) := by
  have HO0 := Aside0.mk (show Kd.R (Kd.int .u8) 5 w w0.heap.size (fun k_ => (P0_ k_ ∨ w.heap.size ≤ k_)) u9000_ l0 from Kd.R_mono ho0 (fun k_ hk => (.inl hk)))
  have HR1 := Aside0.mk hr1
  have HC1 := Aside0.mk hc1
  clear hr1 hc1
  have HK := Aside0.mk (Kept.refl w (fun k_ => P0_ k_))
  have HW0 := Aside0.mk hB.size
  have HB := Aside0.mk hB
  clear hB
  have H : ((astrolaberef16_Number.f k l0 (l1.length : Int)).bind fun t202 => (astrolaberef16_numbers.l0 k t202 l1 0)) = some r := h
  clear h
  replace H := Option.bind_eq_some_iff.mp H
  obtain ⟨t202, A30, H⟩ := H
  replace H : (astrolaberef16_numbers.l0 k t202 l1 0) = some r := H
  have A3 := Aside0.mk A30
  clear A30
  have H' := Aside0.mk H
  clear H
  obtain ⟨Ao4, co4, eo4⟩ := Kd.R_slice HO0.out
  subst eo4
  go_enter Try.func56, Try.ntmps56
  go_wp2_with (first | ((with_reducible refine gate_callee (f := 57) rfl ?_); refine goesL_ (some 9) rfl rfl Try.func57 (by kernel_rfl) rfl #[.slice Ao4 l0.length co4, .int .i64 (l1.length : Int)] rfl (by (try simp only [List.map_toArray, List.map_cons, List.map_nil]); first | done | rfl | (simp only [List.length_drop, List.length_take]; rfl)) ?_; (with_reducible refine (astrolaberef16_Number.calls k (fun k_ => some k_ = (.slice Ao4 l0.length co4 : Value).ownBlock) (.slice Ao4 l0.length co4) l0 (l1.length : Int) t202 w0 _ ?side1 ?side2 A3.out).mono ?_); (case side1 => repeat (first | (with_reducible first | exact HB.out | apply below_alloc | apply pw_below_drewN | apply below_drew1) | exact HB.out)); (case side2 => exact Kd.R_tight rfl HO0.out); rintro e w5 ⟨v203, rfl, ho0, hb, hkp⟩; refine ⟨_, rfl, ?_⟩; have n0_ := Aside0.mk (Kd.R_mono (ok' := fun k_ => (P0_ k_ ∨ w.heap.size ≤ k_)) ho0 (fun k_ hk_ => Or.elim hk_ (fun hs_ => (HO0.out.1 k_ (hs_).symm)) (fun hn_ => (.inr (Nat.le_trans (by first | exact HK.out.1 | exact (show Kept w _ (fun k_ => P0_ k_) from by repeat (first | (with_reducible first | exact HK.out | apply Kept.alloc | apply Kept.drewN | apply Kept.drew) | exact HK.out)).1) hn_))))); have n1_ := Aside0.mk (Kept.then_ (S := (fun k_ => P0_ k_)) (by repeat (first | (with_reducible first | exact HK.out | apply Kept.alloc | apply Kept.drewN | apply Kept.drew) | exact HK.out)) hkp (fun k_ hs_ => (fun e_ => (HO0.out.1 k_ e_.symm)) hs_)); have n2_ := Aside0.mk (hb); clear HK; clear HB; clear HO0; have HO204 := n0_; have HK := n1_; have HB := n2_; clear n0_ n1_ n2_; (try clear hb); (try clear hkp); (try clear ho0)))
  go_loopg [0, 5] k (fun kq v0 v5 w' => ∃ (x0_1 : List Int) (x5_1 : Int), v5 = .int .i64 x5_1 ∧ Aside0 (astrolaberef16_numbers.l0 kq x0_1 l1 x5_1 = some r) ∧ Aside0 (kq ≤ k) ∧ Aside0 (Kd.R (Kd.int .u8) 5 w' w0.heap.size (fun k_ => (P0_ k_ ∨ w.heap.size ≤ k_)) v0 x0_1) ∧ Aside0 (Kept w w' (fun k_ => P0_ k_)) ∧ Aside0 (Below w0.heap.size w0 w'))
  case atStart => exact ⟨(t202), (0), (by first | rfl | (simp; done) | (simp [*]; done)), H', ⟨Nat.le_refl _⟩, ⟨by (with_reducible repeat (first | apply Kd.R_alloc | apply Kd.R_drewN | apply Kd.R_drew)); exact HO204.out⟩, ⟨by repeat (first | (with_reducible first | exact HK.out | apply Kept.alloc | apply Kept.drewN | apply Kept.drew) | exact HK.out)⟩, ⟨by repeat (first | (with_reducible first | exact HB.out | apply below_alloc | apply pw_below_drewN | apply below_drew1) | exact HB.out)⟩⟩
  case round =>
    clear H'
    try clear c1
    try clear p2
    try clear c5
    obtain ⟨x0_1, x5_1, rfl, HA, HK1, HO_0, HK, HB⟩ := hrel
    cases gk with
    | zero => exact absurd HA.out (by simp [astrolaberef16_numbers.l0])
    | succ k1 =>
      have H := HA.out
      clear HA
      simp only [astrolaberef16_numbers.l0] at H
      by_cases c6 : x5_1 < (l1.length : Int)
      · rw [if_pos c6] at H
        have c6b0 : decide (x5_1 < (l1.length : Int)) = true := decide_eq_true c6
        clear c6
        by_cases c7 : 0 ≤ x5_1
        · rw [if_pos c7] at H
          have c7b0 : decide (0 ≤ x5_1) = true := decide_eq_true c7
          clear c7
          replace H := Option.bind_eq_some_iff.mp H
          obtain ⟨t206, A80, H⟩ := H
          replace H : (astrolaberef16_numbers.l0 k1 t206 l1 (wrap64 (x5_1 + 1))) = some r := H
          have A8 := Aside0.mk A80
          clear A80
          have H' := Aside0.mk H
          clear H
          have p205 : 0 ≤ (x5_1 : Int) := of_decide_eq_true (by first | (with_reducible assumption) | assumption)
          have q205 : x5_1 < (l1.length : Int) := of_decide_eq_true (by first | (with_reducible assumption) | assumption)
          obtain ⟨ad205, e205, hx205_0⟩ := Kd.at_int (Kd.C_kept_now HR1.out HK.out) x5_1 p205 q205
          cases e205
          replace p205 := eq_true p205
          replace q205 := eq_true q205
          obtain ⟨Ao9, co9, eo9⟩ := Kd.R_slice HO_0.out
          subst eo9
          go_wp2_with (first | ((with_reducible refine gate_callee (f := 57) rfl ?_); refine goesL_ (some 21) rfl rfl Try.func57 (by kernel_rfl) rfl #[.slice Ao9 x0_1.length co9, .int .i64 (rd l1 x5_1)] rfl (by (try simp only [List.map_toArray, List.map_cons, List.map_nil]); first | done | rfl | (simp only [List.length_drop, List.length_take]; rfl)) ?_; (with_reducible refine (astrolaberef16_Number.calls k1 (fun k_ => some k_ = (.slice Ao9 x0_1.length co9 : Value).ownBlock) (.slice Ao9 x0_1.length co9) x0_1 (rd l1 x5_1) t206 w0 _ ?side1 ?side2 A8.out).mono ?_); (case side1 => repeat (first | (with_reducible first | exact HB.out | apply below_alloc | apply pw_below_drewN | apply below_drew1) | exact HB.out)); (case side2 => exact Kd.R_tight rfl HO_0.out); rintro e w10 ⟨v207, rfl, ho0, hb, hkp⟩; refine ⟨_, rfl, ?_⟩; have n0_ := Aside0.mk (Kd.R_mono (ok' := fun k_ => (P0_ k_ ∨ w.heap.size ≤ k_)) ho0 (fun k_ hk_ => Or.elim hk_ (fun hs_ => (HO_0.out.1 k_ (hs_).symm)) (fun hn_ => (.inr (Nat.le_trans (by first | exact HK.out.1 | exact (show Kept w _ (fun k_ => P0_ k_) from by repeat (first | (with_reducible first | exact HK.out | apply Kept.alloc | apply Kept.drewN | apply Kept.drew) | exact HK.out)).1) hn_))))); have n1_ := Aside0.mk (Kept.then_ (S := (fun k_ => P0_ k_)) (by repeat (first | (with_reducible first | exact HK.out | apply Kept.alloc | apply Kept.drewN | apply Kept.drew) | exact HK.out)) hkp (fun k_ hs_ => (fun e_ => (HO_0.out.1 k_ e_.symm)) hs_)); have n2_ := Aside0.mk (hb); clear HK; clear HB; clear HO_0; have HO208 := n0_; have HK := n1_; have HB := n2_; clear n0_ n1_ n2_; (try clear hb); (try clear hkp); (try clear ho0)))
          go_roundg k1
          case measure => have := HK1.out; omega
          case rel => exact ⟨(t206), (wrap64 (x5_1 + 1)), (by first | rfl | (simp; done) | (simp [*]; done)), H', ⟨by have := HK1.out; omega⟩, ⟨by (with_reducible repeat (first | apply Kd.R_alloc | apply Kd.R_drewN | apply Kd.R_drew)); exact HO208.out⟩, ⟨by repeat (first | (with_reducible first | exact HK.out | apply Kept.alloc | apply Kept.drewN | apply Kept.drew) | exact HK.out)⟩, ⟨by repeat (first | (with_reducible first | exact HB.out | apply below_alloc | apply pw_below_drewN | apply below_drew1) | exact HB.out)⟩⟩
        · rw [if_neg c7] at H
          exact absurd H (by simp)
      · rw [if_neg c6] at H
        have c6b0 : decide (x5_1 < (l1.length : Int)) = false := decide_eq_false c6
        clear c6
        obtain rfl := Option.some.inj H
        go_wp2
        go_ret
        exact ⟨_, by first | rfl | (simp [errW_none, errW_some] <;> rfl) | (simp [*, errW_none, errW_some] <;> rfl), by (with_reducible repeat (first | apply Kd.R_alloc | apply Kd.R_drewN | apply Kd.R_drew)); exact HO_0.out, by repeat (first | (with_reducible first | exact HB.out | apply below_alloc | apply pw_below_drewN | apply below_drew1) | exact HB.out), by repeat (first | (with_reducible first | exact HK.out | apply Kept.alloc | apply Kept.drewN | apply Kept.drew) | exact HK.out)⟩

/-! ### astrolaberef16_piece: function 58 -/
def astrolaberef16_piece.l0 : Nat → List Int → List (S47) → Int → Option (List Int)
  | 0, _, _, _ => none
  | k + 1, x0, x1, x5 => if x5 < (x1.length : Int) then (if 0 ≤ x5 then ((astrolaberef16_Number.f k x0 ((rd_T47 x1 x5).f0)).bind fun t214 => ((astrolaberef16_Number.f k t214 ((rd_T47 x1 x5).f1)).bind fun t217 => ((astrolaberef16_Number.f k t217 ((rd_T47 x1 x5).f2)).bind fun t220 => ((astrolaberef16_Number.f k t220 ((rd_T47 x1 x5).f3)).bind fun t223 => ((astrolaberef16_Number.f k t223 ((rd_T47 x1 x5).f4)).bind fun t226 => ((astrolaberef16_Number.f k t226 ((rd_T47 x1 x5).f5)).bind fun t229 => (astrolaberef16_piece.l0 k t229 x1 (wrap64 (x5 + 1))))))))) else (none)) else (some x0)
def astrolaberef16_piece.f (k : Nat) (l0 : List Int) (l1 : List (S47)) : Option (List Int) := (astrolaberef16_Number.f k l0 (l1.length : Int)).bind fun t209 => (astrolaberef16_piece.l0 k t209 l1 0)
theorem astrolaberef16_piece.mono_l : ∀ k, (∀ y0 y1 y2, LeO (astrolaberef16_piece.l0 k y0 y1 y2) (astrolaberef16_piece.l0 (k + 1) y0 y1 y2))
  | 0 => fun _ _ _ r h => by simp [astrolaberef16_piece.l0] at h
  | k + 1 => by
    have ih0 := astrolaberef16_piece.mono_l k
    · intro y0 y1 y2
      unfold astrolaberef16_piece.l0
      repeat' first
      | (with_reducible exact ih0 _ _ _)
      | (with_reducible exact astrolaberef16_Number.mono _ _ _)
      | (with_reducible exact LeO.refl _)
      | (with_reducible exact LeO.none _)
      | (with_reducible refine LeO.ite ?_ ?_)
      | (with_reducible refine LeO.bind ?_ (fun _ => ?_))
      | exact ih0 _ _ _
      | exact astrolaberef16_Number.mono _ _ _
      | exact LeO.none _
      | refine LeO.ite ?_ ?_
      | refine LeO.bind ?_ (fun _ => ?_)
theorem astrolaberef16_piece.mono : ∀ a0 a1 k, LeO (astrolaberef16_piece.f k a0 a1) (astrolaberef16_piece.f (k + 1) a0 a1) := by
  intro a0 a1 k
  have ih0 := astrolaberef16_piece.mono_l k
  unfold astrolaberef16_piece.f
  repeat' first
      | (with_reducible exact ih0 _ _ _)
      | (with_reducible exact astrolaberef16_Number.mono _ _ _)
      | (with_reducible exact LeO.refl _)
      | (with_reducible exact LeO.none _)
      | (with_reducible refine LeO.ite ?_ ?_)
      | (with_reducible refine LeO.bind ?_ (fun _ => ?_))
      | exact ih0 _ _ _
      | exact astrolaberef16_Number.mono _ _ _
      | exact LeO.none _
      | refine LeO.ite ?_ ?_
      | refine LeO.bind ?_ (fun _ => ?_)
set_option maxHeartbeats 8000000 in
set_option maxRecDepth 100000 in
theorem astrolaberef16_piece.calls (k : Nat) (P0_ : Nat → Prop) (u9000_ : Value) (l0 : List Int) (A1 : Option Addr) (c1 : Nat) (l1 : List (S47)) (r : List Int) (w0 w : World) (hB : Below w0.heap.size w0 w) (ho0 : Kd.R (Kd.int .u8) 5 w w0.heap.size P0_ u9000_ l0) (hr1 : ∀ W_, Kept w W_ (fun k_ => P0_ k_) → Kd.C k47 W_ A1 l1.length l1) (hc1 : l1.length ≤ c1) (h : astrolaberef16_piece.f k l0 l1 = some r) :
    Calls Try.prog 58 #[u9000_, .slice A1 l1.length c1] w fun e w' => ∃ v0_ : Value, e = .returned (v0_) ∧ Kd.R (Kd.int .u8) 5 w' w0.heap.size (fun k_ => (P0_ k_ ∨ w.heap.size ≤ k_)) v0_ r ∧ Below w0.heap.size w0 w' ∧ Kept w w' (fun k_ => P0_ k_) := by
  have hu47 := Try.underlying47
  have HO0 := Aside0.mk (show Kd.R (Kd.int .u8) 5 w w0.heap.size (fun k_ => (P0_ k_ ∨ w.heap.size ≤ k_)) u9000_ l0 from Kd.R_mono ho0 (fun k_ hk => (.inl hk)))
  have HR1 := Aside0.mk hr1
  have HC1 := Aside0.mk hc1
  clear hr1 hc1
  have HK := Aside0.mk (Kept.refl w (fun k_ => P0_ k_))
  have HW0 := Aside0.mk hB.size
  have HB := Aside0.mk hB
  clear hB
  have H : ((astrolaberef16_Number.f k l0 (l1.length : Int)).bind fun t209 => (astrolaberef16_piece.l0 k t209 l1 0)) = some r := h
  clear h
  replace H := Option.bind_eq_some_iff.mp H
  obtain ⟨t209, A30, H⟩ := H
  replace H : (astrolaberef16_piece.l0 k t209 l1 0) = some r := H
  have A3 := Aside0.mk A30
  clear A30
  have H' := Aside0.mk H
  clear H
  obtain ⟨Ao4, co4, eo4⟩ := Kd.R_slice HO0.out
  subst eo4
  go_enter Try.func58, Try.ntmps58
  go_wp2_with (first | ((with_reducible refine gate_callee (f := 57) rfl ?_); refine goesL_ (some 10) rfl rfl Try.func57 (by kernel_rfl) rfl #[.slice Ao4 l0.length co4, .int .i64 (l1.length : Int)] rfl (by (try simp only [List.map_toArray, List.map_cons, List.map_nil]); first | done | rfl | (simp only [List.length_drop, List.length_take]; rfl)) ?_; (with_reducible refine (astrolaberef16_Number.calls k (fun k_ => some k_ = (.slice Ao4 l0.length co4 : Value).ownBlock) (.slice Ao4 l0.length co4) l0 (l1.length : Int) t209 w0 _ ?side1 ?side2 A3.out).mono ?_); (case side1 => repeat (first | (with_reducible first | exact HB.out | apply below_alloc | apply pw_below_drewN | apply below_drew1) | exact HB.out)); (case side2 => exact Kd.R_tight rfl HO0.out); rintro e w5 ⟨v210, rfl, ho0, hb, hkp⟩; refine ⟨_, rfl, ?_⟩; have n0_ := Aside0.mk (Kd.R_mono (ok' := fun k_ => (P0_ k_ ∨ w.heap.size ≤ k_)) ho0 (fun k_ hk_ => Or.elim hk_ (fun hs_ => (HO0.out.1 k_ (hs_).symm)) (fun hn_ => (.inr (Nat.le_trans (by first | exact HK.out.1 | exact (show Kept w _ (fun k_ => P0_ k_) from by repeat (first | (with_reducible first | exact HK.out | apply Kept.alloc | apply Kept.drewN | apply Kept.drew) | exact HK.out)).1) hn_))))); have n1_ := Aside0.mk (Kept.then_ (S := (fun k_ => P0_ k_)) (by repeat (first | (with_reducible first | exact HK.out | apply Kept.alloc | apply Kept.drewN | apply Kept.drew) | exact HK.out)) hkp (fun k_ hs_ => (fun e_ => (HO0.out.1 k_ e_.symm)) hs_)); have n2_ := Aside0.mk (hb); clear HK; clear HB; clear HO0; have HO211 := n0_; have HK := n1_; have HB := n2_; clear n0_ n1_ n2_; (try clear hb); (try clear hkp); (try clear ho0)))
  go_loopg [0, 5] k (fun kq v0 v5 w' => ∃ (x0_1 : List Int) (x5_1 : Int), v5 = .int .i64 x5_1 ∧ Aside0 (astrolaberef16_piece.l0 kq x0_1 l1 x5_1 = some r) ∧ Aside0 (kq ≤ k) ∧ Aside0 (Kd.R (Kd.int .u8) 5 w' w0.heap.size (fun k_ => (P0_ k_ ∨ w.heap.size ≤ k_)) v0 x0_1) ∧ Aside0 (Kept w w' (fun k_ => P0_ k_)) ∧ Aside0 (Below w0.heap.size w0 w'))
  case atStart => exact ⟨(t209), (0), (by first | rfl | (simp; done) | (simp [*]; done)), H', ⟨Nat.le_refl _⟩, ⟨by (with_reducible repeat (first | apply Kd.R_alloc | apply Kd.R_drewN | apply Kd.R_drew)); exact HO211.out⟩, ⟨by repeat (first | (with_reducible first | exact HK.out | apply Kept.alloc | apply Kept.drewN | apply Kept.drew) | exact HK.out)⟩, ⟨by repeat (first | (with_reducible first | exact HB.out | apply below_alloc | apply pw_below_drewN | apply below_drew1) | exact HB.out)⟩⟩
  case round =>
    clear H'
    try clear c1
    try clear p2
    try clear c5
    obtain ⟨x0_1, x5_1, rfl, HA, HK1, HO_0, HK, HB⟩ := hrel
    cases gk with
    | zero => exact absurd HA.out (by simp [astrolaberef16_piece.l0])
    | succ k1 =>
      have H := HA.out
      clear HA
      simp only [astrolaberef16_piece.l0] at H
      by_cases c6 : x5_1 < (l1.length : Int)
      · rw [if_pos c6] at H
        have c6b0 : decide (x5_1 < (l1.length : Int)) = true := decide_eq_true c6
        clear c6
        by_cases c7 : 0 ≤ x5_1
        · rw [if_pos c7] at H
          have c7b0 : decide (0 ≤ x5_1) = true := decide_eq_true c7
          clear c7
          replace H := Option.bind_eq_some_iff.mp H
          obtain ⟨t214, A80, H⟩ := H
          replace H : ((astrolaberef16_Number.f k1 t214 ((rd_T47 l1 x5_1).f1)).bind fun t217 => ((astrolaberef16_Number.f k1 t217 ((rd_T47 l1 x5_1).f2)).bind fun t220 => ((astrolaberef16_Number.f k1 t220 ((rd_T47 l1 x5_1).f3)).bind fun t223 => ((astrolaberef16_Number.f k1 t223 ((rd_T47 l1 x5_1).f4)).bind fun t226 => ((astrolaberef16_Number.f k1 t226 ((rd_T47 l1 x5_1).f5)).bind fun t229 => (astrolaberef16_piece.l0 k1 t229 l1 (wrap64 (x5_1 + 1)))))))) = some r := H
          have A8 := Aside0.mk A80
          clear A80
          replace H := Option.bind_eq_some_iff.mp H
          obtain ⟨t217, A90, H⟩ := H
          replace H : ((astrolaberef16_Number.f k1 t217 ((rd_T47 l1 x5_1).f2)).bind fun t220 => ((astrolaberef16_Number.f k1 t220 ((rd_T47 l1 x5_1).f3)).bind fun t223 => ((astrolaberef16_Number.f k1 t223 ((rd_T47 l1 x5_1).f4)).bind fun t226 => ((astrolaberef16_Number.f k1 t226 ((rd_T47 l1 x5_1).f5)).bind fun t229 => (astrolaberef16_piece.l0 k1 t229 l1 (wrap64 (x5_1 + 1))))))) = some r := H
          have A9 := Aside0.mk A90
          clear A90
          replace H := Option.bind_eq_some_iff.mp H
          obtain ⟨t220, A100, H⟩ := H
          replace H : ((astrolaberef16_Number.f k1 t220 ((rd_T47 l1 x5_1).f3)).bind fun t223 => ((astrolaberef16_Number.f k1 t223 ((rd_T47 l1 x5_1).f4)).bind fun t226 => ((astrolaberef16_Number.f k1 t226 ((rd_T47 l1 x5_1).f5)).bind fun t229 => (astrolaberef16_piece.l0 k1 t229 l1 (wrap64 (x5_1 + 1)))))) = some r := H
          have A10 := Aside0.mk A100
          clear A100
          replace H := Option.bind_eq_some_iff.mp H
          obtain ⟨t223, A110, H⟩ := H
          replace H : ((astrolaberef16_Number.f k1 t223 ((rd_T47 l1 x5_1).f4)).bind fun t226 => ((astrolaberef16_Number.f k1 t226 ((rd_T47 l1 x5_1).f5)).bind fun t229 => (astrolaberef16_piece.l0 k1 t229 l1 (wrap64 (x5_1 + 1))))) = some r := H
          have A11 := Aside0.mk A110
          clear A110
          replace H := Option.bind_eq_some_iff.mp H
          obtain ⟨t226, A120, H⟩ := H
          replace H : ((astrolaberef16_Number.f k1 t226 ((rd_T47 l1 x5_1).f5)).bind fun t229 => (astrolaberef16_piece.l0 k1 t229 l1 (wrap64 (x5_1 + 1)))) = some r := H
          have A12 := Aside0.mk A120
          clear A120
          replace H := Option.bind_eq_some_iff.mp H
          obtain ⟨t229, A130, H⟩ := H
          replace H : (astrolaberef16_piece.l0 k1 t229 l1 (wrap64 (x5_1 + 1))) = some r := H
          have A13 := Aside0.mk A130
          clear A130
          have H' := Aside0.mk H
          clear H
          have p212 : 0 ≤ (x5_1 : Int) := of_decide_eq_true (by first | (with_reducible assumption) | assumption)
          have q212 : x5_1 < (l1.length : Int) := of_decide_eq_true (by first | (with_reducible assumption) | assumption)
          obtain ⟨ad212, e212, hx212_0, hx212_1, hx212_2, hx212_3, hx212_4, hx212_5⟩ := at_T47 (Kd.C_kept_now HR1.out HK.out) x5_1 p212 q212
          cases e212
          replace p212 := eq_true p212
          replace q212 := eq_true q212
          go_wp2_with (first | ((with_reducible refine gate_dst (N := 6) rfl ?_); refine box_event ?hg (N := 6) ?hd (cs := #[.int .i64 0, .int .i64 0, .int .i64 0, .int .i64 0, .int .i64 0, .int .i64 0]) (t := 47) ?hr ?_; (case hd => rfl); (case hg => rfl); (case hr => first | (go_simp; done) | (go_simp; rfl)); intro gb213 hg w14 hbox hb; have n0_ := Aside0.mk (Kd.R_below (by (with_reducible repeat (first | apply Kd.R_alloc | apply Kd.R_drewN | apply Kd.R_drew)); exact HO_0.out) hb); have n1_ := Aside0.mk (Kept.below (S := (fun k_ => P0_ k_)) (by repeat (first | (with_reducible first | exact HK.out | apply Kept.alloc | apply Kept.drewN | apply Kept.drew) | exact HK.out)) hb); have n2_ := Aside0.mk (below_step (by repeat (first | (with_reducible first | exact HB.out | apply below_alloc | apply pw_below_drewN | apply below_drew1) | exact HB.out)) hb); have n3_ := Aside0.mk (hbox); have n4_ := Aside0.mk ((by rw [hg]; exact (by first | exact HK.out.1 | exact (show Kept w _ (fun k_ => P0_ k_) from by repeat (first | (with_reducible first | exact HK.out | apply Kept.alloc | apply Kept.drewN | apply Kept.drew) | exact HK.out)).1) : w.heap.size ≤ gb213)); have n5_ := Aside0.mk ((by rw [hg]; exact (below_size (by repeat (first | (with_reducible first | exact HB.out | apply below_alloc | apply pw_below_drewN | apply below_drew1) | exact HB.out))) : w0.heap.size ≤ gb213)); clear HO_0; clear HK; clear HB; have HO_0 := n0_; have HK := n1_; have HB := n2_; have BK213 := n3_; have GW213 := n4_; have GE213 := n5_; clear n0_ n1_ n2_ n3_ n4_ n5_; clear hb hbox hg; have hcz15_0 : w14.cell? ⟨gb213, 0, none⟩ = some (.int .i64 0) := (blk_cell BK213.out 0).trans rfl; have hcz15_1 : w14.cell? ⟨gb213, 1, none⟩ = some (.int .i64 0) := (blk_cell BK213.out 1).trans rfl; have hcz15_2 : w14.cell? ⟨gb213, 2, none⟩ = some (.int .i64 0) := (blk_cell BK213.out 2).trans rfl; have hcz15_3 : w14.cell? ⟨gb213, 3, none⟩ = some (.int .i64 0) := (blk_cell BK213.out 3).trans rfl; have hcz15_4 : w14.cell? ⟨gb213, 4, none⟩ = some (.int .i64 0) := (blk_cell BK213.out 4).trans rfl; have hcz15_5 : w14.cell? ⟨gb213, 5, none⟩ = some (.int .i64 0) := (blk_cell BK213.out 5).trans rfl; have hfz15_0 := blk_frozen BK213.out 0; have hfz15_1 := blk_frozen BK213.out 1; have hfz15_2 := blk_frozen BK213.out 2; have hfz15_3 := blk_frozen BK213.out 3; have hfz15_4 := blk_frozen BK213.out 4; have hfz15_5 := blk_frozen BK213.out 5) | ((with_reducible refine gate_store (t := 47) (p := 6) rfl ?_); refine store_event (t := 47) (p := 6) (v := ?vo_w16) (w1 := ((((((w14.setCell ⟨gb213, 0, none⟩ (.int .i64 ((rd_T47 l1 x5_1).f0))).setCell ⟨gb213, 1, none⟩ (.int .i64 ((rd_T47 l1 x5_1).f1))).setCell ⟨gb213, 2, none⟩ (.int .i64 ((rd_T47 l1 x5_1).f2))).setCell ⟨gb213, 3, none⟩ (.int .i64 ((rd_T47 l1 x5_1).f3))).setCell ⟨gb213, 4, none⟩ (.int .i64 ((rd_T47 l1 x5_1).f4))).setCell ⟨gb213, 5, none⟩ (.int .i64 ((rd_T47 l1 x5_1).f5)))) ?hg ?ho ?hn ?hr ?_; (case ho => rfl); (case hg => rfl); (case hn => rfl); (case hr => first | (go_simp; done) | (go_simp; rfl)); intro w16 hw; have n0_ : Aside0 (Kd.R (Kd.int .u8) 5 w16 w0.heap.size (fun k_ => (P0_ k_ ∨ w.heap.size ≤ k_)) u0 x0_1) := ⟨(by rw [hw]; exact (by (with_reducible repeat (first | apply Kd.R_alloc | apply Kd.R_drewN | apply Kd.R_drew)); exact Kd.R_mono (Kd.R_far (p := ⟨gb213, 5, none⟩) (Kd.R_far (p := ⟨gb213, 4, none⟩) (Kd.R_far (p := ⟨gb213, 3, none⟩) (Kd.R_far (p := ⟨gb213, 2, none⟩) (Kd.R_far (p := ⟨gb213, 1, none⟩) (Kd.R_far (p := ⟨gb213, 0, none⟩) (Kd.R_types HO_0.out BK213.out (by decide)) (fun _ hk => hk.2) (.int .i64 ((rd_T47 l1 x5_1).f0))) (fun _ hk => hk.2) (.int .i64 ((rd_T47 l1 x5_1).f1))) (fun _ hk => hk.2) (.int .i64 ((rd_T47 l1 x5_1).f2))) (fun _ hk => hk.2) (.int .i64 ((rd_T47 l1 x5_1).f3))) (fun _ hk => hk.2) (.int .i64 ((rd_T47 l1 x5_1).f4))) (fun _ hk => hk.2) (.int .i64 ((rd_T47 l1 x5_1).f5))) (fun _ hk => hk.1)))⟩; have n1_ : Aside0 (w16.heap[gb213]? = some (.cells #[.int .i64 ((rd_T47 l1 x5_1).f0), .int .i64 ((rd_T47 l1 x5_1).f1), .int .i64 ((rd_T47 l1 x5_1).f2), .int .i64 ((rd_T47 l1 x5_1).f3), .int .i64 ((rd_T47 l1 x5_1).f4), .int .i64 ((rd_T47 l1 x5_1).f5)] 47 (0, 0))) := ⟨(by rw [hw]; exact (by (with_reducible repeat (first | refine blk_drewN ?_ _ | refine blk_drew ?_ | refine blk_alloc ?_ _)); refine blk_put (cs := #[.int .i64 ((rd_T47 l1 x5_1).f0), .int .i64 ((rd_T47 l1 x5_1).f1), .int .i64 ((rd_T47 l1 x5_1).f2), .int .i64 ((rd_T47 l1 x5_1).f3), .int .i64 ((rd_T47 l1 x5_1).f4), .int .i64 0]) ?_ 5 _ rfl; (with_reducible repeat (first | refine blk_drewN ?_ _ | refine blk_drew ?_ | refine blk_alloc ?_ _)); refine blk_put (cs := #[.int .i64 ((rd_T47 l1 x5_1).f0), .int .i64 ((rd_T47 l1 x5_1).f1), .int .i64 ((rd_T47 l1 x5_1).f2), .int .i64 ((rd_T47 l1 x5_1).f3), .int .i64 0, .int .i64 0]) ?_ 4 _ rfl; (with_reducible repeat (first | refine blk_drewN ?_ _ | refine blk_drew ?_ | refine blk_alloc ?_ _)); refine blk_put (cs := #[.int .i64 ((rd_T47 l1 x5_1).f0), .int .i64 ((rd_T47 l1 x5_1).f1), .int .i64 ((rd_T47 l1 x5_1).f2), .int .i64 0, .int .i64 0, .int .i64 0]) ?_ 3 _ rfl; (with_reducible repeat (first | refine blk_drewN ?_ _ | refine blk_drew ?_ | refine blk_alloc ?_ _)); refine blk_put (cs := #[.int .i64 ((rd_T47 l1 x5_1).f0), .int .i64 ((rd_T47 l1 x5_1).f1), .int .i64 0, .int .i64 0, .int .i64 0, .int .i64 0]) ?_ 2 _ rfl; (with_reducible repeat (first | refine blk_drewN ?_ _ | refine blk_drew ?_ | refine blk_alloc ?_ _)); refine blk_put (cs := #[.int .i64 ((rd_T47 l1 x5_1).f0), .int .i64 0, .int .i64 0, .int .i64 0, .int .i64 0, .int .i64 0]) ?_ 1 _ rfl; (with_reducible repeat (first | refine blk_drewN ?_ _ | refine blk_drew ?_ | refine blk_alloc ?_ _)); refine blk_put (cs := #[.int .i64 0, .int .i64 0, .int .i64 0, .int .i64 0, .int .i64 0, .int .i64 0]) ?_ 0 _ rfl; (with_reducible repeat (first | refine blk_drewN ?_ _ | refine blk_drew ?_ | refine blk_alloc ?_ _)); exact BK213.out))⟩; have n2_ : Aside0 (Kept w w16 (fun k_ => P0_ k_)) := ⟨(by rw [hw]; exact (by repeat (first | (with_reducible first | exact HK.out | apply Kept.alloc | apply Kept.drewN | apply Kept.drew | refine Kept.setCell ?_ (.inr GW213.out) _) | exact HK.out)))⟩; have n3_ : Aside0 (Below w0.heap.size w0 w16) := ⟨(by rw [hw]; exact (by repeat (first | (with_reducible first | exact HB.out | apply below_alloc | apply pw_below_drewN | apply below_drew1 | refine below_set ?_ GE213.out) | exact HB.out)))⟩; clear hw; clear HO_0; clear BK213; clear HK; clear HB; have HO_0 := n0_; have BK213 := n1_; have HK := n2_; have HB := n3_; clear n0_ n1_ n2_ n3_; have hcz17_0 : w16.cell? ⟨gb213, 0, none⟩ = some (.int .i64 ((rd_T47 l1 x5_1).f0)) := (blk_cell BK213.out 0).trans rfl; have hcz17_1 : w16.cell? ⟨gb213, 1, none⟩ = some (.int .i64 ((rd_T47 l1 x5_1).f1)) := (blk_cell BK213.out 1).trans rfl; have hcz17_2 : w16.cell? ⟨gb213, 2, none⟩ = some (.int .i64 ((rd_T47 l1 x5_1).f2)) := (blk_cell BK213.out 2).trans rfl; have hcz17_3 : w16.cell? ⟨gb213, 3, none⟩ = some (.int .i64 ((rd_T47 l1 x5_1).f3)) := (blk_cell BK213.out 3).trans rfl; have hcz17_4 : w16.cell? ⟨gb213, 4, none⟩ = some (.int .i64 ((rd_T47 l1 x5_1).f4)) := (blk_cell BK213.out 4).trans rfl; have hcz17_5 : w16.cell? ⟨gb213, 5, none⟩ = some (.int .i64 ((rd_T47 l1 x5_1).f5)) := (blk_cell BK213.out 5).trans rfl; have hfz17_0 := blk_frozen BK213.out 0; have hfz17_1 := blk_frozen BK213.out 1; have hfz17_2 := blk_frozen BK213.out 2; have hfz17_3 := blk_frozen BK213.out 3; have hfz17_4 := blk_frozen BK213.out 4; have hfz17_5 := blk_frozen BK213.out 5; obtain ⟨Ao18, co18, eo18⟩ := Kd.R_slice HO_0.out; subst eo18) | ((with_reducible refine gate_callee (f := 57) rfl ?_); refine goesL_ (some 24) rfl rfl Try.func57 (by kernel_rfl) rfl #[.slice Ao18 x0_1.length co18, .int .i64 ((rd_T47 l1 x5_1).f0)] rfl (by (try simp only [List.map_toArray, List.map_cons, List.map_nil]); first | done | rfl | (simp only [List.length_drop, List.length_take]; rfl)) ?_; (with_reducible refine (astrolaberef16_Number.calls k1 (fun k_ => some k_ = (.slice Ao18 x0_1.length co18 : Value).ownBlock) (.slice Ao18 x0_1.length co18) x0_1 ((rd_T47 l1 x5_1).f0) t214 w0 _ ?side1 ?side2 A8.out).mono ?_); (case side1 => repeat (first | (with_reducible first | exact HB.out | apply below_alloc | apply pw_below_drewN | apply below_drew1 | refine below_set ?_ GE213.out) | exact HB.out)); (case side2 => exact Kd.R_tight rfl HO_0.out); rintro e w19 ⟨v215, rfl, ho0, hb, hkp⟩; refine ⟨_, rfl, ?_⟩; have n0_ := Aside0.mk (blk_kept (by (with_reducible repeat (first | refine blk_drewN ?_ _ | refine blk_drew ?_ | refine blk_alloc ?_ _)); exact BK213.out) hkp (fun hs_ => (fun e_ => (Kd.R_ne HO_0.out BK213.out (by decide)) e_) hs_)); have n1_ := Aside0.mk (Kd.R_mono (ok' := fun k_ => (P0_ k_ ∨ w.heap.size ≤ k_)) ho0 (fun k_ hk_ => Or.elim hk_ (fun hs_ => (HO_0.out.1 k_ (hs_).symm)) (fun hn_ => (.inr (Nat.le_trans (by first | exact HK.out.1 | exact (show Kept w _ (fun k_ => P0_ k_) from by repeat (first | (with_reducible first | exact HK.out | apply Kept.alloc | apply Kept.drewN | apply Kept.drew | refine Kept.setCell ?_ (.inr GW213.out) _) | exact HK.out)).1) hn_))))); have n2_ := Aside0.mk (Kept.then_ (S := (fun k_ => P0_ k_)) (by repeat (first | (with_reducible first | exact HK.out | apply Kept.alloc | apply Kept.drewN | apply Kept.drew | refine Kept.setCell ?_ (.inr GW213.out) _) | exact HK.out)) hkp (fun k_ hs_ => (fun e_ => (HO_0.out.1 k_ e_.symm)) hs_)); have n3_ := Aside0.mk (hb); clear BK213; clear HK; clear HB; clear HO_0; have BK213 := n0_; have HO216 := n1_; have HK := n2_; have HB := n3_; clear n0_ n1_ n2_ n3_; (try clear hb); (try clear hkp); (try clear ho0); have hcz20_0 : w19.cell? ⟨gb213, 0, none⟩ = some (.int .i64 ((rd_T47 l1 x5_1).f0)) := (blk_cell BK213.out 0).trans rfl; have hcz20_1 : w19.cell? ⟨gb213, 1, none⟩ = some (.int .i64 ((rd_T47 l1 x5_1).f1)) := (blk_cell BK213.out 1).trans rfl; have hcz20_2 : w19.cell? ⟨gb213, 2, none⟩ = some (.int .i64 ((rd_T47 l1 x5_1).f2)) := (blk_cell BK213.out 2).trans rfl; have hcz20_3 : w19.cell? ⟨gb213, 3, none⟩ = some (.int .i64 ((rd_T47 l1 x5_1).f3)) := (blk_cell BK213.out 3).trans rfl; have hcz20_4 : w19.cell? ⟨gb213, 4, none⟩ = some (.int .i64 ((rd_T47 l1 x5_1).f4)) := (blk_cell BK213.out 4).trans rfl; have hcz20_5 : w19.cell? ⟨gb213, 5, none⟩ = some (.int .i64 ((rd_T47 l1 x5_1).f5)) := (blk_cell BK213.out 5).trans rfl; have hfz20_0 := blk_frozen BK213.out 0; have hfz20_1 := blk_frozen BK213.out 1; have hfz20_2 := blk_frozen BK213.out 2; have hfz20_3 := blk_frozen BK213.out 3; have hfz20_4 := blk_frozen BK213.out 4; have hfz20_5 := blk_frozen BK213.out 5; obtain ⟨Ao21, co21, eo21⟩ := Kd.R_slice HO216.out; subst eo21) | ((with_reducible refine gate_callee (f := 57) rfl ?_); refine goesL_ (some 28) rfl rfl Try.func57 (by kernel_rfl) rfl #[.slice Ao21 t214.length co21, .int .i64 ((rd_T47 l1 x5_1).f1)] rfl (by (try simp only [List.map_toArray, List.map_cons, List.map_nil]); first | done | rfl | (simp only [List.length_drop, List.length_take]; rfl)) ?_; (with_reducible refine (astrolaberef16_Number.calls k1 (fun k_ => some k_ = (.slice Ao21 t214.length co21 : Value).ownBlock) (.slice Ao21 t214.length co21) t214 ((rd_T47 l1 x5_1).f1) t217 w0 _ ?side1 ?side2 A9.out).mono ?_); (case side1 => repeat (first | (with_reducible first | exact HB.out | apply below_alloc | apply pw_below_drewN | apply below_drew1 | refine below_set ?_ GE213.out) | exact HB.out)); (case side2 => exact Kd.R_tight rfl HO216.out); rintro e w22 ⟨v218, rfl, ho0, hb, hkp⟩; refine ⟨_, rfl, ?_⟩; have n0_ := Aside0.mk (blk_kept (by (with_reducible repeat (first | refine blk_drewN ?_ _ | refine blk_drew ?_ | refine blk_alloc ?_ _)); exact BK213.out) hkp (fun hs_ => (fun e_ => (Kd.R_ne HO216.out BK213.out (by decide)) e_) hs_)); have n1_ := Aside0.mk (Kd.R_mono (ok' := fun k_ => (P0_ k_ ∨ w.heap.size ≤ k_)) ho0 (fun k_ hk_ => Or.elim hk_ (fun hs_ => (HO216.out.1 k_ (hs_).symm)) (fun hn_ => (.inr (Nat.le_trans (by first | exact HK.out.1 | exact (show Kept w _ (fun k_ => P0_ k_) from by repeat (first | (with_reducible first | exact HK.out | apply Kept.alloc | apply Kept.drewN | apply Kept.drew | refine Kept.setCell ?_ (.inr GW213.out) _) | exact HK.out)).1) hn_))))); have n2_ := Aside0.mk (Kept.then_ (S := (fun k_ => P0_ k_)) (by repeat (first | (with_reducible first | exact HK.out | apply Kept.alloc | apply Kept.drewN | apply Kept.drew | refine Kept.setCell ?_ (.inr GW213.out) _) | exact HK.out)) hkp (fun k_ hs_ => (fun e_ => (HO216.out.1 k_ e_.symm)) hs_)); have n3_ := Aside0.mk (hb); clear BK213; clear HK; clear HB; clear HO216; have BK213 := n0_; have HO219 := n1_; have HK := n2_; have HB := n3_; clear n0_ n1_ n2_ n3_; (try clear hb); (try clear hkp); (try clear ho0); have hcz23_0 : w22.cell? ⟨gb213, 0, none⟩ = some (.int .i64 ((rd_T47 l1 x5_1).f0)) := (blk_cell BK213.out 0).trans rfl; have hcz23_1 : w22.cell? ⟨gb213, 1, none⟩ = some (.int .i64 ((rd_T47 l1 x5_1).f1)) := (blk_cell BK213.out 1).trans rfl; have hcz23_2 : w22.cell? ⟨gb213, 2, none⟩ = some (.int .i64 ((rd_T47 l1 x5_1).f2)) := (blk_cell BK213.out 2).trans rfl; have hcz23_3 : w22.cell? ⟨gb213, 3, none⟩ = some (.int .i64 ((rd_T47 l1 x5_1).f3)) := (blk_cell BK213.out 3).trans rfl; have hcz23_4 : w22.cell? ⟨gb213, 4, none⟩ = some (.int .i64 ((rd_T47 l1 x5_1).f4)) := (blk_cell BK213.out 4).trans rfl; have hcz23_5 : w22.cell? ⟨gb213, 5, none⟩ = some (.int .i64 ((rd_T47 l1 x5_1).f5)) := (blk_cell BK213.out 5).trans rfl; have hfz23_0 := blk_frozen BK213.out 0; have hfz23_1 := blk_frozen BK213.out 1; have hfz23_2 := blk_frozen BK213.out 2; have hfz23_3 := blk_frozen BK213.out 3; have hfz23_4 := blk_frozen BK213.out 4; have hfz23_5 := blk_frozen BK213.out 5; obtain ⟨Ao24, co24, eo24⟩ := Kd.R_slice HO219.out; subst eo24) | ((with_reducible refine gate_callee (f := 57) rfl ?_); refine goesL_ (some 32) rfl rfl Try.func57 (by kernel_rfl) rfl #[.slice Ao24 t217.length co24, .int .i64 ((rd_T47 l1 x5_1).f2)] rfl (by (try simp only [List.map_toArray, List.map_cons, List.map_nil]); first | done | rfl | (simp only [List.length_drop, List.length_take]; rfl)) ?_; (with_reducible refine (astrolaberef16_Number.calls k1 (fun k_ => some k_ = (.slice Ao24 t217.length co24 : Value).ownBlock) (.slice Ao24 t217.length co24) t217 ((rd_T47 l1 x5_1).f2) t220 w0 _ ?side1 ?side2 A10.out).mono ?_); (case side1 => repeat (first | (with_reducible first | exact HB.out | apply below_alloc | apply pw_below_drewN | apply below_drew1 | refine below_set ?_ GE213.out) | exact HB.out)); (case side2 => exact Kd.R_tight rfl HO219.out); rintro e w25 ⟨v221, rfl, ho0, hb, hkp⟩; refine ⟨_, rfl, ?_⟩; have n0_ := Aside0.mk (blk_kept (by (with_reducible repeat (first | refine blk_drewN ?_ _ | refine blk_drew ?_ | refine blk_alloc ?_ _)); exact BK213.out) hkp (fun hs_ => (fun e_ => (Kd.R_ne HO219.out BK213.out (by decide)) e_) hs_)); have n1_ := Aside0.mk (Kd.R_mono (ok' := fun k_ => (P0_ k_ ∨ w.heap.size ≤ k_)) ho0 (fun k_ hk_ => Or.elim hk_ (fun hs_ => (HO219.out.1 k_ (hs_).symm)) (fun hn_ => (.inr (Nat.le_trans (by first | exact HK.out.1 | exact (show Kept w _ (fun k_ => P0_ k_) from by repeat (first | (with_reducible first | exact HK.out | apply Kept.alloc | apply Kept.drewN | apply Kept.drew | refine Kept.setCell ?_ (.inr GW213.out) _) | exact HK.out)).1) hn_))))); have n2_ := Aside0.mk (Kept.then_ (S := (fun k_ => P0_ k_)) (by repeat (first | (with_reducible first | exact HK.out | apply Kept.alloc | apply Kept.drewN | apply Kept.drew | refine Kept.setCell ?_ (.inr GW213.out) _) | exact HK.out)) hkp (fun k_ hs_ => (fun e_ => (HO219.out.1 k_ e_.symm)) hs_)); have n3_ := Aside0.mk (hb); clear BK213; clear HK; clear HB; clear HO219; have BK213 := n0_; have HO222 := n1_; have HK := n2_; have HB := n3_; clear n0_ n1_ n2_ n3_; (try clear hb); (try clear hkp); (try clear ho0); have hcz26_0 : w25.cell? ⟨gb213, 0, none⟩ = some (.int .i64 ((rd_T47 l1 x5_1).f0)) := (blk_cell BK213.out 0).trans rfl; have hcz26_1 : w25.cell? ⟨gb213, 1, none⟩ = some (.int .i64 ((rd_T47 l1 x5_1).f1)) := (blk_cell BK213.out 1).trans rfl; have hcz26_2 : w25.cell? ⟨gb213, 2, none⟩ = some (.int .i64 ((rd_T47 l1 x5_1).f2)) := (blk_cell BK213.out 2).trans rfl; have hcz26_3 : w25.cell? ⟨gb213, 3, none⟩ = some (.int .i64 ((rd_T47 l1 x5_1).f3)) := (blk_cell BK213.out 3).trans rfl; have hcz26_4 : w25.cell? ⟨gb213, 4, none⟩ = some (.int .i64 ((rd_T47 l1 x5_1).f4)) := (blk_cell BK213.out 4).trans rfl; have hcz26_5 : w25.cell? ⟨gb213, 5, none⟩ = some (.int .i64 ((rd_T47 l1 x5_1).f5)) := (blk_cell BK213.out 5).trans rfl; have hfz26_0 := blk_frozen BK213.out 0; have hfz26_1 := blk_frozen BK213.out 1; have hfz26_2 := blk_frozen BK213.out 2; have hfz26_3 := blk_frozen BK213.out 3; have hfz26_4 := blk_frozen BK213.out 4; have hfz26_5 := blk_frozen BK213.out 5; obtain ⟨Ao27, co27, eo27⟩ := Kd.R_slice HO222.out; subst eo27) | ((with_reducible refine gate_callee (f := 57) rfl ?_); refine goesL_ (some 36) rfl rfl Try.func57 (by kernel_rfl) rfl #[.slice Ao27 t220.length co27, .int .i64 ((rd_T47 l1 x5_1).f3)] rfl (by (try simp only [List.map_toArray, List.map_cons, List.map_nil]); first | done | rfl | (simp only [List.length_drop, List.length_take]; rfl)) ?_; (with_reducible refine (astrolaberef16_Number.calls k1 (fun k_ => some k_ = (.slice Ao27 t220.length co27 : Value).ownBlock) (.slice Ao27 t220.length co27) t220 ((rd_T47 l1 x5_1).f3) t223 w0 _ ?side1 ?side2 A11.out).mono ?_); (case side1 => repeat (first | (with_reducible first | exact HB.out | apply below_alloc | apply pw_below_drewN | apply below_drew1 | refine below_set ?_ GE213.out) | exact HB.out)); (case side2 => exact Kd.R_tight rfl HO222.out); rintro e w28 ⟨v224, rfl, ho0, hb, hkp⟩; refine ⟨_, rfl, ?_⟩; have n0_ := Aside0.mk (blk_kept (by (with_reducible repeat (first | refine blk_drewN ?_ _ | refine blk_drew ?_ | refine blk_alloc ?_ _)); exact BK213.out) hkp (fun hs_ => (fun e_ => (Kd.R_ne HO222.out BK213.out (by decide)) e_) hs_)); have n1_ := Aside0.mk (Kd.R_mono (ok' := fun k_ => (P0_ k_ ∨ w.heap.size ≤ k_)) ho0 (fun k_ hk_ => Or.elim hk_ (fun hs_ => (HO222.out.1 k_ (hs_).symm)) (fun hn_ => (.inr (Nat.le_trans (by first | exact HK.out.1 | exact (show Kept w _ (fun k_ => P0_ k_) from by repeat (first | (with_reducible first | exact HK.out | apply Kept.alloc | apply Kept.drewN | apply Kept.drew | refine Kept.setCell ?_ (.inr GW213.out) _) | exact HK.out)).1) hn_))))); have n2_ := Aside0.mk (Kept.then_ (S := (fun k_ => P0_ k_)) (by repeat (first | (with_reducible first | exact HK.out | apply Kept.alloc | apply Kept.drewN | apply Kept.drew | refine Kept.setCell ?_ (.inr GW213.out) _) | exact HK.out)) hkp (fun k_ hs_ => (fun e_ => (HO222.out.1 k_ e_.symm)) hs_)); have n3_ := Aside0.mk (hb); clear BK213; clear HK; clear HB; clear HO222; have BK213 := n0_; have HO225 := n1_; have HK := n2_; have HB := n3_; clear n0_ n1_ n2_ n3_; (try clear hb); (try clear hkp); (try clear ho0); have hcz29_0 : w28.cell? ⟨gb213, 0, none⟩ = some (.int .i64 ((rd_T47 l1 x5_1).f0)) := (blk_cell BK213.out 0).trans rfl; have hcz29_1 : w28.cell? ⟨gb213, 1, none⟩ = some (.int .i64 ((rd_T47 l1 x5_1).f1)) := (blk_cell BK213.out 1).trans rfl; have hcz29_2 : w28.cell? ⟨gb213, 2, none⟩ = some (.int .i64 ((rd_T47 l1 x5_1).f2)) := (blk_cell BK213.out 2).trans rfl; have hcz29_3 : w28.cell? ⟨gb213, 3, none⟩ = some (.int .i64 ((rd_T47 l1 x5_1).f3)) := (blk_cell BK213.out 3).trans rfl; have hcz29_4 : w28.cell? ⟨gb213, 4, none⟩ = some (.int .i64 ((rd_T47 l1 x5_1).f4)) := (blk_cell BK213.out 4).trans rfl; have hcz29_5 : w28.cell? ⟨gb213, 5, none⟩ = some (.int .i64 ((rd_T47 l1 x5_1).f5)) := (blk_cell BK213.out 5).trans rfl; have hfz29_0 := blk_frozen BK213.out 0; have hfz29_1 := blk_frozen BK213.out 1; have hfz29_2 := blk_frozen BK213.out 2; have hfz29_3 := blk_frozen BK213.out 3; have hfz29_4 := blk_frozen BK213.out 4; have hfz29_5 := blk_frozen BK213.out 5; obtain ⟨Ao30, co30, eo30⟩ := Kd.R_slice HO225.out; subst eo30) | ((with_reducible refine gate_callee (f := 57) rfl ?_); refine goesL_ (some 40) rfl rfl Try.func57 (by kernel_rfl) rfl #[.slice Ao30 t223.length co30, .int .i64 ((rd_T47 l1 x5_1).f4)] rfl (by (try simp only [List.map_toArray, List.map_cons, List.map_nil]); first | done | rfl | (simp only [List.length_drop, List.length_take]; rfl)) ?_; (with_reducible refine (astrolaberef16_Number.calls k1 (fun k_ => some k_ = (.slice Ao30 t223.length co30 : Value).ownBlock) (.slice Ao30 t223.length co30) t223 ((rd_T47 l1 x5_1).f4) t226 w0 _ ?side1 ?side2 A12.out).mono ?_); (case side1 => repeat (first | (with_reducible first | exact HB.out | apply below_alloc | apply pw_below_drewN | apply below_drew1 | refine below_set ?_ GE213.out) | exact HB.out)); (case side2 => exact Kd.R_tight rfl HO225.out); rintro e w31 ⟨v227, rfl, ho0, hb, hkp⟩; refine ⟨_, rfl, ?_⟩; have n0_ := Aside0.mk (blk_kept (by (with_reducible repeat (first | refine blk_drewN ?_ _ | refine blk_drew ?_ | refine blk_alloc ?_ _)); exact BK213.out) hkp (fun hs_ => (fun e_ => (Kd.R_ne HO225.out BK213.out (by decide)) e_) hs_)); have n1_ := Aside0.mk (Kd.R_mono (ok' := fun k_ => (P0_ k_ ∨ w.heap.size ≤ k_)) ho0 (fun k_ hk_ => Or.elim hk_ (fun hs_ => (HO225.out.1 k_ (hs_).symm)) (fun hn_ => (.inr (Nat.le_trans (by first | exact HK.out.1 | exact (show Kept w _ (fun k_ => P0_ k_) from by repeat (first | (with_reducible first | exact HK.out | apply Kept.alloc | apply Kept.drewN | apply Kept.drew | refine Kept.setCell ?_ (.inr GW213.out) _) | exact HK.out)).1) hn_))))); have n2_ := Aside0.mk (Kept.then_ (S := (fun k_ => P0_ k_)) (by repeat (first | (with_reducible first | exact HK.out | apply Kept.alloc | apply Kept.drewN | apply Kept.drew | refine Kept.setCell ?_ (.inr GW213.out) _) | exact HK.out)) hkp (fun k_ hs_ => (fun e_ => (HO225.out.1 k_ e_.symm)) hs_)); have n3_ := Aside0.mk (hb); clear BK213; clear HK; clear HB; clear HO225; have BK213 := n0_; have HO228 := n1_; have HK := n2_; have HB := n3_; clear n0_ n1_ n2_ n3_; (try clear hb); (try clear hkp); (try clear ho0); have hcz32_0 : w31.cell? ⟨gb213, 0, none⟩ = some (.int .i64 ((rd_T47 l1 x5_1).f0)) := (blk_cell BK213.out 0).trans rfl; have hcz32_1 : w31.cell? ⟨gb213, 1, none⟩ = some (.int .i64 ((rd_T47 l1 x5_1).f1)) := (blk_cell BK213.out 1).trans rfl; have hcz32_2 : w31.cell? ⟨gb213, 2, none⟩ = some (.int .i64 ((rd_T47 l1 x5_1).f2)) := (blk_cell BK213.out 2).trans rfl; have hcz32_3 : w31.cell? ⟨gb213, 3, none⟩ = some (.int .i64 ((rd_T47 l1 x5_1).f3)) := (blk_cell BK213.out 3).trans rfl; have hcz32_4 : w31.cell? ⟨gb213, 4, none⟩ = some (.int .i64 ((rd_T47 l1 x5_1).f4)) := (blk_cell BK213.out 4).trans rfl; have hcz32_5 : w31.cell? ⟨gb213, 5, none⟩ = some (.int .i64 ((rd_T47 l1 x5_1).f5)) := (blk_cell BK213.out 5).trans rfl; have hfz32_0 := blk_frozen BK213.out 0; have hfz32_1 := blk_frozen BK213.out 1; have hfz32_2 := blk_frozen BK213.out 2; have hfz32_3 := blk_frozen BK213.out 3; have hfz32_4 := blk_frozen BK213.out 4; have hfz32_5 := blk_frozen BK213.out 5; obtain ⟨Ao33, co33, eo33⟩ := Kd.R_slice HO228.out; subst eo33) | ((with_reducible refine gate_callee (f := 57) rfl ?_); refine goesL_ (some 44) rfl rfl Try.func57 (by kernel_rfl) rfl #[.slice Ao33 t226.length co33, .int .i64 ((rd_T47 l1 x5_1).f5)] rfl (by (try simp only [List.map_toArray, List.map_cons, List.map_nil]); first | done | rfl | (simp only [List.length_drop, List.length_take]; rfl)) ?_; (with_reducible refine (astrolaberef16_Number.calls k1 (fun k_ => some k_ = (.slice Ao33 t226.length co33 : Value).ownBlock) (.slice Ao33 t226.length co33) t226 ((rd_T47 l1 x5_1).f5) t229 w0 _ ?side1 ?side2 A13.out).mono ?_); (case side1 => repeat (first | (with_reducible first | exact HB.out | apply below_alloc | apply pw_below_drewN | apply below_drew1 | refine below_set ?_ GE213.out) | exact HB.out)); (case side2 => exact Kd.R_tight rfl HO228.out); rintro e w34 ⟨v230, rfl, ho0, hb, hkp⟩; refine ⟨_, rfl, ?_⟩; have n0_ := Aside0.mk (blk_kept (by (with_reducible repeat (first | refine blk_drewN ?_ _ | refine blk_drew ?_ | refine blk_alloc ?_ _)); exact BK213.out) hkp (fun hs_ => (fun e_ => (Kd.R_ne HO228.out BK213.out (by decide)) e_) hs_)); have n1_ := Aside0.mk (Kd.R_mono (ok' := fun k_ => (P0_ k_ ∨ w.heap.size ≤ k_)) ho0 (fun k_ hk_ => Or.elim hk_ (fun hs_ => (HO228.out.1 k_ (hs_).symm)) (fun hn_ => (.inr (Nat.le_trans (by first | exact HK.out.1 | exact (show Kept w _ (fun k_ => P0_ k_) from by repeat (first | (with_reducible first | exact HK.out | apply Kept.alloc | apply Kept.drewN | apply Kept.drew | refine Kept.setCell ?_ (.inr GW213.out) _) | exact HK.out)).1) hn_))))); have n2_ := Aside0.mk (Kept.then_ (S := (fun k_ => P0_ k_)) (by repeat (first | (with_reducible first | exact HK.out | apply Kept.alloc | apply Kept.drewN | apply Kept.drew | refine Kept.setCell ?_ (.inr GW213.out) _) | exact HK.out)) hkp (fun k_ hs_ => (fun e_ => (HO228.out.1 k_ e_.symm)) hs_)); have n3_ := Aside0.mk (hb); clear BK213; clear HK; clear HB; clear HO228; have BK213 := n0_; have HO231 := n1_; have HK := n2_; have HB := n3_; clear n0_ n1_ n2_ n3_; (try clear hb); (try clear hkp); (try clear ho0)))
          go_roundg k1
          case measure => have := HK1.out; omega
          case rel => exact ⟨(t229), (wrap64 (x5_1 + 1)), (by first | rfl | (simp; done) | (simp [*]; done)), H', ⟨by have := HK1.out; omega⟩, ⟨by (with_reducible repeat (first | apply Kd.R_alloc | apply Kd.R_drewN | apply Kd.R_drew)); exact HO231.out⟩, ⟨by repeat (first | (with_reducible first | exact HK.out | apply Kept.alloc | apply Kept.drewN | apply Kept.drew | refine Kept.setCell ?_ (.inr GW213.out) _) | exact HK.out)⟩, ⟨by repeat (first | (with_reducible first | exact HB.out | apply below_alloc | apply pw_below_drewN | apply below_drew1 | refine below_set ?_ GE213.out) | exact HB.out)⟩⟩
        · rw [if_neg c7] at H
          exact absurd H (by simp)
      · rw [if_neg c6] at H
        have c6b0 : decide (x5_1 < (l1.length : Int)) = false := decide_eq_false c6
        clear c6
        obtain rfl := Option.some.inj H
        go_wp2
        go_ret
        exact ⟨_, by first | rfl | (simp [errW_none, errW_some] <;> rfl) | (simp [*, errW_none, errW_some] <;> rfl), by (with_reducible repeat (first | apply Kd.R_alloc | apply Kd.R_drewN | apply Kd.R_drew)); exact HO_0.out, by repeat (first | (with_reducible first | exact HB.out | apply below_alloc | apply pw_below_drewN | apply below_drew1) | exact HB.out), by repeat (first | (with_reducible first | exact HK.out | apply Kept.alloc | apply Kept.drewN | apply Kept.drew) | exact HK.out)⟩

/-! ### astrolaberef16_Sum: function 59 -/
mutual
def astrolaberef16_Sum.l0 : Nat → List Int → Int → Int → Option (List Int)
  | 0, _, _, _ => none
  | k + 1, x0, x3, x4 => if x4 < (x0.length : Int) then (if 0 ≤ x4 then (astrolaberef16_Sum.l0 k x0 (((Go.bits .xor .u32 x3 ((rd x0 x4) % 4294967296)) * 16777619) % 4294967296) (wrap64 (x4 + 1))) else (none)) else ((some (([] : List Int) : List Int)).bind fun y233 => (if y233.length + x0.length < 140737488355328 then (astrolaberef16_Sum.l1 k x3 (y233 ++ x0) 0) else (none)))
def astrolaberef16_Sum.l1 : Nat → Int → List Int → Int → Option (List Int)
  | 0, _, _, _ => none
  | k + 1, x3, x5, x6 => if x6 < 4 then (if x5.length < 140737488355328 then (astrolaberef16_Sum.l1 k ((Int.tdiv x3 256) % 4294967296) (x5 ++ [(Int.tmod x3 256) % 256]) (wrap64 (x6 + 1))) else (none)) else (some x5)
end
def astrolaberef16_Sum.f (k : Nat) (l0 : List Int) : Option (List Int) := astrolaberef16_Sum.l0 k l0 2166136261 0
theorem astrolaberef16_Sum.mono_l : ∀ k, (∀ y0 y1 y2, LeO (astrolaberef16_Sum.l0 k y0 y1 y2) (astrolaberef16_Sum.l0 (k + 1) y0 y1 y2)) ∧ (∀ y0 y1 y2, LeO (astrolaberef16_Sum.l1 k y0 y1 y2) (astrolaberef16_Sum.l1 (k + 1) y0 y1 y2))
  | 0 => ⟨fun _ _ _ r h => by simp [astrolaberef16_Sum.l0] at h, fun _ _ _ r h => by simp [astrolaberef16_Sum.l1] at h⟩
  | k + 1 => by
    obtain ⟨ih0, ih1⟩ := astrolaberef16_Sum.mono_l k
    refine ⟨?_, ?_⟩
    · intro y0 y1 y2
      unfold astrolaberef16_Sum.l0
      repeat' first
      | (with_reducible exact ih0 _ _ _)
      | (with_reducible exact ih1 _ _ _)
      | (with_reducible exact LeO.refl _)
      | (with_reducible exact LeO.none _)
      | (with_reducible refine LeO.ite ?_ ?_)
      | (with_reducible refine LeO.bind ?_ (fun _ => ?_))
      | exact ih0 _ _ _
      | exact ih1 _ _ _
      | exact LeO.none _
      | refine LeO.ite ?_ ?_
      | refine LeO.bind ?_ (fun _ => ?_)
    · intro y0 y1 y2
      unfold astrolaberef16_Sum.l1
      repeat' first
      | (with_reducible exact ih0 _ _ _)
      | (with_reducible exact ih1 _ _ _)
      | (with_reducible exact LeO.refl _)
      | (with_reducible exact LeO.none _)
      | (with_reducible refine LeO.ite ?_ ?_)
      | (with_reducible refine LeO.bind ?_ (fun _ => ?_))
      | exact ih0 _ _ _
      | exact ih1 _ _ _
      | exact LeO.none _
      | refine LeO.ite ?_ ?_
      | refine LeO.bind ?_ (fun _ => ?_)
theorem astrolaberef16_Sum.mono : ∀ a0 k, LeO (astrolaberef16_Sum.f k a0) (astrolaberef16_Sum.f (k + 1) a0) := by
  intro a0 k
  obtain ⟨ih0, ih1⟩ := astrolaberef16_Sum.mono_l k
  unfold astrolaberef16_Sum.f
  repeat' first
      | (with_reducible exact ih0 _ _ _)
      | (with_reducible exact ih1 _ _ _)
      | (with_reducible exact LeO.refl _)
      | (with_reducible exact LeO.none _)
      | (with_reducible refine LeO.ite ?_ ?_)
      | (with_reducible refine LeO.bind ?_ (fun _ => ?_))
      | exact ih0 _ _ _
      | exact ih1 _ _ _
      | exact LeO.none _
      | refine LeO.ite ?_ ?_
      | refine LeO.bind ?_ (fun _ => ?_)
set_option maxHeartbeats 8000000 in
set_option maxRecDepth 100000 in
theorem astrolaberef16_Sum.calls (k : Nat) (A0 : Option Addr) (c0 : Nat) (l0 : List Int) (r : List Int) (w : World) (hr0 : Kd.C (Kd.int .u8) w A0 l0.length l0) (hc0 : l0.length ≤ c0) (h : astrolaberef16_Sum.f k l0 = some r) :
    Calls Try.prog 59 #[.slice A0 l0.length c0] w fun e w' => ∃ v0_ : Value, e = .returned (v0_) ∧ Kd.R (Kd.int .u8) 5 w' w.heap.size (fun _ => True) v0_ r ∧ Below w.heap.size w w' := by
  have HR0 := Aside0.mk hr0
  have HC0 := Aside0.mk hc0
  clear hr0 hc0
  have HB := Aside0.mk (Below.refl w.heap.size w)
  have H : (astrolaberef16_Sum.l0 k l0 2166136261 0) = some r := h
  clear h
  have H' := Aside0.mk H
  clear H
  go_enter Try.func59, Try.ntmps59
  go_wp2
  go_loopg [3, 4] k (fun kq v3 v4 w' => ∃ (x3_1 : Int) (x4_1 : Int), v3 = .int .u32 x3_1 ∧ v4 = .int .i64 x4_1 ∧ Aside0 (astrolaberef16_Sum.l0 kq l0 x3_1 x4_1 = some r) ∧ Aside0 (kq ≤ k) ∧ Aside0 (Below w.heap.size w w'))
  case atStart => exact ⟨(2166136261), (0), (by first | rfl | (simp; done) | (simp [*]; done)), (by first | rfl | (simp; done) | (simp [*]; done)), H', ⟨Nat.le_refl _⟩, ⟨by repeat (first | (with_reducible first | exact HB.out | apply below_alloc | apply pw_below_drewN | apply below_drew1) | exact HB.out)⟩⟩
  case round =>
    clear H'
    obtain ⟨x3_1, x4_1, rfl, rfl, HA, HK1, HB⟩ := hrel
    cases gk with
    | zero => exact absurd HA.out (by simp [astrolaberef16_Sum.l0])
    | succ k1 =>
      have H := HA.out
      clear HA
      simp only [astrolaberef16_Sum.l0] at H
      by_cases c2 : x4_1 < (l0.length : Int)
      · rw [if_pos c2] at H
        have c2b0 : decide (x4_1 < (l0.length : Int)) = true := decide_eq_true c2
        clear c2
        by_cases c3 : 0 ≤ x4_1
        · rw [if_pos c3] at H
          have c3b0 : decide (0 ≤ x4_1) = true := decide_eq_true c3
          clear c3
          have H' := Aside0.mk H
          clear H
          have p232 : 0 ≤ (x4_1 : Int) := of_decide_eq_true (by first | (with_reducible assumption) | assumption)
          have q232 : x4_1 < (l0.length : Int) := of_decide_eq_true (by first | (with_reducible assumption) | assumption)
          obtain ⟨ad232, e232, hx232_0⟩ := Kd.at_int HR0.out x4_1 p232 q232
          cases e232
          replace hx232_0 := (HB.out.cell (World.block_lt_of_cell? w _ hx232_0)).trans hx232_0
          replace p232 := eq_true p232
          replace q232 := eq_true q232
          go_wp2
          go_roundg k1
          case measure => have := HK1.out; omega
          case rel => exact ⟨(((Go.bits .xor .u32 x3_1 ((rd l0 x4_1) % 4294967296)) * 16777619) % 4294967296), (wrap64 (x4_1 + 1)), (by first | rfl | (simp; done) | (simp [*]; done)), (by first | rfl | (simp; done) | (simp [*]; done)), H', ⟨by have := HK1.out; omega⟩, ⟨by repeat (first | (with_reducible first | exact HB.out | apply below_alloc | apply pw_below_drewN | apply below_drew1) | exact HB.out)⟩⟩
        · rw [if_neg c3] at H
          exact absurd H (by simp)
      · rw [if_neg c2] at H
        have c2b0 : decide (x4_1 < (l0.length : Int)) = false := decide_eq_false c2
        clear c2
        obtain ⟨y233, hy233⟩ : ∃ y_ : List Int, y_ = (([] : List Int)) := ⟨_, rfl⟩
        replace H : (if y233.length + l0.length < 140737488355328 then (astrolaberef16_Sum.l1 k1 x3_1 (y233 ++ l0) 0) else (none)) = some r := by first | (rw [hy233]; with_reducible exact H) | (have H2_ := (Option.bind_some _ _).symm.trans H; rw [hy233]; with_reducible exact H2_) | (have H2_ := (Option.bind_some _ _).symm.trans H; with_reducible exact H2_) | with_reducible exact H | (rw [hy233]; exact H) | exact H
        have Ny233 := Aside0.mk hy233
        clear hy233
        by_cases c4 : y233.length + l0.length < 140737488355328
        · rw [if_pos c4] at H
          have LMc4 := Aside0.mk c4
          clear c4
          obtain ⟨y236, hy236⟩ : ∃ y_ : List Int, y_ = (y233 ++ l0) := ⟨_, rfl⟩
          replace H : (astrolaberef16_Sum.l1 k1 x3_1 y236 0) = some r := by first | (rw [hy236]; with_reducible exact H) | (have H2_ := (Option.bind_some _ _).symm.trans H; rw [hy236]; with_reducible exact H2_) | (have H2_ := (Option.bind_some _ _).symm.trans H; with_reducible exact H2_) | with_reducible exact H | (rw [hy236]; exact H) | exact H
          have Ny236 := Aside0.mk hy236
          clear hy236
          have H' := Aside0.mk H
          clear H
          go_wp2_with (first | ((with_reducible refine gate_dst (N := 21) rfl ?_); refine Kd.R_lit (Kd.int .u8) _ 5 ?hg (N := 21) ?hd (xs := ([] : List Int)) (inner := []) (ok := fun _ => True) (okp := fun _ => True) ?hr ?hp (fun _ hk => hk) trivial (Below.refl _ _) (Nat.le_refl _) (by simp) ?_; (case hd => rfl); (case hg => rfl); (case hr => first | (go_simp; done) | (go_simp; rfl)); (case hp => exact (Reps.none _ _)); intro v234 w5 ho6 hb hg_ hnew_; clear hg_ hnew_; (first | rw [← Ny233.out] at ho6 | (simp only [Int.reduceToNat] at ho6; rw [← Ny233.out] at ho6)); have n0_ := Aside0.mk (Kd.R_lower ho6 (below_size (by repeat (first | (with_reducible first | exact HB.out | apply below_alloc | apply pw_below_drewN | apply below_drew1) | exact HB.out)))); have n1_ := Aside0.mk (below_step (by repeat (first | (with_reducible first | exact HB.out | apply below_alloc | apply pw_below_drewN | apply below_drew1) | exact HB.out)) hb); clear HB; have HO235 := n0_; have HB := n1_; clear n0_ n1_; clear hb ho6) | ((with_reducible refine gate_builtin (b := .append) (xs := #[.tmp 21, .tmp 22]) rfl ?_); at_builtin; refine Kd.R_append_rows (Kd.int .u8) (w0 := w) w.heap.size rfl (.tmp 21) (.tmp 22) 22 5 (.int .u8 0) 1 rfl Try.underlying22 info5 rfl (by decide) (by omega) v234 y233 l0 _ _ _ (fun _ => True) (fun _ => False) rfl rfl ?aO ?aR (fun _ _ h => h) (fun _ h => h.elim) ?aF ?aB ?aS ?aL ?_; (case aR => repeat (first | exact (Kd.C_below HR0.out HB.out) | (with_reducible refine Kd.C_alloc ?_ _) | (with_reducible refine Kd.C_drewN ?_ _) | (with_reducible refine Kd.C_drew ?_))); (case aB => exact (by repeat (first | (with_reducible first | exact HB.out | apply below_alloc | apply pw_below_drewN | apply below_drew1) | exact HB.out))); (case aF => exact (fun _ _ => trivial)); (case aO => exact (by (with_reducible repeat (first | apply Kd.R_alloc | apply Kd.R_drewN | apply Kd.R_drew)); exact HO235.out)); (case aS => exact (below_size (by repeat (first | (with_reducible first | exact HB.out | apply below_alloc | apply pw_below_drewN | apply below_drew1) | exact HB.out)))); (case aL => have := LMc4.out; omega); intro v237 w7 ho hb hg hat; rw [← Ny236.out] at ho; have n0_ := Aside0.mk (hb); have n1_ := Aside0.mk (ho); clear HB; clear HO235; have HB := n0_; have HO238 := n1_; clear n0_ n1_; clear ho hb hg hat))
          go_loopg [3, 5, 6] k1 (fun kq v3 v5 v6 w' => ∃ (x3_2 : Int) (x5_2 : List Int) (x6_2 : Int), v3 = .int .u32 x3_2 ∧ v6 = .int .i64 x6_2 ∧ Aside0 (astrolaberef16_Sum.l1 kq x3_2 x5_2 x6_2 = some r) ∧ Aside0 (kq ≤ k1) ∧ Aside0 (Kd.R (Kd.int .u8) 5 w' w.heap.size (fun _ => True) v5 x5_2) ∧ Aside0 (Below w.heap.size w w'))
          case atStart => exact ⟨(x3_1), (y236), (0), (by first | rfl | (simp; done) | (simp [*]; done)), (by first | rfl | (simp; done) | (simp [*]; done)), H', ⟨Nat.le_refl _⟩, ⟨by (with_reducible repeat (first | apply Kd.R_alloc | apply Kd.R_drewN | apply Kd.R_drew)); exact HO238.out⟩, ⟨by repeat (first | (with_reducible first | exact HB.out | apply below_alloc | apply pw_below_drewN | apply below_drew1) | exact HB.out)⟩⟩
          case round =>
            clear H'
            try clear c2
            try clear c2b0
            try clear p2
            try clear q2
            try clear hx2
            try clear c3
            try clear c3b0
            try clear c4
            try clear c5
            try clear p6
            try clear hx232_0
            try clear p232
            try clear q232
            obtain ⟨x3_2, x5_2, x6_2, rfl, rfl, HA, HK2, HO_5, HB⟩ := hrel
            cases gk with
            | zero => exact absurd HA.out (by simp [astrolaberef16_Sum.l1])
            | succ k2 =>
              have H := HA.out
              clear HA
              simp only [astrolaberef16_Sum.l1] at H
              by_cases c8 : x6_2 < 4
              · rw [if_pos c8] at H
                have c8b0 : decide (x6_2 < 4) = true := decide_eq_true c8
                clear c8
                by_cases c9 : x5_2.length < 140737488355328
                · rw [if_pos c9] at H
                  have LMc9 := Aside0.mk c9
                  clear c9
                  obtain ⟨y239, hy239⟩ : ∃ y_ : List Int, y_ = (x5_2 ++ [(Int.tmod x3_2 256) % 256]) := ⟨_, rfl⟩
                  replace H : (astrolaberef16_Sum.l1 k2 ((Int.tdiv x3_2 256) % 4294967296) y239 (wrap64 (x6_2 + 1))) = some r := by first | (rw [hy239]; with_reducible exact H) | (have H2_ := (Option.bind_some _ _).symm.trans H; rw [hy239]; with_reducible exact H2_) | (have H2_ := (Option.bind_some _ _).symm.trans H; with_reducible exact H2_) | with_reducible exact H | (rw [hy239]; exact H) | exact H
                  have Ny239 := Aside0.mk hy239
                  clear hy239
                  have H' := Aside0.mk H
                  clear H
                  go_wp2_with (first | ((with_reducible refine gate_builtin (b := .append) (xs := #[.tmp 28, .tmp 32]) rfl ?_); at_builtin; refine Kd.R_append (Kd.int .u8) (w0 := w) w.heap.size rfl (.tmp 28) (.tmp 32) 22 5 (.int .u8 0) 1 rfl Try.underlying22 info5 rfl (by decide) (by omega) u5 x5_2 ((Int.tmod x3_2 256) % 256) [.int .u8 ((Int.tmod x3_2 256) % 256)] (fun _ => True) (fun _ => False) rfl rfl ?aP (fun _ hk => hk.elim) ?aF ?aO ?aB ?aS ?aL ?_; (case aP => exact rfl); (case aB => exact (by repeat (first | (with_reducible first | exact HB.out | apply below_alloc | apply pw_below_drewN | apply below_drew1) | exact HB.out))); (case aF => exact (fun _ _ => trivial)); (case aO => exact (by (with_reducible repeat (first | apply Kd.R_alloc | apply Kd.R_drewN | apply Kd.R_drew)); exact HO_5.out)); (case aS => exact (below_size (by repeat (first | (with_reducible first | exact HB.out | apply below_alloc | apply pw_below_drewN | apply below_drew1) | exact HB.out)))); (case aL => have := LMc9.out; omega); intro v240 w10 ho hb hg hat; rw [← Ny239.out] at ho; have n0_ := Aside0.mk (hb); have n1_ := Aside0.mk (ho); clear HB; clear HO_5; have HB := n0_; have HO241 := n1_; clear n0_ n1_; clear ho hb hg hat))
                  go_roundg k2
                  case measure => have := HK1.out; have := HK2.out; omega
                  case rel => exact ⟨((Int.tdiv x3_2 256) % 4294967296), (y239), (wrap64 (x6_2 + 1)), (by first | rfl | (simp; done) | (simp [*]; done)), (by first | rfl | (simp; done) | (simp [*]; done)), H', ⟨by have := HK1.out; have := HK2.out; omega⟩, ⟨by (with_reducible repeat (first | apply Kd.R_alloc | apply Kd.R_drewN | apply Kd.R_drew)); exact HO241.out⟩, ⟨by repeat (first | (with_reducible first | exact HB.out | apply below_alloc | apply pw_below_drewN | apply below_drew1) | exact HB.out)⟩⟩
                · rw [if_neg c9] at H
                  exact absurd H (by simp)
              · rw [if_neg c8] at H
                have c8b0 : decide (x6_2 < 4) = false := decide_eq_false c8
                clear c8
                obtain rfl := Option.some.inj H
                go_wp2
                go_ret
                exact ⟨_, by first | rfl | (simp [errW_none, errW_some] <;> rfl) | (simp [*, errW_none, errW_some] <;> rfl), by (with_reducible repeat (first | apply Kd.R_alloc | apply Kd.R_drewN | apply Kd.R_drew)); exact HO_5.out, by repeat (first | (with_reducible first | exact HB.out | apply below_alloc | apply pw_below_drewN | apply below_drew1) | exact HB.out)⟩
        · rw [if_neg c4] at H
          exact absurd H (by simp)

/-! ### astrolaberef16_Bytes: function 25 -/
def astrolaberef16_Bytes.f (k : Nat) (l0_0 : List Int) (l0_1 : List Int) (l0_2 : List Int) (l0_3 : List Int) (a0_4 : Int) (a0_5 : Int) (l0_6 : List (S47)) (l0_7 : List (S47)) (l0_8 : List (S47)) (l0_9 : List (S47)) : Option (List Int) := (astrolaberef16_ints.f k (([65, 83, 84, 49] : List Int)) l0_0).bind fun t246 => ((astrolaberef16_ints.f k t246 l0_1).bind fun t249 => ((astrolaberef16_numbers.f k t249 l0_2).bind fun t252 => ((astrolaberef16_numbers.f k t252 l0_3).bind fun t255 => ((astrolaberef16_Number.f k t255 a0_4).bind fun t258 => ((astrolaberef16_Number.f k t258 a0_5).bind fun t261 => ((astrolaberef16_piece.f k t261 l0_6).bind fun t264 => ((astrolaberef16_piece.f k t264 l0_7).bind fun t267 => ((astrolaberef16_piece.f k t267 l0_8).bind fun t270 => ((astrolaberef16_piece.f k t270 l0_9).bind fun t273 => ((astrolaberef16_Sum.f k t273).bind fun t276 => (some t276)))))))))))
theorem astrolaberef16_Bytes.mono : ∀ a0 a1 a2 a3 a4 a5 a6 a7 a8 a9 k, LeO (astrolaberef16_Bytes.f k a0 a1 a2 a3 a4 a5 a6 a7 a8 a9) (astrolaberef16_Bytes.f (k + 1) a0 a1 a2 a3 a4 a5 a6 a7 a8 a9) := by
  intro a0 a1 a2 a3 a4 a5 a6 a7 a8 a9 k
  unfold astrolaberef16_Bytes.f
  repeat' first
      | (with_reducible exact astrolaberef16_Number.mono _ _ _)
      | (with_reducible exact astrolaberef16_Sum.mono _ _)
      | (with_reducible exact astrolaberef16_ints.mono _ _ _)
      | (with_reducible exact astrolaberef16_numbers.mono _ _ _)
      | (with_reducible exact astrolaberef16_piece.mono _ _ _)
      | (with_reducible exact LeO.refl _)
      | (with_reducible exact LeO.none _)
      | (with_reducible refine LeO.ite ?_ ?_)
      | (with_reducible refine LeO.bind ?_ (fun _ => ?_))
      | exact astrolaberef16_Number.mono _ _ _
      | exact astrolaberef16_Sum.mono _ _
      | exact astrolaberef16_ints.mono _ _ _
      | exact astrolaberef16_numbers.mono _ _ _
      | exact astrolaberef16_piece.mono _ _ _
      | exact LeO.none _
      | refine LeO.ite ?_ ?_
      | refine LeO.bind ?_ (fun _ => ?_)
set_option maxHeartbeats 8000000 in
set_option maxRecDepth 100000 in
theorem astrolaberef16_Bytes.calls (k : Nat) (A0_0 : Option Addr) (c0_0 : Nat) (l0_0 : List Int) (A0_1 : Option Addr) (c0_1 : Nat) (l0_1 : List Int) (A0_2 : Option Addr) (c0_2 : Nat) (l0_2 : List Int) (A0_3 : Option Addr) (c0_3 : Nat) (l0_3 : List Int) (a0_4 : Int) (a0_5 : Int) (A0_6 : Option Addr) (c0_6 : Nat) (l0_6 : List (S47)) (A0_7 : Option Addr) (c0_7 : Nat) (l0_7 : List (S47)) (A0_8 : Option Addr) (c0_8 : Nat) (l0_8 : List (S47)) (A0_9 : Option Addr) (c0_9 : Nat) (l0_9 : List (S47)) (r : List Int) (w : World) (hr0_0 : Kd.C (Kd.int .i64) w A0_0 l0_0.length l0_0) (hc0_0 : l0_0.length ≤ c0_0) (hr0_1 : Kd.C (Kd.int .i64) w A0_1 l0_1.length l0_1) (hc0_1 : l0_1.length ≤ c0_1) (hr0_2 : Kd.C (Kd.int .i64) w A0_2 l0_2.length l0_2) (hc0_2 : l0_2.length ≤ c0_2) (hr0_3 : Kd.C (Kd.int .i64) w A0_3 l0_3.length l0_3) (hc0_3 : l0_3.length ≤ c0_3) (hr0_6 : Kd.C k47 w A0_6 l0_6.length l0_6) (hc0_6 : l0_6.length ≤ c0_6) (hr0_7 : Kd.C k47 w A0_7 l0_7.length l0_7) (hc0_7 : l0_7.length ≤ c0_7) (hr0_8 : Kd.C k47 w A0_8 l0_8.length l0_8) (hc0_8 : l0_8.length ≤ c0_8) (hr0_9 : Kd.C k47 w A0_9 l0_9.length l0_9) (hc0_9 : l0_9.length ≤ c0_9) (h : astrolaberef16_Bytes.f k l0_0 l0_1 l0_2 l0_3 a0_4 a0_5 l0_6 l0_7 l0_8 l0_9 = some r) :
    Calls Try.prog 25 #[.agg #[.slice A0_0 l0_0.length c0_0, .slice A0_1 l0_1.length c0_1, .slice A0_2 l0_2.length c0_2, .slice A0_3 l0_3.length c0_3, .int .i64 a0_4, .int .i64 a0_5, .slice A0_6 l0_6.length c0_6, .slice A0_7 l0_7.length c0_7, .slice A0_8 l0_8.length c0_8, .slice A0_9 l0_9.length c0_9]] w fun e w' => ∃ v0_ : Value, e = .returned (v0_) ∧ Kd.R (Kd.int .u8) 5 w' w.heap.size (fun _ => True) v0_ r ∧ Below w.heap.size w w' := by
  have hu28 := Try.underlying28
  have HR0_0 := Aside0.mk hr0_0
  have HC0_0 := Aside0.mk hc0_0
  clear hr0_0 hc0_0
  have HR0_1 := Aside0.mk hr0_1
  have HC0_1 := Aside0.mk hc0_1
  clear hr0_1 hc0_1
  have HR0_2 := Aside0.mk hr0_2
  have HC0_2 := Aside0.mk hc0_2
  clear hr0_2 hc0_2
  have HR0_3 := Aside0.mk hr0_3
  have HC0_3 := Aside0.mk hc0_3
  clear hr0_3 hc0_3
  have HR0_6 := Aside0.mk hr0_6
  have HC0_6 := Aside0.mk hc0_6
  clear hr0_6 hc0_6
  have HR0_7 := Aside0.mk hr0_7
  have HC0_7 := Aside0.mk hc0_7
  clear hr0_7 hc0_7
  have HR0_8 := Aside0.mk hr0_8
  have HC0_8 := Aside0.mk hc0_8
  clear hr0_8 hc0_8
  have HR0_9 := Aside0.mk hr0_9
  have HC0_9 := Aside0.mk hc0_9
  clear hr0_9 hc0_9
  have HB := Aside0.mk (Below.refl w.heap.size w)
  have H : ((astrolaberef16_ints.f k (([65, 83, 84, 49] : List Int)) l0_0).bind fun t246 => ((astrolaberef16_ints.f k t246 l0_1).bind fun t249 => ((astrolaberef16_numbers.f k t249 l0_2).bind fun t252 => ((astrolaberef16_numbers.f k t252 l0_3).bind fun t255 => ((astrolaberef16_Number.f k t255 a0_4).bind fun t258 => ((astrolaberef16_Number.f k t258 a0_5).bind fun t261 => ((astrolaberef16_piece.f k t261 l0_6).bind fun t264 => ((astrolaberef16_piece.f k t264 l0_7).bind fun t267 => ((astrolaberef16_piece.f k t267 l0_8).bind fun t270 => ((astrolaberef16_piece.f k t270 l0_9).bind fun t273 => ((astrolaberef16_Sum.f k t273).bind fun t276 => (some t276)))))))))))) = some r := h
  clear h
  obtain ⟨y243, hy243⟩ : ∃ y_ : List Int, y_ = (([65, 83, 84, 49] : List Int)) := ⟨_, rfl⟩
  replace H : ((astrolaberef16_ints.f k y243 l0_0).bind fun t246 => ((astrolaberef16_ints.f k t246 l0_1).bind fun t249 => ((astrolaberef16_numbers.f k t249 l0_2).bind fun t252 => ((astrolaberef16_numbers.f k t252 l0_3).bind fun t255 => ((astrolaberef16_Number.f k t255 a0_4).bind fun t258 => ((astrolaberef16_Number.f k t258 a0_5).bind fun t261 => ((astrolaberef16_piece.f k t261 l0_6).bind fun t264 => ((astrolaberef16_piece.f k t264 l0_7).bind fun t267 => ((astrolaberef16_piece.f k t267 l0_8).bind fun t270 => ((astrolaberef16_piece.f k t270 l0_9).bind fun t273 => ((astrolaberef16_Sum.f k t273).bind fun t276 => (some t276)))))))))))) = some r := by first | (rw [hy243]; with_reducible exact H) | (have H2_ := (Option.bind_some _ _).symm.trans H; rw [hy243]; with_reducible exact H2_) | (have H2_ := (Option.bind_some _ _).symm.trans H; with_reducible exact H2_) | with_reducible exact H | (rw [hy243]; exact H) | exact H
  have Ny243 := Aside0.mk hy243
  clear hy243
  replace H := Option.bind_eq_some_iff.mp H
  obtain ⟨t246, A20, H⟩ := H
  replace H : ((astrolaberef16_ints.f k t246 l0_1).bind fun t249 => ((astrolaberef16_numbers.f k t249 l0_2).bind fun t252 => ((astrolaberef16_numbers.f k t252 l0_3).bind fun t255 => ((astrolaberef16_Number.f k t255 a0_4).bind fun t258 => ((astrolaberef16_Number.f k t258 a0_5).bind fun t261 => ((astrolaberef16_piece.f k t261 l0_6).bind fun t264 => ((astrolaberef16_piece.f k t264 l0_7).bind fun t267 => ((astrolaberef16_piece.f k t267 l0_8).bind fun t270 => ((astrolaberef16_piece.f k t270 l0_9).bind fun t273 => ((astrolaberef16_Sum.f k t273).bind fun t276 => (some t276))))))))))) = some r := H
  have A2 := Aside0.mk A20
  clear A20
  replace H := Option.bind_eq_some_iff.mp H
  obtain ⟨t249, A30, H⟩ := H
  replace H : ((astrolaberef16_numbers.f k t249 l0_2).bind fun t252 => ((astrolaberef16_numbers.f k t252 l0_3).bind fun t255 => ((astrolaberef16_Number.f k t255 a0_4).bind fun t258 => ((astrolaberef16_Number.f k t258 a0_5).bind fun t261 => ((astrolaberef16_piece.f k t261 l0_6).bind fun t264 => ((astrolaberef16_piece.f k t264 l0_7).bind fun t267 => ((astrolaberef16_piece.f k t267 l0_8).bind fun t270 => ((astrolaberef16_piece.f k t270 l0_9).bind fun t273 => ((astrolaberef16_Sum.f k t273).bind fun t276 => (some t276)))))))))) = some r := H
  have A3 := Aside0.mk A30
  clear A30
  replace H := Option.bind_eq_some_iff.mp H
  obtain ⟨t252, A40, H⟩ := H
  replace H : ((astrolaberef16_numbers.f k t252 l0_3).bind fun t255 => ((astrolaberef16_Number.f k t255 a0_4).bind fun t258 => ((astrolaberef16_Number.f k t258 a0_5).bind fun t261 => ((astrolaberef16_piece.f k t261 l0_6).bind fun t264 => ((astrolaberef16_piece.f k t264 l0_7).bind fun t267 => ((astrolaberef16_piece.f k t267 l0_8).bind fun t270 => ((astrolaberef16_piece.f k t270 l0_9).bind fun t273 => ((astrolaberef16_Sum.f k t273).bind fun t276 => (some t276))))))))) = some r := H
  have A4 := Aside0.mk A40
  clear A40
  replace H := Option.bind_eq_some_iff.mp H
  obtain ⟨t255, A50, H⟩ := H
  replace H : ((astrolaberef16_Number.f k t255 a0_4).bind fun t258 => ((astrolaberef16_Number.f k t258 a0_5).bind fun t261 => ((astrolaberef16_piece.f k t261 l0_6).bind fun t264 => ((astrolaberef16_piece.f k t264 l0_7).bind fun t267 => ((astrolaberef16_piece.f k t267 l0_8).bind fun t270 => ((astrolaberef16_piece.f k t270 l0_9).bind fun t273 => ((astrolaberef16_Sum.f k t273).bind fun t276 => (some t276)))))))) = some r := H
  have A5 := Aside0.mk A50
  clear A50
  replace H := Option.bind_eq_some_iff.mp H
  obtain ⟨t258, A60, H⟩ := H
  replace H : ((astrolaberef16_Number.f k t258 a0_5).bind fun t261 => ((astrolaberef16_piece.f k t261 l0_6).bind fun t264 => ((astrolaberef16_piece.f k t264 l0_7).bind fun t267 => ((astrolaberef16_piece.f k t267 l0_8).bind fun t270 => ((astrolaberef16_piece.f k t270 l0_9).bind fun t273 => ((astrolaberef16_Sum.f k t273).bind fun t276 => (some t276))))))) = some r := H
  have A6 := Aside0.mk A60
  clear A60
  replace H := Option.bind_eq_some_iff.mp H
  obtain ⟨t261, A70, H⟩ := H
  replace H : ((astrolaberef16_piece.f k t261 l0_6).bind fun t264 => ((astrolaberef16_piece.f k t264 l0_7).bind fun t267 => ((astrolaberef16_piece.f k t267 l0_8).bind fun t270 => ((astrolaberef16_piece.f k t270 l0_9).bind fun t273 => ((astrolaberef16_Sum.f k t273).bind fun t276 => (some t276)))))) = some r := H
  have A7 := Aside0.mk A70
  clear A70
  replace H := Option.bind_eq_some_iff.mp H
  obtain ⟨t264, A80, H⟩ := H
  replace H : ((astrolaberef16_piece.f k t264 l0_7).bind fun t267 => ((astrolaberef16_piece.f k t267 l0_8).bind fun t270 => ((astrolaberef16_piece.f k t270 l0_9).bind fun t273 => ((astrolaberef16_Sum.f k t273).bind fun t276 => (some t276))))) = some r := H
  have A8 := Aside0.mk A80
  clear A80
  replace H := Option.bind_eq_some_iff.mp H
  obtain ⟨t267, A90, H⟩ := H
  replace H : ((astrolaberef16_piece.f k t267 l0_8).bind fun t270 => ((astrolaberef16_piece.f k t270 l0_9).bind fun t273 => ((astrolaberef16_Sum.f k t273).bind fun t276 => (some t276)))) = some r := H
  have A9 := Aside0.mk A90
  clear A90
  replace H := Option.bind_eq_some_iff.mp H
  obtain ⟨t270, A100, H⟩ := H
  replace H : ((astrolaberef16_piece.f k t270 l0_9).bind fun t273 => ((astrolaberef16_Sum.f k t273).bind fun t276 => (some t276))) = some r := H
  have A10 := Aside0.mk A100
  clear A100
  replace H := Option.bind_eq_some_iff.mp H
  obtain ⟨t273, A110, H⟩ := H
  replace H : ((astrolaberef16_Sum.f k t273).bind fun t276 => (some t276)) = some r := H
  have A11 := Aside0.mk A110
  clear A110
  replace H := Option.bind_eq_some_iff.mp H
  obtain ⟨t276, A120, H⟩ := H
  replace H : (some t276) = some r := H
  have A12 := Aside0.mk A120
  clear A120
  obtain rfl := Option.some.inj H
  go_enter Try.func25, Try.ntmps25
  go_wp2_with (first | ((with_reducible refine gate_dst (N := 1) rfl ?_); refine box_event ?hg (N := 1) ?hd (cs := #[.slice A0_0 l0_0.length c0_0, .slice A0_1 l0_1.length c0_1, .slice A0_2 l0_2.length c0_2, .slice A0_3 l0_3.length c0_3, .int .i64 a0_4, .int .i64 a0_5, .slice A0_6 l0_6.length c0_6, .slice A0_7 l0_7.length c0_7, .slice A0_8 l0_8.length c0_8, .slice A0_9 l0_9.length c0_9]) (t := 28) ?hr ?_; (case hd => rfl); (case hg => rfl); (case hr => first | (go_simp; done) | (go_simp; rfl)); intro gb242 hg w13 hbox hb; have n0_ := Aside0.mk (below_step (by repeat (first | (with_reducible first | exact HB.out | apply below_alloc | apply pw_below_drewN | apply below_drew1) | exact HB.out)) hb); have n1_ := Aside0.mk (hbox); have n2_ := Aside0.mk ((by rw [hg]; exact (below_size (by repeat (first | (with_reducible first | exact HB.out | apply below_alloc | apply pw_below_drewN | apply below_drew1) | exact HB.out))) : w.heap.size ≤ gb242)); have n3_ := Aside0.mk ((by rw [hg]; exact (below_size (by repeat (first | (with_reducible first | exact HB.out | apply below_alloc | apply pw_below_drewN | apply below_drew1) | exact HB.out))) : w.heap.size ≤ gb242)); clear HB; have HB := n0_; have BK242 := n1_; have GW242 := n2_; have GE242 := n3_; clear n0_ n1_ n2_ n3_; clear hb hbox hg) | ((with_reducible refine gate_dst (N := 4) rfl ?_); refine Kd.R_lit (Kd.int .u8) _ 5 ?hg (N := 4) ?hd (xs := ([65, 83, 84, 49] : List Int)) (inner := [.int .u8 65, .int .u8 83, .int .u8 84, .int .u8 49]) (ok := fun _ => True) (okp := fun _ => True) ?hr ?hp (fun _ hk => hk) trivial (Below.refl _ _) (Nat.le_refl _) (by simp) ?_; (case hd => rfl); (case hg => rfl); (case hr => first | (go_simp; done) | (go_simp; rfl)); (case hp => exact (Reps.one (show Kd.M (Kd.int .u8) _ _ _ 65 [.int .u8 65] from rfl) (Reps.one (show Kd.M (Kd.int .u8) _ _ _ 83 [.int .u8 83] from rfl) (Reps.one (show Kd.M (Kd.int .u8) _ _ _ 84 [.int .u8 84] from rfl) (Reps.one (show Kd.M (Kd.int .u8) _ _ _ 49 [.int .u8 49] from rfl) (Reps.none _ _)))))); intro v244 w14 ho15 hb hg_ hnew_; clear hg_ hnew_; (first | rw [← Ny243.out] at ho15 | (simp only [Int.reduceToNat] at ho15; rw [← Ny243.out] at ho15)); have n0_ := Aside0.mk (Kd.R_lower ho15 (below_size (by repeat (first | (with_reducible first | exact HB.out | apply below_alloc | apply pw_below_drewN | apply below_drew1 | refine below_set ?_ GE242.out) | exact HB.out)))); have n1_ := Aside0.mk (blk_below (g := gb242) (o := .cells #[.slice A0_0 l0_0.length c0_0, .slice A0_1 l0_1.length c0_1, .slice A0_2 l0_2.length c0_2, .slice A0_3 l0_3.length c0_3, .int .i64 a0_4, .int .i64 a0_5, .slice A0_6 l0_6.length c0_6, .slice A0_7 l0_7.length c0_7, .slice A0_8 l0_8.length c0_8, .slice A0_9 l0_9.length c0_9] 28 (0, 0)) (by (with_reducible repeat (first | refine blk_drewN ?_ _ | refine blk_drew ?_ | refine blk_alloc ?_ _)); exact BK242.out) hb); have n2_ := Aside0.mk (below_step (by repeat (first | (with_reducible first | exact HB.out | apply below_alloc | apply pw_below_drewN | apply below_drew1 | refine below_set ?_ GE242.out) | exact HB.out)) hb); clear BK242; clear HB; have HO245 := n0_; have BK242 := n1_; have HB := n2_; clear n0_ n1_ n2_; clear hb ho15; have hcz16_0 : w14.cell? ⟨gb242, 0, none⟩ = some (.slice A0_0 l0_0.length c0_0) := (blk_cell BK242.out 0).trans rfl; have hcz16_1 : w14.cell? ⟨gb242, 1, none⟩ = some (.slice A0_1 l0_1.length c0_1) := (blk_cell BK242.out 1).trans rfl; have hcz16_2 : w14.cell? ⟨gb242, 2, none⟩ = some (.slice A0_2 l0_2.length c0_2) := (blk_cell BK242.out 2).trans rfl; have hcz16_3 : w14.cell? ⟨gb242, 3, none⟩ = some (.slice A0_3 l0_3.length c0_3) := (blk_cell BK242.out 3).trans rfl; have hcz16_4 : w14.cell? ⟨gb242, 4, none⟩ = some (.int .i64 a0_4) := (blk_cell BK242.out 4).trans rfl; have hcz16_5 : w14.cell? ⟨gb242, 5, none⟩ = some (.int .i64 a0_5) := (blk_cell BK242.out 5).trans rfl; have hcz16_6 : w14.cell? ⟨gb242, 6, none⟩ = some (.slice A0_6 l0_6.length c0_6) := (blk_cell BK242.out 6).trans rfl; have hcz16_7 : w14.cell? ⟨gb242, 7, none⟩ = some (.slice A0_7 l0_7.length c0_7) := (blk_cell BK242.out 7).trans rfl; have hcz16_8 : w14.cell? ⟨gb242, 8, none⟩ = some (.slice A0_8 l0_8.length c0_8) := (blk_cell BK242.out 8).trans rfl; have hcz16_9 : w14.cell? ⟨gb242, 9, none⟩ = some (.slice A0_9 l0_9.length c0_9) := (blk_cell BK242.out 9).trans rfl; have hfz16_0 := blk_frozen BK242.out 0; have hfz16_1 := blk_frozen BK242.out 1; have hfz16_2 := blk_frozen BK242.out 2; have hfz16_3 := blk_frozen BK242.out 3; have hfz16_4 := blk_frozen BK242.out 4; have hfz16_5 := blk_frozen BK242.out 5; have hfz16_6 := blk_frozen BK242.out 6; have hfz16_7 := blk_frozen BK242.out 7; have hfz16_8 := blk_frozen BK242.out 8; have hfz16_9 := blk_frozen BK242.out 9; obtain ⟨Ao17, co17, eo17⟩ := Kd.R_slice HO245.out; subst eo17) | ((with_reducible refine gate_callee (f := 55) rfl ?_); refine goesL_ (some 8) rfl rfl Try.func55 (by kernel_rfl) rfl #[.slice Ao17 y243.length co17, .slice A0_0 l0_0.length c0_0] rfl (by (try simp only [List.map_toArray, List.map_cons, List.map_nil]); first | done | rfl | (simp only [List.length_drop, List.length_take]; rfl)) ?_; (with_reducible refine (astrolaberef16_ints.calls k (fun k_ => some k_ = (.slice Ao17 y243.length co17 : Value).ownBlock) (.slice Ao17 y243.length co17) y243 _ _ l0_0 t246 w _ ?side1 ?side2 ?side3 ?side4 A2.out).mono ?_); (case side1 => repeat (first | (with_reducible first | exact HB.out | apply below_alloc | apply pw_below_drewN | apply below_drew1 | refine below_set ?_ GE242.out) | exact HB.out)); (case side2 => exact Kd.R_tight rfl HO245.out); (case side3 => exact Kd.C_kept_came (Kd.heap_int .i64) HR0_0.out (by repeat (first | (with_reducible first | exact HB.out | apply below_alloc | apply pw_below_drewN | apply below_drew1 | refine below_set ?_ GE242.out) | exact HB.out)) (fun k_ hs_ => (fun e_ => Kd.R_base HO245.out k_ e_.symm) hs_)); (case side4 => exact HC0_0.out); rintro e w18 ⟨v247, rfl, ho0, hb, hkp⟩; refine ⟨_, rfl, ?_⟩; have n0_ := Aside0.mk (blk_kept (by (with_reducible repeat (first | refine blk_drewN ?_ _ | refine blk_drew ?_ | refine blk_alloc ?_ _)); exact BK242.out) hkp (fun hs_ => (fun e_ => (Kd.R_ne HO245.out BK242.out (by decide)) e_) hs_)); have n1_ := Aside0.mk (Kd.R_mono (ok' := fun k_ => True) ho0 (fun k_ hk_ => trivial)); have n2_ := Aside0.mk (hb); clear BK242; clear HB; clear HO245; have BK242 := n0_; have HO248 := n1_; have HB := n2_; clear n0_ n1_ n2_; (try clear hb); (try clear hkp); (try clear ho0); have hcz19_0 : w18.cell? ⟨gb242, 0, none⟩ = some (.slice A0_0 l0_0.length c0_0) := (blk_cell BK242.out 0).trans rfl; have hcz19_1 : w18.cell? ⟨gb242, 1, none⟩ = some (.slice A0_1 l0_1.length c0_1) := (blk_cell BK242.out 1).trans rfl; have hcz19_2 : w18.cell? ⟨gb242, 2, none⟩ = some (.slice A0_2 l0_2.length c0_2) := (blk_cell BK242.out 2).trans rfl; have hcz19_3 : w18.cell? ⟨gb242, 3, none⟩ = some (.slice A0_3 l0_3.length c0_3) := (blk_cell BK242.out 3).trans rfl; have hcz19_4 : w18.cell? ⟨gb242, 4, none⟩ = some (.int .i64 a0_4) := (blk_cell BK242.out 4).trans rfl; have hcz19_5 : w18.cell? ⟨gb242, 5, none⟩ = some (.int .i64 a0_5) := (blk_cell BK242.out 5).trans rfl; have hcz19_6 : w18.cell? ⟨gb242, 6, none⟩ = some (.slice A0_6 l0_6.length c0_6) := (blk_cell BK242.out 6).trans rfl; have hcz19_7 : w18.cell? ⟨gb242, 7, none⟩ = some (.slice A0_7 l0_7.length c0_7) := (blk_cell BK242.out 7).trans rfl; have hcz19_8 : w18.cell? ⟨gb242, 8, none⟩ = some (.slice A0_8 l0_8.length c0_8) := (blk_cell BK242.out 8).trans rfl; have hcz19_9 : w18.cell? ⟨gb242, 9, none⟩ = some (.slice A0_9 l0_9.length c0_9) := (blk_cell BK242.out 9).trans rfl; have hfz19_0 := blk_frozen BK242.out 0; have hfz19_1 := blk_frozen BK242.out 1; have hfz19_2 := blk_frozen BK242.out 2; have hfz19_3 := blk_frozen BK242.out 3; have hfz19_4 := blk_frozen BK242.out 4; have hfz19_5 := blk_frozen BK242.out 5; have hfz19_6 := blk_frozen BK242.out 6; have hfz19_7 := blk_frozen BK242.out 7; have hfz19_8 := blk_frozen BK242.out 8; have hfz19_9 := blk_frozen BK242.out 9; obtain ⟨Ao20, co20, eo20⟩ := Kd.R_slice HO248.out; subst eo20) | ((with_reducible refine gate_callee (f := 55) rfl ?_); refine goesL_ (some 12) rfl rfl Try.func55 (by kernel_rfl) rfl #[.slice Ao20 t246.length co20, .slice A0_1 l0_1.length c0_1] rfl (by (try simp only [List.map_toArray, List.map_cons, List.map_nil]); first | done | rfl | (simp only [List.length_drop, List.length_take]; rfl)) ?_; (with_reducible refine (astrolaberef16_ints.calls k (fun k_ => some k_ = (.slice Ao20 t246.length co20 : Value).ownBlock) (.slice Ao20 t246.length co20) t246 _ _ l0_1 t249 w _ ?side1 ?side2 ?side3 ?side4 A3.out).mono ?_); (case side1 => repeat (first | (with_reducible first | exact HB.out | apply below_alloc | apply pw_below_drewN | apply below_drew1 | refine below_set ?_ GE242.out) | exact HB.out)); (case side2 => exact Kd.R_tight rfl HO248.out); (case side3 => exact Kd.C_kept_came (Kd.heap_int .i64) HR0_1.out (by repeat (first | (with_reducible first | exact HB.out | apply below_alloc | apply pw_below_drewN | apply below_drew1 | refine below_set ?_ GE242.out) | exact HB.out)) (fun k_ hs_ => (fun e_ => Kd.R_base HO248.out k_ e_.symm) hs_)); (case side4 => exact HC0_1.out); rintro e w21 ⟨v250, rfl, ho0, hb, hkp⟩; refine ⟨_, rfl, ?_⟩; have n0_ := Aside0.mk (blk_kept (by (with_reducible repeat (first | refine blk_drewN ?_ _ | refine blk_drew ?_ | refine blk_alloc ?_ _)); exact BK242.out) hkp (fun hs_ => (fun e_ => (Kd.R_ne HO248.out BK242.out (by decide)) e_) hs_)); have n1_ := Aside0.mk (Kd.R_mono (ok' := fun k_ => True) ho0 (fun k_ hk_ => trivial)); have n2_ := Aside0.mk (hb); clear BK242; clear HB; clear HO248; have BK242 := n0_; have HO251 := n1_; have HB := n2_; clear n0_ n1_ n2_; (try clear hb); (try clear hkp); (try clear ho0); have hcz22_0 : w21.cell? ⟨gb242, 0, none⟩ = some (.slice A0_0 l0_0.length c0_0) := (blk_cell BK242.out 0).trans rfl; have hcz22_1 : w21.cell? ⟨gb242, 1, none⟩ = some (.slice A0_1 l0_1.length c0_1) := (blk_cell BK242.out 1).trans rfl; have hcz22_2 : w21.cell? ⟨gb242, 2, none⟩ = some (.slice A0_2 l0_2.length c0_2) := (blk_cell BK242.out 2).trans rfl; have hcz22_3 : w21.cell? ⟨gb242, 3, none⟩ = some (.slice A0_3 l0_3.length c0_3) := (blk_cell BK242.out 3).trans rfl; have hcz22_4 : w21.cell? ⟨gb242, 4, none⟩ = some (.int .i64 a0_4) := (blk_cell BK242.out 4).trans rfl; have hcz22_5 : w21.cell? ⟨gb242, 5, none⟩ = some (.int .i64 a0_5) := (blk_cell BK242.out 5).trans rfl; have hcz22_6 : w21.cell? ⟨gb242, 6, none⟩ = some (.slice A0_6 l0_6.length c0_6) := (blk_cell BK242.out 6).trans rfl; have hcz22_7 : w21.cell? ⟨gb242, 7, none⟩ = some (.slice A0_7 l0_7.length c0_7) := (blk_cell BK242.out 7).trans rfl; have hcz22_8 : w21.cell? ⟨gb242, 8, none⟩ = some (.slice A0_8 l0_8.length c0_8) := (blk_cell BK242.out 8).trans rfl; have hcz22_9 : w21.cell? ⟨gb242, 9, none⟩ = some (.slice A0_9 l0_9.length c0_9) := (blk_cell BK242.out 9).trans rfl; have hfz22_0 := blk_frozen BK242.out 0; have hfz22_1 := blk_frozen BK242.out 1; have hfz22_2 := blk_frozen BK242.out 2; have hfz22_3 := blk_frozen BK242.out 3; have hfz22_4 := blk_frozen BK242.out 4; have hfz22_5 := blk_frozen BK242.out 5; have hfz22_6 := blk_frozen BK242.out 6; have hfz22_7 := blk_frozen BK242.out 7; have hfz22_8 := blk_frozen BK242.out 8; have hfz22_9 := blk_frozen BK242.out 9; obtain ⟨Ao23, co23, eo23⟩ := Kd.R_slice HO251.out; subst eo23) | ((with_reducible refine gate_callee (f := 56) rfl ?_); refine goesL_ (some 16) rfl rfl Try.func56 (by kernel_rfl) rfl #[.slice Ao23 t249.length co23, .slice A0_2 l0_2.length c0_2] rfl (by (try simp only [List.map_toArray, List.map_cons, List.map_nil]); first | done | rfl | (simp only [List.length_drop, List.length_take]; rfl)) ?_; (with_reducible refine (astrolaberef16_numbers.calls k (fun k_ => some k_ = (.slice Ao23 t249.length co23 : Value).ownBlock) (.slice Ao23 t249.length co23) t249 _ _ l0_2 t252 w _ ?side1 ?side2 ?side3 ?side4 A4.out).mono ?_); (case side1 => repeat (first | (with_reducible first | exact HB.out | apply below_alloc | apply pw_below_drewN | apply below_drew1 | refine below_set ?_ GE242.out) | exact HB.out)); (case side2 => exact Kd.R_tight rfl HO251.out); (case side3 => exact Kd.C_kept_came (Kd.heap_int .i64) HR0_2.out (by repeat (first | (with_reducible first | exact HB.out | apply below_alloc | apply pw_below_drewN | apply below_drew1 | refine below_set ?_ GE242.out) | exact HB.out)) (fun k_ hs_ => (fun e_ => Kd.R_base HO251.out k_ e_.symm) hs_)); (case side4 => exact HC0_2.out); rintro e w24 ⟨v253, rfl, ho0, hb, hkp⟩; refine ⟨_, rfl, ?_⟩; have n0_ := Aside0.mk (blk_kept (by (with_reducible repeat (first | refine blk_drewN ?_ _ | refine blk_drew ?_ | refine blk_alloc ?_ _)); exact BK242.out) hkp (fun hs_ => (fun e_ => (Kd.R_ne HO251.out BK242.out (by decide)) e_) hs_)); have n1_ := Aside0.mk (Kd.R_mono (ok' := fun k_ => True) ho0 (fun k_ hk_ => trivial)); have n2_ := Aside0.mk (hb); clear BK242; clear HB; clear HO251; have BK242 := n0_; have HO254 := n1_; have HB := n2_; clear n0_ n1_ n2_; (try clear hb); (try clear hkp); (try clear ho0); have hcz25_0 : w24.cell? ⟨gb242, 0, none⟩ = some (.slice A0_0 l0_0.length c0_0) := (blk_cell BK242.out 0).trans rfl; have hcz25_1 : w24.cell? ⟨gb242, 1, none⟩ = some (.slice A0_1 l0_1.length c0_1) := (blk_cell BK242.out 1).trans rfl; have hcz25_2 : w24.cell? ⟨gb242, 2, none⟩ = some (.slice A0_2 l0_2.length c0_2) := (blk_cell BK242.out 2).trans rfl; have hcz25_3 : w24.cell? ⟨gb242, 3, none⟩ = some (.slice A0_3 l0_3.length c0_3) := (blk_cell BK242.out 3).trans rfl; have hcz25_4 : w24.cell? ⟨gb242, 4, none⟩ = some (.int .i64 a0_4) := (blk_cell BK242.out 4).trans rfl; have hcz25_5 : w24.cell? ⟨gb242, 5, none⟩ = some (.int .i64 a0_5) := (blk_cell BK242.out 5).trans rfl; have hcz25_6 : w24.cell? ⟨gb242, 6, none⟩ = some (.slice A0_6 l0_6.length c0_6) := (blk_cell BK242.out 6).trans rfl; have hcz25_7 : w24.cell? ⟨gb242, 7, none⟩ = some (.slice A0_7 l0_7.length c0_7) := (blk_cell BK242.out 7).trans rfl; have hcz25_8 : w24.cell? ⟨gb242, 8, none⟩ = some (.slice A0_8 l0_8.length c0_8) := (blk_cell BK242.out 8).trans rfl; have hcz25_9 : w24.cell? ⟨gb242, 9, none⟩ = some (.slice A0_9 l0_9.length c0_9) := (blk_cell BK242.out 9).trans rfl; have hfz25_0 := blk_frozen BK242.out 0; have hfz25_1 := blk_frozen BK242.out 1; have hfz25_2 := blk_frozen BK242.out 2; have hfz25_3 := blk_frozen BK242.out 3; have hfz25_4 := blk_frozen BK242.out 4; have hfz25_5 := blk_frozen BK242.out 5; have hfz25_6 := blk_frozen BK242.out 6; have hfz25_7 := blk_frozen BK242.out 7; have hfz25_8 := blk_frozen BK242.out 8; have hfz25_9 := blk_frozen BK242.out 9; obtain ⟨Ao26, co26, eo26⟩ := Kd.R_slice HO254.out; subst eo26) | ((with_reducible refine gate_callee (f := 56) rfl ?_); refine goesL_ (some 20) rfl rfl Try.func56 (by kernel_rfl) rfl #[.slice Ao26 t252.length co26, .slice A0_3 l0_3.length c0_3] rfl (by (try simp only [List.map_toArray, List.map_cons, List.map_nil]); first | done | rfl | (simp only [List.length_drop, List.length_take]; rfl)) ?_; (with_reducible refine (astrolaberef16_numbers.calls k (fun k_ => some k_ = (.slice Ao26 t252.length co26 : Value).ownBlock) (.slice Ao26 t252.length co26) t252 _ _ l0_3 t255 w _ ?side1 ?side2 ?side3 ?side4 A5.out).mono ?_); (case side1 => repeat (first | (with_reducible first | exact HB.out | apply below_alloc | apply pw_below_drewN | apply below_drew1 | refine below_set ?_ GE242.out) | exact HB.out)); (case side2 => exact Kd.R_tight rfl HO254.out); (case side3 => exact Kd.C_kept_came (Kd.heap_int .i64) HR0_3.out (by repeat (first | (with_reducible first | exact HB.out | apply below_alloc | apply pw_below_drewN | apply below_drew1 | refine below_set ?_ GE242.out) | exact HB.out)) (fun k_ hs_ => (fun e_ => Kd.R_base HO254.out k_ e_.symm) hs_)); (case side4 => exact HC0_3.out); rintro e w27 ⟨v256, rfl, ho0, hb, hkp⟩; refine ⟨_, rfl, ?_⟩; have n0_ := Aside0.mk (blk_kept (by (with_reducible repeat (first | refine blk_drewN ?_ _ | refine blk_drew ?_ | refine blk_alloc ?_ _)); exact BK242.out) hkp (fun hs_ => (fun e_ => (Kd.R_ne HO254.out BK242.out (by decide)) e_) hs_)); have n1_ := Aside0.mk (Kd.R_mono (ok' := fun k_ => True) ho0 (fun k_ hk_ => trivial)); have n2_ := Aside0.mk (hb); clear BK242; clear HB; clear HO254; have BK242 := n0_; have HO257 := n1_; have HB := n2_; clear n0_ n1_ n2_; (try clear hb); (try clear hkp); (try clear ho0); have hcz28_0 : w27.cell? ⟨gb242, 0, none⟩ = some (.slice A0_0 l0_0.length c0_0) := (blk_cell BK242.out 0).trans rfl; have hcz28_1 : w27.cell? ⟨gb242, 1, none⟩ = some (.slice A0_1 l0_1.length c0_1) := (blk_cell BK242.out 1).trans rfl; have hcz28_2 : w27.cell? ⟨gb242, 2, none⟩ = some (.slice A0_2 l0_2.length c0_2) := (blk_cell BK242.out 2).trans rfl; have hcz28_3 : w27.cell? ⟨gb242, 3, none⟩ = some (.slice A0_3 l0_3.length c0_3) := (blk_cell BK242.out 3).trans rfl; have hcz28_4 : w27.cell? ⟨gb242, 4, none⟩ = some (.int .i64 a0_4) := (blk_cell BK242.out 4).trans rfl; have hcz28_5 : w27.cell? ⟨gb242, 5, none⟩ = some (.int .i64 a0_5) := (blk_cell BK242.out 5).trans rfl; have hcz28_6 : w27.cell? ⟨gb242, 6, none⟩ = some (.slice A0_6 l0_6.length c0_6) := (blk_cell BK242.out 6).trans rfl; have hcz28_7 : w27.cell? ⟨gb242, 7, none⟩ = some (.slice A0_7 l0_7.length c0_7) := (blk_cell BK242.out 7).trans rfl; have hcz28_8 : w27.cell? ⟨gb242, 8, none⟩ = some (.slice A0_8 l0_8.length c0_8) := (blk_cell BK242.out 8).trans rfl; have hcz28_9 : w27.cell? ⟨gb242, 9, none⟩ = some (.slice A0_9 l0_9.length c0_9) := (blk_cell BK242.out 9).trans rfl; have hfz28_0 := blk_frozen BK242.out 0; have hfz28_1 := blk_frozen BK242.out 1; have hfz28_2 := blk_frozen BK242.out 2; have hfz28_3 := blk_frozen BK242.out 3; have hfz28_4 := blk_frozen BK242.out 4; have hfz28_5 := blk_frozen BK242.out 5; have hfz28_6 := blk_frozen BK242.out 6; have hfz28_7 := blk_frozen BK242.out 7; have hfz28_8 := blk_frozen BK242.out 8; have hfz28_9 := blk_frozen BK242.out 9; obtain ⟨Ao29, co29, eo29⟩ := Kd.R_slice HO257.out; subst eo29) | ((with_reducible refine gate_callee (f := 57) rfl ?_); refine goesL_ (some 24) rfl rfl Try.func57 (by kernel_rfl) rfl #[.slice Ao29 t255.length co29, .int .i64 a0_4] rfl (by (try simp only [List.map_toArray, List.map_cons, List.map_nil]); first | done | rfl | (simp only [List.length_drop, List.length_take]; rfl)) ?_; (with_reducible refine (astrolaberef16_Number.calls k (fun k_ => some k_ = (.slice Ao29 t255.length co29 : Value).ownBlock) (.slice Ao29 t255.length co29) t255 a0_4 t258 w _ ?side1 ?side2 A6.out).mono ?_); (case side1 => repeat (first | (with_reducible first | exact HB.out | apply below_alloc | apply pw_below_drewN | apply below_drew1 | refine below_set ?_ GE242.out) | exact HB.out)); (case side2 => exact Kd.R_tight rfl HO257.out); rintro e w30 ⟨v259, rfl, ho0, hb, hkp⟩; refine ⟨_, rfl, ?_⟩; have n0_ := Aside0.mk (blk_kept (by (with_reducible repeat (first | refine blk_drewN ?_ _ | refine blk_drew ?_ | refine blk_alloc ?_ _)); exact BK242.out) hkp (fun hs_ => (fun e_ => (Kd.R_ne HO257.out BK242.out (by decide)) e_) hs_)); have n1_ := Aside0.mk (Kd.R_mono (ok' := fun k_ => True) ho0 (fun k_ hk_ => trivial)); have n2_ := Aside0.mk (hb); clear BK242; clear HB; clear HO257; have BK242 := n0_; have HO260 := n1_; have HB := n2_; clear n0_ n1_ n2_; (try clear hb); (try clear hkp); (try clear ho0); have hcz31_0 : w30.cell? ⟨gb242, 0, none⟩ = some (.slice A0_0 l0_0.length c0_0) := (blk_cell BK242.out 0).trans rfl; have hcz31_1 : w30.cell? ⟨gb242, 1, none⟩ = some (.slice A0_1 l0_1.length c0_1) := (blk_cell BK242.out 1).trans rfl; have hcz31_2 : w30.cell? ⟨gb242, 2, none⟩ = some (.slice A0_2 l0_2.length c0_2) := (blk_cell BK242.out 2).trans rfl; have hcz31_3 : w30.cell? ⟨gb242, 3, none⟩ = some (.slice A0_3 l0_3.length c0_3) := (blk_cell BK242.out 3).trans rfl; have hcz31_4 : w30.cell? ⟨gb242, 4, none⟩ = some (.int .i64 a0_4) := (blk_cell BK242.out 4).trans rfl; have hcz31_5 : w30.cell? ⟨gb242, 5, none⟩ = some (.int .i64 a0_5) := (blk_cell BK242.out 5).trans rfl; have hcz31_6 : w30.cell? ⟨gb242, 6, none⟩ = some (.slice A0_6 l0_6.length c0_6) := (blk_cell BK242.out 6).trans rfl; have hcz31_7 : w30.cell? ⟨gb242, 7, none⟩ = some (.slice A0_7 l0_7.length c0_7) := (blk_cell BK242.out 7).trans rfl; have hcz31_8 : w30.cell? ⟨gb242, 8, none⟩ = some (.slice A0_8 l0_8.length c0_8) := (blk_cell BK242.out 8).trans rfl; have hcz31_9 : w30.cell? ⟨gb242, 9, none⟩ = some (.slice A0_9 l0_9.length c0_9) := (blk_cell BK242.out 9).trans rfl; have hfz31_0 := blk_frozen BK242.out 0; have hfz31_1 := blk_frozen BK242.out 1; have hfz31_2 := blk_frozen BK242.out 2; have hfz31_3 := blk_frozen BK242.out 3; have hfz31_4 := blk_frozen BK242.out 4; have hfz31_5 := blk_frozen BK242.out 5; have hfz31_6 := blk_frozen BK242.out 6; have hfz31_7 := blk_frozen BK242.out 7; have hfz31_8 := blk_frozen BK242.out 8; have hfz31_9 := blk_frozen BK242.out 9; obtain ⟨Ao32, co32, eo32⟩ := Kd.R_slice HO260.out; subst eo32) | ((with_reducible refine gate_callee (f := 57) rfl ?_); refine goesL_ (some 28) rfl rfl Try.func57 (by kernel_rfl) rfl #[.slice Ao32 t258.length co32, .int .i64 a0_5] rfl (by (try simp only [List.map_toArray, List.map_cons, List.map_nil]); first | done | rfl | (simp only [List.length_drop, List.length_take]; rfl)) ?_; (with_reducible refine (astrolaberef16_Number.calls k (fun k_ => some k_ = (.slice Ao32 t258.length co32 : Value).ownBlock) (.slice Ao32 t258.length co32) t258 a0_5 t261 w _ ?side1 ?side2 A7.out).mono ?_); (case side1 => repeat (first | (with_reducible first | exact HB.out | apply below_alloc | apply pw_below_drewN | apply below_drew1 | refine below_set ?_ GE242.out) | exact HB.out)); (case side2 => exact Kd.R_tight rfl HO260.out); rintro e w33 ⟨v262, rfl, ho0, hb, hkp⟩; refine ⟨_, rfl, ?_⟩; have n0_ := Aside0.mk (blk_kept (by (with_reducible repeat (first | refine blk_drewN ?_ _ | refine blk_drew ?_ | refine blk_alloc ?_ _)); exact BK242.out) hkp (fun hs_ => (fun e_ => (Kd.R_ne HO260.out BK242.out (by decide)) e_) hs_)); have n1_ := Aside0.mk (Kd.R_mono (ok' := fun k_ => True) ho0 (fun k_ hk_ => trivial)); have n2_ := Aside0.mk (hb); clear BK242; clear HB; clear HO260; have BK242 := n0_; have HO263 := n1_; have HB := n2_; clear n0_ n1_ n2_; (try clear hb); (try clear hkp); (try clear ho0); have hcz34_0 : w33.cell? ⟨gb242, 0, none⟩ = some (.slice A0_0 l0_0.length c0_0) := (blk_cell BK242.out 0).trans rfl; have hcz34_1 : w33.cell? ⟨gb242, 1, none⟩ = some (.slice A0_1 l0_1.length c0_1) := (blk_cell BK242.out 1).trans rfl; have hcz34_2 : w33.cell? ⟨gb242, 2, none⟩ = some (.slice A0_2 l0_2.length c0_2) := (blk_cell BK242.out 2).trans rfl; have hcz34_3 : w33.cell? ⟨gb242, 3, none⟩ = some (.slice A0_3 l0_3.length c0_3) := (blk_cell BK242.out 3).trans rfl; have hcz34_4 : w33.cell? ⟨gb242, 4, none⟩ = some (.int .i64 a0_4) := (blk_cell BK242.out 4).trans rfl; have hcz34_5 : w33.cell? ⟨gb242, 5, none⟩ = some (.int .i64 a0_5) := (blk_cell BK242.out 5).trans rfl; have hcz34_6 : w33.cell? ⟨gb242, 6, none⟩ = some (.slice A0_6 l0_6.length c0_6) := (blk_cell BK242.out 6).trans rfl; have hcz34_7 : w33.cell? ⟨gb242, 7, none⟩ = some (.slice A0_7 l0_7.length c0_7) := (blk_cell BK242.out 7).trans rfl; have hcz34_8 : w33.cell? ⟨gb242, 8, none⟩ = some (.slice A0_8 l0_8.length c0_8) := (blk_cell BK242.out 8).trans rfl; have hcz34_9 : w33.cell? ⟨gb242, 9, none⟩ = some (.slice A0_9 l0_9.length c0_9) := (blk_cell BK242.out 9).trans rfl; have hfz34_0 := blk_frozen BK242.out 0; have hfz34_1 := blk_frozen BK242.out 1; have hfz34_2 := blk_frozen BK242.out 2; have hfz34_3 := blk_frozen BK242.out 3; have hfz34_4 := blk_frozen BK242.out 4; have hfz34_5 := blk_frozen BK242.out 5; have hfz34_6 := blk_frozen BK242.out 6; have hfz34_7 := blk_frozen BK242.out 7; have hfz34_8 := blk_frozen BK242.out 8; have hfz34_9 := blk_frozen BK242.out 9; obtain ⟨Ao35, co35, eo35⟩ := Kd.R_slice HO263.out; subst eo35) | ((with_reducible refine gate_callee (f := 58) rfl ?_); refine goesL_ (some 32) rfl rfl Try.func58 (by kernel_rfl) rfl #[.slice Ao35 t261.length co35, .slice A0_6 l0_6.length c0_6] rfl (by (try simp only [List.map_toArray, List.map_cons, List.map_nil]); first | done | rfl | (simp only [List.length_drop, List.length_take]; rfl)) ?_; (with_reducible refine (astrolaberef16_piece.calls k (fun k_ => some k_ = (.slice Ao35 t261.length co35 : Value).ownBlock) (.slice Ao35 t261.length co35) t261 _ _ l0_6 t264 w _ ?side1 ?side2 ?side3 ?side4 A8.out).mono ?_); (case side1 => repeat (first | (with_reducible first | exact HB.out | apply below_alloc | apply pw_below_drewN | apply below_drew1 | refine below_set ?_ GE242.out) | exact HB.out)); (case side2 => exact Kd.R_tight rfl HO263.out); (case side3 => exact Kd.C_kept_came k47_heap HR0_6.out (by repeat (first | (with_reducible first | exact HB.out | apply below_alloc | apply pw_below_drewN | apply below_drew1 | refine below_set ?_ GE242.out) | exact HB.out)) (fun k_ hs_ => (fun e_ => Kd.R_base HO263.out k_ e_.symm) hs_)); (case side4 => exact HC0_6.out); rintro e w36 ⟨v265, rfl, ho0, hb, hkp⟩; refine ⟨_, rfl, ?_⟩; have n0_ := Aside0.mk (blk_kept (by (with_reducible repeat (first | refine blk_drewN ?_ _ | refine blk_drew ?_ | refine blk_alloc ?_ _)); exact BK242.out) hkp (fun hs_ => (fun e_ => (Kd.R_ne HO263.out BK242.out (by decide)) e_) hs_)); have n1_ := Aside0.mk (Kd.R_mono (ok' := fun k_ => True) ho0 (fun k_ hk_ => trivial)); have n2_ := Aside0.mk (hb); clear BK242; clear HB; clear HO263; have BK242 := n0_; have HO266 := n1_; have HB := n2_; clear n0_ n1_ n2_; (try clear hb); (try clear hkp); (try clear ho0); have hcz37_0 : w36.cell? ⟨gb242, 0, none⟩ = some (.slice A0_0 l0_0.length c0_0) := (blk_cell BK242.out 0).trans rfl; have hcz37_1 : w36.cell? ⟨gb242, 1, none⟩ = some (.slice A0_1 l0_1.length c0_1) := (blk_cell BK242.out 1).trans rfl; have hcz37_2 : w36.cell? ⟨gb242, 2, none⟩ = some (.slice A0_2 l0_2.length c0_2) := (blk_cell BK242.out 2).trans rfl; have hcz37_3 : w36.cell? ⟨gb242, 3, none⟩ = some (.slice A0_3 l0_3.length c0_3) := (blk_cell BK242.out 3).trans rfl; have hcz37_4 : w36.cell? ⟨gb242, 4, none⟩ = some (.int .i64 a0_4) := (blk_cell BK242.out 4).trans rfl; have hcz37_5 : w36.cell? ⟨gb242, 5, none⟩ = some (.int .i64 a0_5) := (blk_cell BK242.out 5).trans rfl; have hcz37_6 : w36.cell? ⟨gb242, 6, none⟩ = some (.slice A0_6 l0_6.length c0_6) := (blk_cell BK242.out 6).trans rfl; have hcz37_7 : w36.cell? ⟨gb242, 7, none⟩ = some (.slice A0_7 l0_7.length c0_7) := (blk_cell BK242.out 7).trans rfl; have hcz37_8 : w36.cell? ⟨gb242, 8, none⟩ = some (.slice A0_8 l0_8.length c0_8) := (blk_cell BK242.out 8).trans rfl; have hcz37_9 : w36.cell? ⟨gb242, 9, none⟩ = some (.slice A0_9 l0_9.length c0_9) := (blk_cell BK242.out 9).trans rfl; have hfz37_0 := blk_frozen BK242.out 0; have hfz37_1 := blk_frozen BK242.out 1; have hfz37_2 := blk_frozen BK242.out 2; have hfz37_3 := blk_frozen BK242.out 3; have hfz37_4 := blk_frozen BK242.out 4; have hfz37_5 := blk_frozen BK242.out 5; have hfz37_6 := blk_frozen BK242.out 6; have hfz37_7 := blk_frozen BK242.out 7; have hfz37_8 := blk_frozen BK242.out 8; have hfz37_9 := blk_frozen BK242.out 9; obtain ⟨Ao38, co38, eo38⟩ := Kd.R_slice HO266.out; subst eo38) | ((with_reducible refine gate_callee (f := 58) rfl ?_); refine goesL_ (some 36) rfl rfl Try.func58 (by kernel_rfl) rfl #[.slice Ao38 t264.length co38, .slice A0_7 l0_7.length c0_7] rfl (by (try simp only [List.map_toArray, List.map_cons, List.map_nil]); first | done | rfl | (simp only [List.length_drop, List.length_take]; rfl)) ?_; (with_reducible refine (astrolaberef16_piece.calls k (fun k_ => some k_ = (.slice Ao38 t264.length co38 : Value).ownBlock) (.slice Ao38 t264.length co38) t264 _ _ l0_7 t267 w _ ?side1 ?side2 ?side3 ?side4 A9.out).mono ?_); (case side1 => repeat (first | (with_reducible first | exact HB.out | apply below_alloc | apply pw_below_drewN | apply below_drew1 | refine below_set ?_ GE242.out) | exact HB.out)); (case side2 => exact Kd.R_tight rfl HO266.out); (case side3 => exact Kd.C_kept_came k47_heap HR0_7.out (by repeat (first | (with_reducible first | exact HB.out | apply below_alloc | apply pw_below_drewN | apply below_drew1 | refine below_set ?_ GE242.out) | exact HB.out)) (fun k_ hs_ => (fun e_ => Kd.R_base HO266.out k_ e_.symm) hs_)); (case side4 => exact HC0_7.out); rintro e w39 ⟨v268, rfl, ho0, hb, hkp⟩; refine ⟨_, rfl, ?_⟩; have n0_ := Aside0.mk (blk_kept (by (with_reducible repeat (first | refine blk_drewN ?_ _ | refine blk_drew ?_ | refine blk_alloc ?_ _)); exact BK242.out) hkp (fun hs_ => (fun e_ => (Kd.R_ne HO266.out BK242.out (by decide)) e_) hs_)); have n1_ := Aside0.mk (Kd.R_mono (ok' := fun k_ => True) ho0 (fun k_ hk_ => trivial)); have n2_ := Aside0.mk (hb); clear BK242; clear HB; clear HO266; have BK242 := n0_; have HO269 := n1_; have HB := n2_; clear n0_ n1_ n2_; (try clear hb); (try clear hkp); (try clear ho0); have hcz40_0 : w39.cell? ⟨gb242, 0, none⟩ = some (.slice A0_0 l0_0.length c0_0) := (blk_cell BK242.out 0).trans rfl; have hcz40_1 : w39.cell? ⟨gb242, 1, none⟩ = some (.slice A0_1 l0_1.length c0_1) := (blk_cell BK242.out 1).trans rfl; have hcz40_2 : w39.cell? ⟨gb242, 2, none⟩ = some (.slice A0_2 l0_2.length c0_2) := (blk_cell BK242.out 2).trans rfl; have hcz40_3 : w39.cell? ⟨gb242, 3, none⟩ = some (.slice A0_3 l0_3.length c0_3) := (blk_cell BK242.out 3).trans rfl; have hcz40_4 : w39.cell? ⟨gb242, 4, none⟩ = some (.int .i64 a0_4) := (blk_cell BK242.out 4).trans rfl; have hcz40_5 : w39.cell? ⟨gb242, 5, none⟩ = some (.int .i64 a0_5) := (blk_cell BK242.out 5).trans rfl; have hcz40_6 : w39.cell? ⟨gb242, 6, none⟩ = some (.slice A0_6 l0_6.length c0_6) := (blk_cell BK242.out 6).trans rfl; have hcz40_7 : w39.cell? ⟨gb242, 7, none⟩ = some (.slice A0_7 l0_7.length c0_7) := (blk_cell BK242.out 7).trans rfl; have hcz40_8 : w39.cell? ⟨gb242, 8, none⟩ = some (.slice A0_8 l0_8.length c0_8) := (blk_cell BK242.out 8).trans rfl; have hcz40_9 : w39.cell? ⟨gb242, 9, none⟩ = some (.slice A0_9 l0_9.length c0_9) := (blk_cell BK242.out 9).trans rfl; have hfz40_0 := blk_frozen BK242.out 0; have hfz40_1 := blk_frozen BK242.out 1; have hfz40_2 := blk_frozen BK242.out 2; have hfz40_3 := blk_frozen BK242.out 3; have hfz40_4 := blk_frozen BK242.out 4; have hfz40_5 := blk_frozen BK242.out 5; have hfz40_6 := blk_frozen BK242.out 6; have hfz40_7 := blk_frozen BK242.out 7; have hfz40_8 := blk_frozen BK242.out 8; have hfz40_9 := blk_frozen BK242.out 9; obtain ⟨Ao41, co41, eo41⟩ := Kd.R_slice HO269.out; subst eo41) | ((with_reducible refine gate_callee (f := 58) rfl ?_); refine goesL_ (some 40) rfl rfl Try.func58 (by kernel_rfl) rfl #[.slice Ao41 t267.length co41, .slice A0_8 l0_8.length c0_8] rfl (by (try simp only [List.map_toArray, List.map_cons, List.map_nil]); first | done | rfl | (simp only [List.length_drop, List.length_take]; rfl)) ?_; (with_reducible refine (astrolaberef16_piece.calls k (fun k_ => some k_ = (.slice Ao41 t267.length co41 : Value).ownBlock) (.slice Ao41 t267.length co41) t267 _ _ l0_8 t270 w _ ?side1 ?side2 ?side3 ?side4 A10.out).mono ?_); (case side1 => repeat (first | (with_reducible first | exact HB.out | apply below_alloc | apply pw_below_drewN | apply below_drew1 | refine below_set ?_ GE242.out) | exact HB.out)); (case side2 => exact Kd.R_tight rfl HO269.out); (case side3 => exact Kd.C_kept_came k47_heap HR0_8.out (by repeat (first | (with_reducible first | exact HB.out | apply below_alloc | apply pw_below_drewN | apply below_drew1 | refine below_set ?_ GE242.out) | exact HB.out)) (fun k_ hs_ => (fun e_ => Kd.R_base HO269.out k_ e_.symm) hs_)); (case side4 => exact HC0_8.out); rintro e w42 ⟨v271, rfl, ho0, hb, hkp⟩; refine ⟨_, rfl, ?_⟩; have n0_ := Aside0.mk (blk_kept (by (with_reducible repeat (first | refine blk_drewN ?_ _ | refine blk_drew ?_ | refine blk_alloc ?_ _)); exact BK242.out) hkp (fun hs_ => (fun e_ => (Kd.R_ne HO269.out BK242.out (by decide)) e_) hs_)); have n1_ := Aside0.mk (Kd.R_mono (ok' := fun k_ => True) ho0 (fun k_ hk_ => trivial)); have n2_ := Aside0.mk (hb); clear BK242; clear HB; clear HO269; have BK242 := n0_; have HO272 := n1_; have HB := n2_; clear n0_ n1_ n2_; (try clear hb); (try clear hkp); (try clear ho0); have hcz43_0 : w42.cell? ⟨gb242, 0, none⟩ = some (.slice A0_0 l0_0.length c0_0) := (blk_cell BK242.out 0).trans rfl; have hcz43_1 : w42.cell? ⟨gb242, 1, none⟩ = some (.slice A0_1 l0_1.length c0_1) := (blk_cell BK242.out 1).trans rfl; have hcz43_2 : w42.cell? ⟨gb242, 2, none⟩ = some (.slice A0_2 l0_2.length c0_2) := (blk_cell BK242.out 2).trans rfl; have hcz43_3 : w42.cell? ⟨gb242, 3, none⟩ = some (.slice A0_3 l0_3.length c0_3) := (blk_cell BK242.out 3).trans rfl; have hcz43_4 : w42.cell? ⟨gb242, 4, none⟩ = some (.int .i64 a0_4) := (blk_cell BK242.out 4).trans rfl; have hcz43_5 : w42.cell? ⟨gb242, 5, none⟩ = some (.int .i64 a0_5) := (blk_cell BK242.out 5).trans rfl; have hcz43_6 : w42.cell? ⟨gb242, 6, none⟩ = some (.slice A0_6 l0_6.length c0_6) := (blk_cell BK242.out 6).trans rfl; have hcz43_7 : w42.cell? ⟨gb242, 7, none⟩ = some (.slice A0_7 l0_7.length c0_7) := (blk_cell BK242.out 7).trans rfl; have hcz43_8 : w42.cell? ⟨gb242, 8, none⟩ = some (.slice A0_8 l0_8.length c0_8) := (blk_cell BK242.out 8).trans rfl; have hcz43_9 : w42.cell? ⟨gb242, 9, none⟩ = some (.slice A0_9 l0_9.length c0_9) := (blk_cell BK242.out 9).trans rfl; have hfz43_0 := blk_frozen BK242.out 0; have hfz43_1 := blk_frozen BK242.out 1; have hfz43_2 := blk_frozen BK242.out 2; have hfz43_3 := blk_frozen BK242.out 3; have hfz43_4 := blk_frozen BK242.out 4; have hfz43_5 := blk_frozen BK242.out 5; have hfz43_6 := blk_frozen BK242.out 6; have hfz43_7 := blk_frozen BK242.out 7; have hfz43_8 := blk_frozen BK242.out 8; have hfz43_9 := blk_frozen BK242.out 9; obtain ⟨Ao44, co44, eo44⟩ := Kd.R_slice HO272.out; subst eo44) | ((with_reducible refine gate_callee (f := 58) rfl ?_); refine goesL_ (some 44) rfl rfl Try.func58 (by kernel_rfl) rfl #[.slice Ao44 t270.length co44, .slice A0_9 l0_9.length c0_9] rfl (by (try simp only [List.map_toArray, List.map_cons, List.map_nil]); first | done | rfl | (simp only [List.length_drop, List.length_take]; rfl)) ?_; (with_reducible refine (astrolaberef16_piece.calls k (fun k_ => some k_ = (.slice Ao44 t270.length co44 : Value).ownBlock) (.slice Ao44 t270.length co44) t270 _ _ l0_9 t273 w _ ?side1 ?side2 ?side3 ?side4 A11.out).mono ?_); (case side1 => repeat (first | (with_reducible first | exact HB.out | apply below_alloc | apply pw_below_drewN | apply below_drew1 | refine below_set ?_ GE242.out) | exact HB.out)); (case side2 => exact Kd.R_tight rfl HO272.out); (case side3 => exact Kd.C_kept_came k47_heap HR0_9.out (by repeat (first | (with_reducible first | exact HB.out | apply below_alloc | apply pw_below_drewN | apply below_drew1 | refine below_set ?_ GE242.out) | exact HB.out)) (fun k_ hs_ => (fun e_ => Kd.R_base HO272.out k_ e_.symm) hs_)); (case side4 => exact HC0_9.out); rintro e w45 ⟨v274, rfl, ho0, hb, hkp⟩; refine ⟨_, rfl, ?_⟩; have n0_ := Aside0.mk (blk_kept (by (with_reducible repeat (first | refine blk_drewN ?_ _ | refine blk_drew ?_ | refine blk_alloc ?_ _)); exact BK242.out) hkp (fun hs_ => (fun e_ => (Kd.R_ne HO272.out BK242.out (by decide)) e_) hs_)); have n1_ := Aside0.mk (Kd.R_mono (ok' := fun k_ => True) ho0 (fun k_ hk_ => trivial)); have n2_ := Aside0.mk (hb); clear BK242; clear HB; clear HO272; have BK242 := n0_; have HO275 := n1_; have HB := n2_; clear n0_ n1_ n2_; (try clear hb); (try clear hkp); (try clear ho0); obtain ⟨Ao46, co46, eo46⟩ := Kd.R_slice HO275.out; subst eo46) | ((with_reducible refine gate_callee (f := 59) rfl ?_); refine goesL_ (some 46) rfl rfl Try.func59 (by kernel_rfl) rfl #[.slice Ao46 t273.length co46] rfl (by (try simp only [List.map_toArray, List.map_cons, List.map_nil]); first | done | rfl | (simp only [List.length_drop, List.length_take]; rfl)) ?_; (with_reducible refine (astrolaberef16_Sum.calls k _ _ t273 t276 _ ?side1 ?side2 A12.out).mono ?_); (case side1 => repeat (first | exact (Kd.R_reads' HO275.out).2.2 | (with_reducible refine Kd.C_alloc ?_ _) | (with_reducible refine Kd.C_drewN ?_ _) | (with_reducible refine Kd.C_drew ?_))); (case side2 => exact (Kd.R_reads' HO275.out).2.1); rintro e w47 ⟨v277, rfl, ho0, hb⟩; refine ⟨_, rfl, ?_⟩; have n0_ := Aside0.mk (Kd.R_elder' (by (with_reducible repeat (first | apply Kd.R_alloc | apply Kd.R_drewN | apply Kd.R_drew)); exact HO275.out) (Kd.R_base ho0) hb); have n1_ := Aside0.mk (Kd.R_lower (Kd.R_new' ho0 (Kd.R_lt (by (with_reducible repeat (first | apply Kd.R_alloc | apply Kd.R_drewN | apply Kd.R_drew)); exact HO275.out))) (below_size (by repeat (first | (with_reducible first | exact HB.out | apply below_alloc | apply pw_below_drewN | apply below_drew1 | refine below_set ?_ GE242.out) | exact HB.out)))); have n2_ := Aside0.mk (blk_below (g := gb242) (o := .cells #[.slice A0_0 l0_0.length c0_0, .slice A0_1 l0_1.length c0_1, .slice A0_2 l0_2.length c0_2, .slice A0_3 l0_3.length c0_3, .int .i64 a0_4, .int .i64 a0_5, .slice A0_6 l0_6.length c0_6, .slice A0_7 l0_7.length c0_7, .slice A0_8 l0_8.length c0_8, .slice A0_9 l0_9.length c0_9] 28 (0, 0)) (by (with_reducible repeat (first | refine blk_drewN ?_ _ | refine blk_drew ?_ | refine blk_alloc ?_ _)); exact BK242.out) hb); have n3_ := Aside0.mk (below_step (by repeat (first | (with_reducible first | exact HB.out | apply below_alloc | apply pw_below_drewN | apply below_drew1 | refine below_set ?_ GE242.out) | exact HB.out)) hb); clear HO275; clear BK242; clear HB; have HO275 := n0_; have HO278 := n1_; have BK242 := n2_; have HB := n3_; clear n0_ n1_ n2_ n3_; (try clear hb); (try clear hb2); (try clear hk); (try clear hi); (try clear ho0)))
  go_ret
  exact ⟨_, by first | rfl | (simp [errW_none, errW_some] <;> rfl) | (simp [*, errW_none, errW_some] <;> rfl), by (with_reducible repeat (first | apply Kd.R_alloc | apply Kd.R_drewN | apply Kd.R_drew)); exact Kd.R_mono HO278.out (fun _ hk => trivial), by repeat (first | (with_reducible first | exact HB.out | apply below_alloc | apply pw_below_drewN | apply below_drew1 | refine below_set ?_ GE242.out) | exact HB.out)⟩

end Go.Proofs.Ytccolpkjgjjipaa.K
