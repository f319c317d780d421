-- written by myprint.py (wip/tools) out of the translation
import Derived.Test.YthgnpmchhikchaaQ0
import Derived.Test.YthgnpmchhikchaaQ4
import Derived.Test.YthgnpmchhikchaaQ9
import Derived.Test.YthgnpmchhikchaaQ11
namespace Go.Proofs.Ythgnpmchhikchaa.Q
open Go.RowKit Go.Proofs.YthgnpmchhikchaaW.PrintWords Go.Proofs.YthgnpmchhikchaaW.PrintLast Go.Proofs.YthgnpmchhikchaaW.PrintMore
attribute [local go_sem] max2_int min2_int max_two min_two max_three min_three max_four min_four   -- for this text's walks alone
set_option linter.unusedVariables false
set_option linter.unusedSimpArgs false

/-! ### astrolabelaw01_FixqLerps: function 8 -/
def astrolabelaw01_FixqLerps.j0 : Nat → Int → Int → Int → Bool → Option (Bool)
  | 0, _, _, _, _ => none
  | k + 1, x0, x1, x3, x44 => if x44 = true then (some false) else ((astrolaberef01_Diff.f k x1 x0).bind fun bt433 => (if bt433.2 = 0 then ((fixq_Lerp.f k x0 x1 0 x3).bind fun bt435 => ((fixq_Lerp.f k x0 x1 4294967296 x3).bind fun bt437 => (if bt435.1 = x0 then (some (bt437.1 == x1)) else (some false)))) else (some true)))
def astrolabelaw01_FixqLerps.f (k : Nat) (a0 : Int) (a1 : Int) (a2 : Int) (a3 : Int) : Option (Bool) := (astrolabelaw01_alive.f k).bind fun t428 => (if t428 = true then ((fixq_Lerp.f k a0 a1 a2 a3).bind fun bt429 => ((astrolaberef01_Lerp.f k a0 a1 a2 a3).bind fun bt431 => (if bt429.1 = bt431.1 then (astrolabelaw01_FixqLerps.j0 k a0 a1 a3 (bt429.2 != bt431.2)) else (astrolabelaw01_FixqLerps.j0 k a0 a1 a3 true)))) else (some false))
theorem astrolabelaw01_FixqLerps.mono_l : ∀ k, (∀ y0 y1 y2 y3, LeO (astrolabelaw01_FixqLerps.j0 k y0 y1 y2 y3) (astrolabelaw01_FixqLerps.j0 (k + 1) y0 y1 y2 y3))
  | 0 => fun _ _ _ _ r h => by simp [astrolabelaw01_FixqLerps.j0] at h
  | k + 1 => by
    have ih0 := astrolabelaw01_FixqLerps.mono_l k
    · intro y0 y1 y2 y3
      unfold astrolabelaw01_FixqLerps.j0
      repeat' first
      | (with_reducible exact ih0 _ _ _ _)
      | (with_reducible exact astrolabelaw01_alive.mono _)
      | (with_reducible exact astrolaberef01_Diff.mono _ _ _)
      | (with_reducible exact astrolaberef01_Lerp.mono _ _ _ _ _)
      | (with_reducible exact fixq_Lerp.mono _ _ _ _ _)
      | (with_reducible exact LeO.refl _)
      | (with_reducible exact LeO.none _)
      | (with_reducible refine LeO.ite ?_ ?_)
      | (with_reducible refine LeO.bind ?_ (fun _ => ?_))
      | exact ih0 _ _ _ _
      | exact astrolabelaw01_alive.mono _
      | exact astrolaberef01_Diff.mono _ _ _
      | exact astrolaberef01_Lerp.mono _ _ _ _ _
      | exact fixq_Lerp.mono _ _ _ _ _
      | exact LeO.none _
      | refine LeO.ite ?_ ?_
      | refine LeO.bind ?_ (fun _ => ?_)
theorem astrolabelaw01_FixqLerps.mono : ∀ a0 a1 a2 a3 k, LeO (astrolabelaw01_FixqLerps.f k a0 a1 a2 a3) (astrolabelaw01_FixqLerps.f (k + 1) a0 a1 a2 a3) := by
  intro a0 a1 a2 a3 k
  have ih0 := astrolabelaw01_FixqLerps.mono_l k
  unfold astrolabelaw01_FixqLerps.f
  repeat' first
      | (with_reducible exact ih0 _ _ _ _)
      | (with_reducible exact astrolabelaw01_alive.mono _)
      | (with_reducible exact astrolaberef01_Diff.mono _ _ _)
      | (with_reducible exact astrolaberef01_Lerp.mono _ _ _ _ _)
      | (with_reducible exact fixq_Lerp.mono _ _ _ _ _)
      | (with_reducible exact LeO.refl _)
      | (with_reducible exact LeO.none _)
      | (with_reducible refine LeO.ite ?_ ?_)
      | (with_reducible refine LeO.bind ?_ (fun _ => ?_))
      | exact ih0 _ _ _ _
      | exact astrolabelaw01_alive.mono _
      | exact astrolaberef01_Diff.mono _ _ _
      | exact astrolaberef01_Lerp.mono _ _ _ _ _
      | exact fixq_Lerp.mono _ _ _ _ _
      | exact LeO.none _
      | refine LeO.ite ?_ ?_
      | refine LeO.bind ?_ (fun _ => ?_)
set_option maxHeartbeats 8000000 in
set_option maxRecDepth 100000 in
theorem astrolabelaw01_FixqLerps.calls (k : Nat) (a0 : Int) (a1 : Int) (a2 : Int) (a3 : Int) (r : Bool) (w : World) (h : astrolabelaw01_FixqLerps.f k a0 a1 a2 a3 = some r) :
    Calls Try.prog 8 #[.int .i64 a0, .int .i64 a1, .int .i64 a2, .int .i64 a3] w fun e w' => e = .returned (.bool r) ∧ Below w.heap.size w w' := by
  have HB := Aside0.mk (Below.refl w.heap.size w)
  have H : ((astrolabelaw01_alive.f k).bind fun t428 => (if t428 = true then ((fixq_Lerp.f k a0 a1 a2 a3).bind fun bt429 => ((astrolaberef01_Lerp.f k a0 a1 a2 a3).bind fun bt431 => (if bt429.1 = bt431.1 then (astrolabelaw01_FixqLerps.j0 k a0 a1 a3 (bt429.2 != bt431.2)) else (astrolabelaw01_FixqLerps.j0 k a0 a1 a3 true)))) else (some false))) = some r := h
  clear h
  replace H := Option.bind_eq_some_iff.mp H
  obtain ⟨t428, A50, H⟩ := H
  replace H : (if t428 = true then ((fixq_Lerp.f k a0 a1 a2 a3).bind fun bt429 => ((astrolaberef01_Lerp.f k a0 a1 a2 a3).bind fun bt431 => (if bt429.1 = bt431.1 then (astrolabelaw01_FixqLerps.j0 k a0 a1 a3 (bt429.2 != bt431.2)) else (astrolabelaw01_FixqLerps.j0 k a0 a1 a3 true)))) else (some false)) = some r := H
  have A5 := Aside0.mk A50
  clear A50
  by_cases c6 : t428 = true
  · subst c6
    have H1 : ((fixq_Lerp.f k a0 a1 a2 a3).bind fun bt429 => ((astrolaberef01_Lerp.f k a0 a1 a2 a3).bind fun bt431 => (if bt429.1 = bt431.1 then (astrolabelaw01_FixqLerps.j0 k a0 a1 a3 (bt429.2 != bt431.2)) else (astrolabelaw01_FixqLerps.j0 k a0 a1 a3 true)))) = some r := by rw [if_pos rfl] at H; exact H
    clear H
    have H := H1
    clear H1
    replace H := Option.bind_eq_some_iff.mp H
    obtain ⟨⟨t429, t430⟩, A70, H⟩ := H
    replace H : ((astrolaberef01_Lerp.f k a0 a1 a2 a3).bind fun bt431 => (if t429 = bt431.1 then (astrolabelaw01_FixqLerps.j0 k a0 a1 a3 (t430 != bt431.2)) else (astrolabelaw01_FixqLerps.j0 k a0 a1 a3 true))) = some r := H
    have A7 := Aside0.mk A70
    clear A70
    replace H := Option.bind_eq_some_iff.mp H
    obtain ⟨⟨t431, t432⟩, A80, H⟩ := H
    replace H : (if t429 = t431 then (astrolabelaw01_FixqLerps.j0 k a0 a1 a3 (t430 != t432)) else (astrolabelaw01_FixqLerps.j0 k a0 a1 a3 true)) = some r := H
    have A8 := Aside0.mk A80
    clear A80
    have HC9 := Aside0.mk H
    clear H
    go_enter Try.func8, Try.ntmps8
    go_upto_region 5 with (first | ((with_reducible refine gate_callee (f := 10) rfl ?_); refine goesL_ (some 19) rfl rfl Try.func10 (by kernel_rfl) rfl #[] rfl (by (try simp only [List.map_toArray, List.map_cons, List.map_nil]); first | done | rfl | (simp only [List.length_drop, List.length_take]; rfl)) ?_; (with_reducible refine (astrolabelaw01_alive.calls k  true _ A5.out).mono ?_); rintro e w10 ⟨rfl, hb⟩; refine ⟨_, rfl, ?_⟩; have n0_ := Aside0.mk (below_step (by repeat (first | (with_reducible first | exact HB.out | apply below_alloc | apply pw_below_drewN | apply below_drew1) | exact HB.out)) hb); clear HB; have HB := n0_; clear n0_; (try clear hb); (try clear hb2); (try clear hk); (try clear hi)) | ((with_reducible refine gate_callee (f := 28) rfl ?_); refine goesL_ (some 26) rfl rfl Try.func28 (by kernel_rfl) rfl #[.int .i64 a0, .int .i64 a1, .int .i64 a2, .int .i64 a3] rfl (by (try simp only [List.map_toArray, List.map_cons, List.map_nil]); first | done | rfl | (simp only [List.length_drop, List.length_take]; rfl)) ?_; (with_reducible refine (fixq_Lerp.calls k a0 a1 a2 a3 t429 t430 _ A7.out).mono ?_); rintro e w11 ⟨rfl, hb⟩; refine ⟨_, rfl, ?_⟩; have n0_ := Aside0.mk (below_step (by repeat (first | (with_reducible first | exact HB.out | apply below_alloc | apply pw_below_drewN | apply below_drew1) | exact HB.out)) hb); clear HB; have HB := n0_; clear n0_; (try clear hb); (try clear hb2); (try clear hk); (try clear hi)) | ((with_reducible refine gate_callee (f := 29) rfl ?_); refine goesL_ (some 34) rfl rfl Try.func29 (by kernel_rfl) rfl #[.int .i64 a0, .int .i64 a1, .int .i64 a2, .int .i64 a3] rfl (by (try simp only [List.map_toArray, List.map_cons, List.map_nil]); first | done | rfl | (simp only [List.length_drop, List.length_take]; rfl)) ?_; (with_reducible refine (astrolaberef01_Lerp.calls k a0 a1 a2 a3 t431 t432 _ A8.out).mono ?_); rintro e w12 ⟨rfl, hb⟩; refine ⟨_, rfl, ?_⟩; have n0_ := Aside0.mk (below_step (by repeat (first | (with_reducible first | exact HB.out | apply below_alloc | apply pw_below_drewN | apply below_drew1) | exact HB.out)) hb); clear HB; have HB := n0_; clear n0_; (try clear hb); (try clear hb2); (try clear hk); (try clear hi)))
    (try simp only [Act.put, List.setIfInBounds_toArray, List.set_cons_zero, List.set_cons_succ])
    go_cut [44] (fun v44 wc => ∃ (kq : Nat) (x44_8 : Bool), v44 = .bool x44_8 ∧ Aside0 (astrolabelaw01_FixqLerps.j0 kq a0 a1 a3 x44_8 = some r) ∧ Aside0 (kq ≤ k) ∧ Aside0 (Below w.heap.size w wc))
    case first =>
      have H := HC9.out
      clear HC9
      by_cases c13 : t429 = t431
      · rw [if_pos c13] at H
        have c13b0 : (t429 == t431) = true := beq_iff_eq.mpr c13
        have c13b1 : (t429 != t431) = false := bne_eq_false_iff_eq.mpr c13
        clear c13
        (first | rw [c13b0] | (simp only [i64_w, i32_w]; rw [c13b0]) | skip)
        have H' := Aside0.mk H
        clear H
        go_wp2
        go_meet
        case rel => exact ⟨_, ((t430 != t432)), (by first | rfl | (simp; done) | (simp [*]; done)), H', ⟨by first | omega | exact Nat.le_refl _⟩, ⟨by repeat (first | (with_reducible first | exact HB.out | apply below_alloc | apply pw_below_drewN | apply below_drew1) | exact HB.out)⟩⟩
      · rw [if_neg c13] at H
        have c13b0 : (t429 == t431) = false := beq_eq_false_iff_ne.mpr c13
        have c13b1 : (t429 != t431) = true := bne_iff_ne.mpr c13
        (first | rw [c13b0] | (simp only [i64_w, i32_w]; rw [c13b0]) | skip)
        have H' := Aside0.mk H
        clear H
        go_wp2
        go_meet
        case rel => exact ⟨_, (true), (by first | rfl | (simp; done) | (simp [*]; done)), H', ⟨by first | omega | exact Nat.le_refl _⟩, ⟨by repeat (first | (with_reducible first | exact HB.out | apply below_alloc | apply pw_below_drewN | apply below_drew1) | exact HB.out)⟩⟩
    case rest =>
      clear HC9
      try clear c1
      try clear c2
      try clear p2
      try clear c6
      try clear c8
      try clear c10
      try clear c13
      try clear c13b0
      try clear c13b1
      obtain ⟨kq, x44_8, rfl, HA, HJ8, HB⟩ := hcut
      cases kq with
      | zero => exact absurd HA.out (by simp [astrolabelaw01_FixqLerps.j0])
      | succ kj8 =>
        have H := HA.out
        clear HA
        simp only [astrolabelaw01_FixqLerps.j0] at H
        by_cases c14 : x44_8 = true
        · subst c14
          have H1 : (some false) = some r := by rw [if_pos rfl] at H; exact H
          clear H
          have H := H1
          clear H1
          obtain rfl := Option.some.inj H
          go_wp2
          go_ret
          exact ⟨by first | rfl | (simp [errW_none, errW_some] <;> rfl) | (simp [*, errW_none, errW_some] <;> rfl), by repeat (first | (with_reducible first | exact HB.out | apply below_alloc | apply pw_below_drewN | apply below_drew1) | exact HB.out)⟩
        · replace c14 := Bool.eq_false_iff.mpr c14
          subst c14
          have H1 : ((astrolaberef01_Diff.f kj8 a1 a0).bind fun bt433 => (if bt433.2 = 0 then ((fixq_Lerp.f kj8 a0 a1 0 a3).bind fun bt435 => ((fixq_Lerp.f kj8 a0 a1 4294967296 a3).bind fun bt437 => (if bt435.1 = a0 then (some (bt437.1 == a1)) else (some false)))) else (some true))) = some r := by rw [if_neg (show ¬ (false = true) by decide)] at H; exact H
          clear H
          have H := H1
          clear H1
          replace H := Option.bind_eq_some_iff.mp H
          obtain ⟨⟨t433, t434⟩, A150, H⟩ := H
          replace H : (if t434 = 0 then ((fixq_Lerp.f kj8 a0 a1 0 a3).bind fun bt435 => ((fixq_Lerp.f kj8 a0 a1 4294967296 a3).bind fun bt437 => (if bt435.1 = a0 then (some (bt437.1 == a1)) else (some false)))) else (some true)) = some r := H
          have A15 := Aside0.mk A150
          clear A150
          by_cases c16 : t434 = 0
          · rw [if_pos c16] at H
            have c16b0 : (t434 == 0) = true := beq_iff_eq.mpr c16
            have c16b1 : (t434 != 0) = false := bne_eq_false_iff_eq.mpr c16
            clear c16
            replace H := Option.bind_eq_some_iff.mp H
            obtain ⟨⟨t435, t436⟩, A170, H⟩ := H
            replace H : ((fixq_Lerp.f kj8 a0 a1 4294967296 a3).bind fun bt437 => (if t435 = a0 then (some (bt437.1 == a1)) else (some false))) = some r := H
            have A17 := Aside0.mk A170
            clear A170
            replace H := Option.bind_eq_some_iff.mp H
            obtain ⟨⟨t437, t438⟩, A180, H⟩ := H
            replace H : (if t435 = a0 then (some (t437 == a1)) else (some false)) = some r := H
            have A18 := Aside0.mk A180
            clear A180
            by_cases c19 : t435 = a0
            · rw [if_pos c19] at H
              have c19b0 : (t435 == a0) = true := beq_iff_eq.mpr c19
              have c19b1 : (t435 != a0) = false := bne_eq_false_iff_eq.mpr c19
              clear c19
              obtain rfl := Option.some.inj H
              go_wp2_with (first | ((with_reducible refine gate_callee (f := 23) rfl ?_); refine goesL_ (some 48) rfl rfl Try.func23 (by kernel_rfl) rfl #[.int .i64 a1, .int .i64 a0] rfl (by (try simp only [List.map_toArray, List.map_cons, List.map_nil]); first | done | rfl | (simp only [List.length_drop, List.length_take]; rfl)) ?_; (with_reducible refine (astrolaberef01_Diff.calls kj8 a1 a0 t433 t434 _ A15.out).mono ?_); rintro e w20 ⟨rfl, hb⟩; refine ⟨_, rfl, ?_⟩; have n0_ := Aside0.mk (below_step (by repeat (first | (with_reducible first | exact HB.out | apply below_alloc | apply pw_below_drewN | apply below_drew1) | exact HB.out)) hb); clear HB; have HB := n0_; clear n0_; (try clear hb); (try clear hb2); (try clear hk); (try clear hi)) | ((with_reducible refine gate_callee (f := 28) rfl ?_); refine goesL_ (some 57) rfl rfl Try.func28 (by kernel_rfl) rfl #[.int .i64 a0, .int .i64 a1, .int .i64 0, .int .i64 a3] rfl (by (try simp only [List.map_toArray, List.map_cons, List.map_nil]); first | done | rfl | (simp only [List.length_drop, List.length_take]; rfl)) ?_; (with_reducible refine (fixq_Lerp.calls kj8 a0 a1 0 a3 t435 t436 _ A17.out).mono ?_); rintro e w21 ⟨rfl, hb⟩; refine ⟨_, rfl, ?_⟩; have n0_ := Aside0.mk (below_step (by repeat (first | (with_reducible first | exact HB.out | apply below_alloc | apply pw_below_drewN | apply below_drew1) | exact HB.out)) hb); clear HB; have HB := n0_; clear n0_; (try clear hb); (try clear hb2); (try clear hk); (try clear hi)) | ((with_reducible refine gate_callee (f := 28) rfl ?_); refine goesL_ (some 64) rfl rfl Try.func28 (by kernel_rfl) rfl #[.int .i64 a0, .int .i64 a1, .int .i64 4294967296, .int .i64 a3] rfl (by (try simp only [List.map_toArray, List.map_cons, List.map_nil]); first | done | rfl | (simp only [List.length_drop, List.length_take]; rfl)) ?_; (with_reducible refine (fixq_Lerp.calls kj8 a0 a1 4294967296 a3 t437 t438 _ A18.out).mono ?_); rintro e w22 ⟨rfl, hb⟩; refine ⟨_, rfl, ?_⟩; have n0_ := Aside0.mk (below_step (by repeat (first | (with_reducible first | exact HB.out | apply below_alloc | apply pw_below_drewN | apply below_drew1) | exact HB.out)) hb); clear HB; have HB := n0_; clear n0_; (try clear hb); (try clear hb2); (try clear hk); (try clear hi)))
              go_ret
              exact ⟨by first | rfl | (simp [errW_none, errW_some] <;> rfl) | (simp [*, errW_none, errW_some] <;> rfl), by repeat (first | (with_reducible first | exact HB.out | apply below_alloc | apply pw_below_drewN | apply below_drew1) | exact HB.out)⟩
            · rw [if_neg c19] at H
              have c19b0 : (t435 == a0) = false := beq_eq_false_iff_ne.mpr c19
              have c19b1 : (t435 != a0) = true := bne_iff_ne.mpr c19
              obtain rfl := Option.some.inj H
              go_wp2_with (first | ((with_reducible refine gate_callee (f := 23) rfl ?_); refine goesL_ (some 48) rfl rfl Try.func23 (by kernel_rfl) rfl #[.int .i64 a1, .int .i64 a0] rfl (by (try simp only [List.map_toArray, List.map_cons, List.map_nil]); first | done | rfl | (simp only [List.length_drop, List.length_take]; rfl)) ?_; (with_reducible refine (astrolaberef01_Diff.calls kj8 a1 a0 t433 t434 _ A15.out).mono ?_); rintro e w23 ⟨rfl, hb⟩; refine ⟨_, rfl, ?_⟩; have n0_ := Aside0.mk (below_step (by repeat (first | (with_reducible first | exact HB.out | apply below_alloc | apply pw_below_drewN | apply below_drew1) | exact HB.out)) hb); clear HB; have HB := n0_; clear n0_; (try clear hb); (try clear hb2); (try clear hk); (try clear hi)) | ((with_reducible refine gate_callee (f := 28) rfl ?_); refine goesL_ (some 57) rfl rfl Try.func28 (by kernel_rfl) rfl #[.int .i64 a0, .int .i64 a1, .int .i64 0, .int .i64 a3] rfl (by (try simp only [List.map_toArray, List.map_cons, List.map_nil]); first | done | rfl | (simp only [List.length_drop, List.length_take]; rfl)) ?_; (with_reducible refine (fixq_Lerp.calls kj8 a0 a1 0 a3 t435 t436 _ A17.out).mono ?_); rintro e w24 ⟨rfl, hb⟩; refine ⟨_, rfl, ?_⟩; have n0_ := Aside0.mk (below_step (by repeat (first | (with_reducible first | exact HB.out | apply below_alloc | apply pw_below_drewN | apply below_drew1) | exact HB.out)) hb); clear HB; have HB := n0_; clear n0_; (try clear hb); (try clear hb2); (try clear hk); (try clear hi)) | ((with_reducible refine gate_callee (f := 28) rfl ?_); refine goesL_ (some 64) rfl rfl Try.func28 (by kernel_rfl) rfl #[.int .i64 a0, .int .i64 a1, .int .i64 4294967296, .int .i64 a3] rfl (by (try simp only [List.map_toArray, List.map_cons, List.map_nil]); first | done | rfl | (simp only [List.length_drop, List.length_take]; rfl)) ?_; (with_reducible refine (fixq_Lerp.calls kj8 a0 a1 4294967296 a3 t437 t438 _ A18.out).mono ?_); rintro e w25 ⟨rfl, hb⟩; refine ⟨_, rfl, ?_⟩; have n0_ := Aside0.mk (below_step (by repeat (first | (with_reducible first | exact HB.out | apply below_alloc | apply pw_below_drewN | apply below_drew1) | exact HB.out)) hb); clear HB; have HB := n0_; clear n0_; (try clear hb); (try clear hb2); (try clear hk); (try clear hi)))
              go_ret
              exact ⟨by first | rfl | (simp [errW_none, errW_some] <;> rfl) | (simp [*, errW_none, errW_some] <;> rfl), by repeat (first | (with_reducible first | exact HB.out | apply below_alloc | apply pw_below_drewN | apply below_drew1) | exact HB.out)⟩
          · rw [if_neg c16] at H
            have c16b0 : (t434 == 0) = false := beq_eq_false_iff_ne.mpr c16
            have c16b1 : (t434 != 0) = true := bne_iff_ne.mpr c16
            obtain rfl := Option.some.inj H
            go_wp2_with (first | ((with_reducible refine gate_callee (f := 23) rfl ?_); refine goesL_ (some 48) rfl rfl Try.func23 (by kernel_rfl) rfl #[.int .i64 a1, .int .i64 a0] rfl (by (try simp only [List.map_toArray, List.map_cons, List.map_nil]); first | done | rfl | (simp only [List.length_drop, List.length_take]; rfl)) ?_; (with_reducible refine (astrolaberef01_Diff.calls kj8 a1 a0 t433 t434 _ A15.out).mono ?_); rintro e w26 ⟨rfl, hb⟩; refine ⟨_, rfl, ?_⟩; have n0_ := Aside0.mk (below_step (by repeat (first | (with_reducible first | exact HB.out | apply below_alloc | apply pw_below_drewN | apply below_drew1) | exact HB.out)) hb); clear HB; have HB := n0_; clear n0_; (try clear hb); (try clear hb2); (try clear hk); (try clear hi)))
            go_ret
            exact ⟨by first | rfl | (simp [errW_none, errW_some] <;> rfl) | (simp [*, errW_none, errW_some] <;> rfl), by repeat (first | (with_reducible first | exact HB.out | apply below_alloc | apply pw_below_drewN | apply below_drew1) | exact HB.out)⟩
  · replace c6 := Bool.eq_false_iff.mpr c6
    subst c6
    have H1 : (some false) = some r := by rw [if_neg (show ¬ (false = true) by decide)] at H; exact H
    clear H
    have H := H1
    clear H1
    obtain rfl := Option.some.inj H
    go_enter Try.func8, Try.ntmps8
    go_wp2_with (first | ((with_reducible refine gate_callee (f := 10) rfl ?_); refine goesL_ (some 19) rfl rfl Try.func10 (by kernel_rfl) rfl #[] rfl (by (try simp only [List.map_toArray, List.map_cons, List.map_nil]); first | done | rfl | (simp only [List.length_drop, List.length_take]; rfl)) ?_; (with_reducible refine (astrolabelaw01_alive.calls k  false _ A5.out).mono ?_); rintro e w27 ⟨rfl, hb⟩; refine ⟨_, rfl, ?_⟩; have n0_ := Aside0.mk (below_step (by repeat (first | (with_reducible first | exact HB.out | apply below_alloc | apply pw_below_drewN | apply below_drew1) | exact HB.out)) hb); clear HB; have HB := n0_; clear n0_; (try clear hb); (try clear hb2); (try clear hk); (try clear hi)))
    go_ret
    exact ⟨by first | rfl | (simp [errW_none, errW_some] <;> rfl) | (simp [*, errW_none, errW_some] <;> rfl), by repeat (first | (with_reducible first | exact HB.out | apply below_alloc | apply pw_below_drewN | apply below_drew1) | exact HB.out)⟩

/-- THE ONE PURE STATEMENT of astrolabelaw01_FixqLerps: yours. -/
def astrolabelaw01_FixqLerps.Pure : Prop := ∀ (a0 : Int) (a1 : Int) (a2 : Int) (a3 : Int), (Lit.int .i64 a0).wf = true → (Lit.int .i64 a1).wf = true → (Lit.int .i64 a2).wf = true → (Lit.int .i64 a3).wf = true → ∃ k, astrolabelaw01_FixqLerps.f k a0 a1 a2 a3 = some true
theorem astrolabelaw01_FixqLerps.walk (P : astrolabelaw01_FixqLerps.Pure) (a0 : Int) (a1 : Int) (a2 : Int) (a3 : Int) (w : World) (w0 : (Lit.int .i64 a0).wf = true) (w1 : (Lit.int .i64 a1).wf = true) (w2 : (Lit.int .i64 a2).wf = true) (w3 : (Lit.int .i64 a3).wf = true) :
    Calls Try.prog 8 #[.int .i64 a0, .int .i64 a1, .int .i64 a2, .int .i64 a3] w fun e w' => e = .returned (.bool true) ∧ Below w.heap.size w w' := by
  obtain ⟨k, h⟩ := P a0 a1 a2 a3 w0 w1 w2 w3
  refine (astrolabelaw01_FixqLerps.calls k a0 a1 a2 a3 true w h).mono ?_
  rintro e w' ⟨rfl, hd⟩
  exact ⟨rfl, hd⟩

/-! ### astrolabelaw01_FixqBetween: function 9 -/
def astrolabelaw01_FixqBetween.j0 : Nat → Int → Int → Int → Int → Bool → Option (Bool)
  | 0, _, _, _, _, _ => none
  | k + 1, x0, x1, x11, x13, x49 => if x49 = true then (some false) else (if x0 ≤ x1 then (if x0 ≤ x11 then (if x11 ≤ x13 then (some (decide (x13 ≤ x1))) else (some false)) else (some false)) else (if x0 ≥ x11 then (if x11 ≥ x13 then (some (decide (x13 ≥ x1))) else (some false)) else (some false)))
def astrolabelaw01_FixqBetween.f (k : Nat) (a0 : Int) (a1 : Int) (a2 : Int) (a3 : Int) : Option (Bool) := (astrolabelaw01_alive.f k).bind fun t439 => (if t439 = true then ((astrolaberef01_Diff.f k a1 a0).bind fun bt440 => (if bt440.2 = 0 then ((fixq_Lerp.f k a0 a1 (wrap64 (a2)) 8).bind fun bt442 => ((fixq_Lerp.f k a0 a1 (wrap64 ((wrap64 (a2)) + (wrap64 (a3)))) 8).bind fun bt444 => (if bt442.2 = 0 then (astrolabelaw01_FixqBetween.j0 k a0 a1 bt442.1 bt444.1 (bt444.2 != 0)) else (astrolabelaw01_FixqBetween.j0 k a0 a1 bt442.1 bt444.1 true)))) else (some true))) else (some false))
theorem astrolabelaw01_FixqBetween.mono_l : ∀ k, (∀ y0 y1 y2 y3 y4, LeO (astrolabelaw01_FixqBetween.j0 k y0 y1 y2 y3 y4) (astrolabelaw01_FixqBetween.j0 (k + 1) y0 y1 y2 y3 y4))
  | 0 => fun _ _ _ _ _ r h => by simp [astrolabelaw01_FixqBetween.j0] at h
  | k + 1 => by
    have ih0 := astrolabelaw01_FixqBetween.mono_l k
    · intro y0 y1 y2 y3 y4
      unfold astrolabelaw01_FixqBetween.j0
      repeat' first
      | (with_reducible exact ih0 _ _ _ _ _)
      | (with_reducible exact astrolabelaw01_alive.mono _)
      | (with_reducible exact astrolaberef01_Diff.mono _ _ _)
      | (with_reducible exact fixq_Lerp.mono _ _ _ _ _)
      | (with_reducible exact LeO.refl _)
      | (with_reducible exact LeO.none _)
      | (with_reducible refine LeO.ite ?_ ?_)
      | (with_reducible refine LeO.bind ?_ (fun _ => ?_))
      | exact ih0 _ _ _ _ _
      | exact astrolabelaw01_alive.mono _
      | exact astrolaberef01_Diff.mono _ _ _
      | exact fixq_Lerp.mono _ _ _ _ _
      | exact LeO.none _
      | refine LeO.ite ?_ ?_
      | refine LeO.bind ?_ (fun _ => ?_)
theorem astrolabelaw01_FixqBetween.mono : ∀ a0 a1 a2 a3 k, LeO (astrolabelaw01_FixqBetween.f k a0 a1 a2 a3) (astrolabelaw01_FixqBetween.f (k + 1) a0 a1 a2 a3) := by
  intro a0 a1 a2 a3 k
  have ih0 := astrolabelaw01_FixqBetween.mono_l k
  unfold astrolabelaw01_FixqBetween.f
  repeat' first
      | (with_reducible exact ih0 _ _ _ _ _)
      | (with_reducible exact astrolabelaw01_alive.mono _)
      | (with_reducible exact astrolaberef01_Diff.mono _ _ _)
      | (with_reducible exact fixq_Lerp.mono _ _ _ _ _)
      | (with_reducible exact LeO.refl _)
      | (with_reducible exact LeO.none _)
      | (with_reducible refine LeO.ite ?_ ?_)
      | (with_reducible refine LeO.bind ?_ (fun _ => ?_))
      | exact ih0 _ _ _ _ _
      | exact astrolabelaw01_alive.mono _
      | exact astrolaberef01_Diff.mono _ _ _
      | exact fixq_Lerp.mono _ _ _ _ _
      | exact LeO.none _
      | refine LeO.ite ?_ ?_
      | refine LeO.bind ?_ (fun _ => ?_)
set_option maxHeartbeats 8000000 in
set_option maxRecDepth 100000 in
theorem astrolabelaw01_FixqBetween.calls (k : Nat) (a0 : Int) (a1 : Int) (a2 : Int) (a3 : Int) (r : Bool) (w : World) (h : astrolabelaw01_FixqBetween.f k a0 a1 a2 a3 = some r) :
    Calls Try.prog 9 #[.int .i64 a0, .int .i64 a1, .int .u8 a2, .int .u8 a3] w fun e w' => e = .returned (.bool r) ∧ Below w.heap.size w w' := by
  have HB := Aside0.mk (Below.refl w.heap.size w)
  have H : ((astrolabelaw01_alive.f k).bind fun t439 => (if t439 = true then ((astrolaberef01_Diff.f k a1 a0).bind fun bt440 => (if bt440.2 = 0 then ((fixq_Lerp.f k a0 a1 (wrap64 (a2)) 8).bind fun bt442 => ((fixq_Lerp.f k a0 a1 (wrap64 ((wrap64 (a2)) + (wrap64 (a3)))) 8).bind fun bt444 => (if bt442.2 = 0 then (astrolabelaw01_FixqBetween.j0 k a0 a1 bt442.1 bt444.1 (bt444.2 != 0)) else (astrolabelaw01_FixqBetween.j0 k a0 a1 bt442.1 bt444.1 true)))) else (some true))) else (some false))) = some r := h
  clear h
  replace H := Option.bind_eq_some_iff.mp H
  obtain ⟨t439, A50, H⟩ := H
  replace H : (if t439 = true then ((astrolaberef01_Diff.f k a1 a0).bind fun bt440 => (if bt440.2 = 0 then ((fixq_Lerp.f k a0 a1 (wrap64 (a2)) 8).bind fun bt442 => ((fixq_Lerp.f k a0 a1 (wrap64 ((wrap64 (a2)) + (wrap64 (a3)))) 8).bind fun bt444 => (if bt442.2 = 0 then (astrolabelaw01_FixqBetween.j0 k a0 a1 bt442.1 bt444.1 (bt444.2 != 0)) else (astrolabelaw01_FixqBetween.j0 k a0 a1 bt442.1 bt444.1 true)))) else (some true))) else (some false)) = some r := H
  have A5 := Aside0.mk A50
  clear A50
  by_cases c6 : t439 = true
  · subst c6
    have H1 : ((astrolaberef01_Diff.f k a1 a0).bind fun bt440 => (if bt440.2 = 0 then ((fixq_Lerp.f k a0 a1 (wrap64 (a2)) 8).bind fun bt442 => ((fixq_Lerp.f k a0 a1 (wrap64 ((wrap64 (a2)) + (wrap64 (a3)))) 8).bind fun bt444 => (if bt442.2 = 0 then (astrolabelaw01_FixqBetween.j0 k a0 a1 bt442.1 bt444.1 (bt444.2 != 0)) else (astrolabelaw01_FixqBetween.j0 k a0 a1 bt442.1 bt444.1 true)))) else (some true))) = some r := by rw [if_pos rfl] at H; exact H
    clear H
    have H := H1
    clear H1
    replace H := Option.bind_eq_some_iff.mp H
    obtain ⟨⟨t440, t441⟩, A70, H⟩ := H
    replace H : (if t441 = 0 then ((fixq_Lerp.f k a0 a1 (wrap64 (a2)) 8).bind fun bt442 => ((fixq_Lerp.f k a0 a1 (wrap64 ((wrap64 (a2)) + (wrap64 (a3)))) 8).bind fun bt444 => (if bt442.2 = 0 then (astrolabelaw01_FixqBetween.j0 k a0 a1 bt442.1 bt444.1 (bt444.2 != 0)) else (astrolabelaw01_FixqBetween.j0 k a0 a1 bt442.1 bt444.1 true)))) else (some true)) = some r := H
    have A7 := Aside0.mk A70
    clear A70
    by_cases c8 : t441 = 0
    · rw [if_pos c8] at H
      have c8b0 : (t441 == 0) = true := beq_iff_eq.mpr c8
      have c8b1 : (t441 != 0) = false := bne_eq_false_iff_eq.mpr c8
      clear c8
      replace H := Option.bind_eq_some_iff.mp H
      obtain ⟨⟨t442, t443⟩, A90, H⟩ := H
      replace H : ((fixq_Lerp.f k a0 a1 (wrap64 ((wrap64 (a2)) + (wrap64 (a3)))) 8).bind fun bt444 => (if t443 = 0 then (astrolabelaw01_FixqBetween.j0 k a0 a1 t442 bt444.1 (bt444.2 != 0)) else (astrolabelaw01_FixqBetween.j0 k a0 a1 t442 bt444.1 true))) = some r := H
      have A9 := Aside0.mk A90
      clear A90
      replace H := Option.bind_eq_some_iff.mp H
      obtain ⟨⟨t444, t445⟩, A100, H⟩ := H
      replace H : (if t443 = 0 then (astrolabelaw01_FixqBetween.j0 k a0 a1 t442 t444 (t445 != 0)) else (astrolabelaw01_FixqBetween.j0 k a0 a1 t442 t444 true)) = some r := H
      have A10 := Aside0.mk A100
      clear A100
      have HC11 := Aside0.mk H
      clear H
      go_enter Try.func9, Try.ntmps9
      go_upto_region 8 with (first | ((with_reducible refine gate_callee (f := 10) rfl ?_); refine goesL_ (some 15) rfl rfl Try.func10 (by kernel_rfl) rfl #[] rfl (by (try simp only [List.map_toArray, List.map_cons, List.map_nil]); first | done | rfl | (simp only [List.length_drop, List.length_take]; rfl)) ?_; (with_reducible refine (astrolabelaw01_alive.calls k  true _ A5.out).mono ?_); rintro e w12 ⟨rfl, hb⟩; refine ⟨_, rfl, ?_⟩; have n0_ := Aside0.mk (below_step (by repeat (first | (with_reducible first | exact HB.out | apply below_alloc | apply pw_below_drewN | apply below_drew1) | exact HB.out)) hb); clear HB; have HB := n0_; clear n0_; (try clear hb); (try clear hb2); (try clear hk); (try clear hi)) | ((with_reducible refine gate_callee (f := 23) rfl ?_); refine goesL_ (some 20) rfl rfl Try.func23 (by kernel_rfl) rfl #[.int .i64 a1, .int .i64 a0] rfl (by (try simp only [List.map_toArray, List.map_cons, List.map_nil]); first | done | rfl | (simp only [List.length_drop, List.length_take]; rfl)) ?_; (with_reducible refine (astrolaberef01_Diff.calls k a1 a0 t440 t441 _ A7.out).mono ?_); rintro e w13 ⟨rfl, hb⟩; refine ⟨_, rfl, ?_⟩; have n0_ := Aside0.mk (below_step (by repeat (first | (with_reducible first | exact HB.out | apply below_alloc | apply pw_below_drewN | apply below_drew1) | exact HB.out)) hb); clear HB; have HB := n0_; clear n0_; (try clear hb); (try clear hb2); (try clear hk); (try clear hi)) | ((with_reducible refine gate_callee (f := 28) rfl ?_); refine goesL_ (some 30) rfl rfl Try.func28 (by kernel_rfl) rfl #[.int .i64 a0, .int .i64 a1, .int .i64 (wrap64 (a2)), .int .i64 8] rfl (by (try simp only [List.map_toArray, List.map_cons, List.map_nil]); first | done | rfl | (simp only [List.length_drop, List.length_take]; rfl)) ?_; (with_reducible refine (fixq_Lerp.calls k a0 a1 (wrap64 (a2)) 8 t442 t443 _ A9.out).mono ?_); rintro e w14 ⟨rfl, hb⟩; refine ⟨_, rfl, ?_⟩; have n0_ := Aside0.mk (below_step (by repeat (first | (with_reducible first | exact HB.out | apply below_alloc | apply pw_below_drewN | apply below_drew1) | exact HB.out)) hb); clear HB; have HB := n0_; clear n0_; (try clear hb); (try clear hb2); (try clear hk); (try clear hi)) | ((with_reducible refine gate_callee (f := 28) rfl ?_); refine goesL_ (some 41) rfl rfl Try.func28 (by kernel_rfl) rfl #[.int .i64 a0, .int .i64 a1, .int .i64 (wrap64 ((wrap64 (a2)) + (wrap64 (a3)))), .int .i64 8] rfl (by (try simp only [List.map_toArray, List.map_cons, List.map_nil]); first | done | rfl | (simp only [List.length_drop, List.length_take]; rfl)) ?_; (with_reducible refine (fixq_Lerp.calls k a0 a1 (wrap64 ((wrap64 (a2)) + (wrap64 (a3)))) 8 t444 t445 _ A10.out).mono ?_); rintro e w15 ⟨rfl, hb⟩; refine ⟨_, rfl, ?_⟩; have n0_ := Aside0.mk (below_step (by repeat (first | (with_reducible first | exact HB.out | apply below_alloc | apply pw_below_drewN | apply below_drew1) | exact HB.out)) hb); clear HB; have HB := n0_; clear n0_; (try clear hb); (try clear hb2); (try clear hk); (try clear hi)))
      (try simp only [Act.put, List.setIfInBounds_toArray, List.set_cons_zero, List.set_cons_succ])
      go_cut [49] (fun v49 wc => ∃ (kq : Nat) (x49_10 : Bool), v49 = .bool x49_10 ∧ Aside0 (astrolabelaw01_FixqBetween.j0 kq a0 a1 t442 t444 x49_10 = some r) ∧ Aside0 (kq ≤ k) ∧ Aside0 (Below w.heap.size w wc))
      case first =>
        have H := HC11.out
        clear HC11
        by_cases c16 : t443 = 0
        · rw [if_pos c16] at H
          have c16b0 : (t443 == 0) = true := beq_iff_eq.mpr c16
          have c16b1 : (t443 != 0) = false := bne_eq_false_iff_eq.mpr c16
          clear c16
          (first | rw [c16b0] | (simp only [i64_w, i32_w]; rw [c16b0]) | skip)
          have H' := Aside0.mk H
          clear H
          go_wp2
          go_meet
          case rel => exact ⟨_, ((t445 != 0)), (by first | rfl | (simp; done) | (simp [*]; done)), H', ⟨by first | omega | exact Nat.le_refl _⟩, ⟨by repeat (first | (with_reducible first | exact HB.out | apply below_alloc | apply pw_below_drewN | apply below_drew1) | exact HB.out)⟩⟩
        · rw [if_neg c16] at H
          have c16b0 : (t443 == 0) = false := beq_eq_false_iff_ne.mpr c16
          have c16b1 : (t443 != 0) = true := bne_iff_ne.mpr c16
          (first | rw [c16b0] | (simp only [i64_w, i32_w]; rw [c16b0]) | skip)
          have H' := Aside0.mk H
          clear H
          go_wp2
          go_meet
          case rel => exact ⟨_, (true), (by first | rfl | (simp; done) | (simp [*]; done)), H', ⟨by first | omega | exact Nat.le_refl _⟩, ⟨by repeat (first | (with_reducible first | exact HB.out | apply below_alloc | apply pw_below_drewN | apply below_drew1) | exact HB.out)⟩⟩
      case rest =>
        clear HC11
        try clear c1
        try clear c2
        try clear p2
        try clear c6
        try clear p6
        try clear c8
        try clear c8b0
        try clear c8b1
        try clear c9
        try clear c10
        try clear c16
        try clear c16b0
        try clear c16b1
        obtain ⟨kq, x49_10, rfl, HA, HJ10, HB⟩ := hcut
        cases kq with
        | zero => exact absurd HA.out (by simp [astrolabelaw01_FixqBetween.j0])
        | succ kj10 =>
          have H := HA.out
          clear HA
          simp only [astrolabelaw01_FixqBetween.j0] at H
          by_cases c17 : x49_10 = true
          · subst c17
            have H1 : (some false) = some r := by rw [if_pos rfl] at H; exact H
            clear H
            have H := H1
            clear H1
            obtain rfl := Option.some.inj H
            go_wp2
            go_ret
            exact ⟨by first | rfl | (simp [errW_none, errW_some] <;> rfl) | (simp [*, errW_none, errW_some] <;> rfl), by repeat (first | (with_reducible first | exact HB.out | apply below_alloc | apply pw_below_drewN | apply below_drew1) | exact HB.out)⟩
          · replace c17 := Bool.eq_false_iff.mpr c17
            subst c17
            have H1 : (if a0 ≤ a1 then (if a0 ≤ t442 then (if t442 ≤ t444 then (some (decide (t444 ≤ a1))) else (some false)) else (some false)) else (if a0 ≥ t442 then (if t442 ≥ t444 then (some (decide (t444 ≥ a1))) else (some false)) else (some false))) = some r := by rw [if_neg (show ¬ (false = true) by decide)] at H; exact H
            clear H
            have H := H1
            clear H1
            by_cases c18 : a0 ≤ a1
            · rw [if_pos c18] at H
              have c18b0 : decide (a0 ≤ a1) = true := decide_eq_true c18
              clear c18
              by_cases c19 : a0 ≤ t442
              · rw [if_pos c19] at H
                have c19b0 : decide (a0 ≤ t442) = true := decide_eq_true c19
                clear c19
                by_cases c20 : t442 ≤ t444
                · rw [if_pos c20] at H
                  have c20b0 : decide (t442 ≤ t444) = true := decide_eq_true c20
                  clear c20
                  obtain rfl := Option.some.inj H
                  go_wp2
                  go_ret
                  exact ⟨by first | rfl | (simp [errW_none, errW_some] <;> rfl) | (simp [*, errW_none, errW_some] <;> rfl), by repeat (first | (with_reducible first | exact HB.out | apply below_alloc | apply pw_below_drewN | apply below_drew1) | exact HB.out)⟩
                · rw [if_neg c20] at H
                  have c20b0 : decide (t442 ≤ t444) = false := decide_eq_false c20
                  clear c20
                  obtain rfl := Option.some.inj H
                  go_wp2
                  go_ret
                  exact ⟨by first | rfl | (simp [errW_none, errW_some] <;> rfl) | (simp [*, errW_none, errW_some] <;> rfl), by repeat (first | (with_reducible first | exact HB.out | apply below_alloc | apply pw_below_drewN | apply below_drew1) | exact HB.out)⟩
              · rw [if_neg c19] at H
                have c19b0 : decide (a0 ≤ t442) = false := decide_eq_false c19
                clear c19
                obtain rfl := Option.some.inj H
                go_wp2
                go_ret
                exact ⟨by first | rfl | (simp [errW_none, errW_some] <;> rfl) | (simp [*, errW_none, errW_some] <;> rfl), by repeat (first | (with_reducible first | exact HB.out | apply below_alloc | apply pw_below_drewN | apply below_drew1) | exact HB.out)⟩
            · rw [if_neg c18] at H
              have c18b0 : decide (a0 ≤ a1) = false := decide_eq_false c18
              clear c18
              by_cases c21 : a0 ≥ t442
              · rw [if_pos c21] at H
                have c21b0 : decide (t442 ≤ a0) = true := decide_eq_true c21
                clear c21
                by_cases c22 : t442 ≥ t444
                · rw [if_pos c22] at H
                  have c22b0 : decide (t444 ≤ t442) = true := decide_eq_true c22
                  clear c22
                  obtain rfl := Option.some.inj H
                  go_wp2
                  go_ret
                  exact ⟨by first | rfl | (simp [errW_none, errW_some] <;> rfl) | (simp [*, errW_none, errW_some] <;> rfl), by repeat (first | (with_reducible first | exact HB.out | apply below_alloc | apply pw_below_drewN | apply below_drew1) | exact HB.out)⟩
                · rw [if_neg c22] at H
                  have c22b0 : decide (t444 ≤ t442) = false := decide_eq_false c22
                  clear c22
                  obtain rfl := Option.some.inj H
                  go_wp2
                  go_ret
                  exact ⟨by first | rfl | (simp [errW_none, errW_some] <;> rfl) | (simp [*, errW_none, errW_some] <;> rfl), by repeat (first | (with_reducible first | exact HB.out | apply below_alloc | apply pw_below_drewN | apply below_drew1) | exact HB.out)⟩
              · rw [if_neg c21] at H
                have c21b0 : decide (t442 ≤ a0) = false := decide_eq_false c21
                clear c21
                obtain rfl := Option.some.inj H
                go_wp2
                go_ret
                exact ⟨by first | rfl | (simp [errW_none, errW_some] <;> rfl) | (simp [*, errW_none, errW_some] <;> rfl), by repeat (first | (with_reducible first | exact HB.out | apply below_alloc | apply pw_below_drewN | apply below_drew1) | exact HB.out)⟩
    · rw [if_neg c8] at H
      have c8b0 : (t441 == 0) = false := beq_eq_false_iff_ne.mpr c8
      have c8b1 : (t441 != 0) = true := bne_iff_ne.mpr c8
      obtain rfl := Option.some.inj H
      go_enter Try.func9, Try.ntmps9
      go_wp2_with (first | ((with_reducible refine gate_callee (f := 10) rfl ?_); refine goesL_ (some 15) rfl rfl Try.func10 (by kernel_rfl) rfl #[] rfl (by (try simp only [List.map_toArray, List.map_cons, List.map_nil]); first | done | rfl | (simp only [List.length_drop, List.length_take]; rfl)) ?_; (with_reducible refine (astrolabelaw01_alive.calls k  true _ A5.out).mono ?_); rintro e w23 ⟨rfl, hb⟩; refine ⟨_, rfl, ?_⟩; have n0_ := Aside0.mk (below_step (by repeat (first | (with_reducible first | exact HB.out | apply below_alloc | apply pw_below_drewN | apply below_drew1) | exact HB.out)) hb); clear HB; have HB := n0_; clear n0_; (try clear hb); (try clear hb2); (try clear hk); (try clear hi)) | ((with_reducible refine gate_callee (f := 23) rfl ?_); refine goesL_ (some 20) rfl rfl Try.func23 (by kernel_rfl) rfl #[.int .i64 a1, .int .i64 a0] rfl (by (try simp only [List.map_toArray, List.map_cons, List.map_nil]); first | done | rfl | (simp only [List.length_drop, List.length_take]; rfl)) ?_; (with_reducible refine (astrolaberef01_Diff.calls k a1 a0 t440 t441 _ A7.out).mono ?_); rintro e w24 ⟨rfl, hb⟩; refine ⟨_, rfl, ?_⟩; have n0_ := Aside0.mk (below_step (by repeat (first | (with_reducible first | exact HB.out | apply below_alloc | apply pw_below_drewN | apply below_drew1) | exact HB.out)) hb); clear HB; have HB := n0_; clear n0_; (try clear hb); (try clear hb2); (try clear hk); (try clear hi)))
      go_ret
      exact ⟨by first | rfl | (simp [errW_none, errW_some] <;> rfl) | (simp [*, errW_none, errW_some] <;> rfl), by repeat (first | (with_reducible first | exact HB.out | apply below_alloc | apply pw_below_drewN | apply below_drew1) | exact HB.out)⟩
  · replace c6 := Bool.eq_false_iff.mpr c6
    subst c6
    have H1 : (some false) = some r := by rw [if_neg (show ¬ (false = true) by decide)] at H; exact H
    clear H
    have H := H1
    clear H1
    obtain rfl := Option.some.inj H
    go_enter Try.func9, Try.ntmps9
    go_wp2_with (first | ((with_reducible refine gate_callee (f := 10) rfl ?_); refine goesL_ (some 15) rfl rfl Try.func10 (by kernel_rfl) rfl #[] rfl (by (try simp only [List.map_toArray, List.map_cons, List.map_nil]); first | done | rfl | (simp only [List.length_drop, List.length_take]; rfl)) ?_; (with_reducible refine (astrolabelaw01_alive.calls k  false _ A5.out).mono ?_); rintro e w25 ⟨rfl, hb⟩; refine ⟨_, rfl, ?_⟩; have n0_ := Aside0.mk (below_step (by repeat (first | (with_reducible first | exact HB.out | apply below_alloc | apply pw_below_drewN | apply below_drew1) | exact HB.out)) hb); clear HB; have HB := n0_; clear n0_; (try clear hb); (try clear hb2); (try clear hk); (try clear hi)))
    go_ret
    exact ⟨by first | rfl | (simp [errW_none, errW_some] <;> rfl) | (simp [*, errW_none, errW_some] <;> rfl), by repeat (first | (with_reducible first | exact HB.out | apply below_alloc | apply pw_below_drewN | apply below_drew1) | exact HB.out)⟩

/-- THE ONE PURE STATEMENT of astrolabelaw01_FixqBetween: yours. -/
def astrolabelaw01_FixqBetween.Pure : Prop := ∀ (a0 : Int) (a1 : Int) (a2 : Int) (a3 : Int), (Lit.int .i64 a0).wf = true → (Lit.int .i64 a1).wf = true → (Lit.int .u8 a2).wf = true → (Lit.int .u8 a3).wf = true → ∃ k, astrolabelaw01_FixqBetween.f k a0 a1 a2 a3 = some true
theorem astrolabelaw01_FixqBetween.walk (P : astrolabelaw01_FixqBetween.Pure) (a0 : Int) (a1 : Int) (a2 : Int) (a3 : Int) (w : World) (w0 : (Lit.int .i64 a0).wf = true) (w1 : (Lit.int .i64 a1).wf = true) (w2 : (Lit.int .u8 a2).wf = true) (w3 : (Lit.int .u8 a3).wf = true) :
    Calls Try.prog 9 #[.int .i64 a0, .int .i64 a1, .int .u8 a2, .int .u8 a3] w fun e w' => e = .returned (.bool true) ∧ Below w.heap.size w w' := by
  obtain ⟨k, h⟩ := P a0 a1 a2 a3 w0 w1 w2 w3
  refine (astrolabelaw01_FixqBetween.calls k a0 a1 a2 a3 true w h).mono ?_
  rintro e w' ⟨rfl, hd⟩
  exact ⟨rfl, hd⟩

end Go.Proofs.Ythgnpmchhikchaa.Q
