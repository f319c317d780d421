-- written by myprint.py (wip/tools) out of the translation
import Derived.Test.YtccolpkjgjjipaaK0
import Derived.Test.YtccolpkjgjjipaaK4
namespace Go.Proofs.Ytccolpkjgjjipaa.K
open Go.RowKit Go.Proofs.YtccolpkjgjjipaaW.PrintWords Go.Proofs.YtccolpkjgjjipaaW.PrintLast Go.Proofs.YtccolpkjgjjipaaW.PrintMore
attribute [local go_sem] max2_int min2_int max_two min_two max_three min_three max_four min_four   -- for this text's walks alone
set_option linter.unusedVariables false
set_option linter.unusedSimpArgs false
/-! ### astrolaberef16_Reader_piece: function 40 -/
mutual
def astrolaberef16_Reader_piece.l0 : Nat → List (S47) → Int → Int → List Int → Int → Bool → Option ((List (S47)) × Int × Bool)
  | 0, _, _, _, _, _, _ => none
  | k + 1, x3, x4, x5, x1000, x1001, x1002 => if x5 < x4 then (astrolaberef16_Reader_piece.j1 k x3 x4 x5 (!x1002) x1000 x1001 x1002) else (astrolaberef16_Reader_piece.j1 k x3 x4 x5 false x1000 x1001 x1002)
def astrolaberef16_Reader_piece.j1 : Nat → List (S47) → Int → Int → Bool → List Int → Int → Bool → Option ((List (S47)) × Int × Bool)
  | 0, _, _, _, _, _, _, _ => none
  | k + 1, x3, x4, x5, x18, x1000, x1001, x1002 => if x18 = true then ((astrolaberef16_Reader_Number.f k x1000 x1001 x1002).bind fun bt168 => ((astrolaberef16_Reader_Number.f k x1000 bt168.2.1 bt168.2.2).bind fun bt171 => ((astrolaberef16_Reader_Number.f k x1000 bt171.2.1 bt171.2.2).bind fun bt174 => ((astrolaberef16_Reader_Number.f k x1000 bt174.2.1 bt174.2.2).bind fun bt177 => ((astrolaberef16_Reader_Number.f k x1000 bt177.2.1 bt177.2.2).bind fun bt180 => ((astrolaberef16_Reader_Number.f k x1000 bt180.2.1 bt180.2.2).bind fun bt183 => (if x3.length < 2932031007402 then (astrolaberef16_Reader_piece.l0 k (x3 ++ [(⟨bt168.1, bt171.1, bt174.1, bt177.1, bt180.1, bt183.1⟩ : S47)]) x4 (wrap64 (x5 + 1)) x1000 bt183.2.1 bt183.2.2) else (none)))))))) else (some (x3, x1001, x1002))
end
def astrolaberef16_Reader_piece.f (k : Nat) (s0_0 : List Int) (s0_1 : Int) (s0_2 : Bool) : Option ((List (S47)) × Int × Bool) := (astrolaberef16_Reader_Many.f k s0_0 s0_1 s0_2).bind fun bt164 => (astrolaberef16_Reader_piece.l0 k ([] : List (S47)) bt164.1 0 s0_0 bt164.2.1 bt164.2.2)
theorem astrolaberef16_Reader_piece.mono_l : ∀ k, (∀ y0 y1 y2 y3 y4 y5, LeO (astrolaberef16_Reader_piece.l0 k y0 y1 y2 y3 y4 y5) (astrolaberef16_Reader_piece.l0 (k + 1) y0 y1 y2 y3 y4 y5)) ∧ (∀ y0 y1 y2 y3 y4 y5 y6, LeO (astrolaberef16_Reader_piece.j1 k y0 y1 y2 y3 y4 y5 y6) (astrolaberef16_Reader_piece.j1 (k + 1) y0 y1 y2 y3 y4 y5 y6))
  | 0 => ⟨fun _ _ _ _ _ _ r h => by simp [astrolaberef16_Reader_piece.l0] at h, fun _ _ _ _ _ _ _ r h => by simp [astrolaberef16_Reader_piece.j1] at h⟩
  | k + 1 => by
    obtain ⟨ih0, ih1⟩ := astrolaberef16_Reader_piece.mono_l k
    refine ⟨?_, ?_⟩
    · intro y0 y1 y2 y3 y4 y5
      unfold astrolaberef16_Reader_piece.l0
      repeat' first
      | (with_reducible exact ih0 _ _ _ _ _ _)
      | (with_reducible exact ih1 _ _ _ _ _ _ _)
      | (with_reducible exact astrolaberef16_Reader_Many.mono _ _ _ _)
      | (with_reducible exact astrolaberef16_Reader_Number.mono _ _ _ _)
      | (with_reducible exact LeO.refl _)
      | (with_reducible exact LeO.none _)
      | (with_reducible refine LeO.ite ?_ ?_)
      | (with_reducible refine LeO.bind ?_ (fun _ => ?_))
      | exact ih0 _ _ _ _ _ _
      | exact ih1 _ _ _ _ _ _ _
      | exact astrolaberef16_Reader_Many.mono _ _ _ _
      | exact astrolaberef16_Reader_Number.mono _ _ _ _
      | exact LeO.none _
      | refine LeO.ite ?_ ?_
      | refine LeO.bind ?_ (fun _ => ?_)
    · intro y0 y1 y2 y3 y4 y5 y6
      unfold astrolaberef16_Reader_piece.j1
      repeat' first
      | (with_reducible exact ih0 _ _ _ _ _ _)
      | (with_reducible exact ih1 _ _ _ _ _ _ _)
      | (with_reducible exact astrolaberef16_Reader_Many.mono _ _ _ _)
      | (with_reducible exact astrolaberef16_Reader_Number.mono _ _ _ _)
      | (with_reducible exact LeO.refl _)
      | (with_reducible exact LeO.none _)
      | (with_reducible refine LeO.ite ?_ ?_)
      | (with_reducible refine LeO.bind ?_ (fun _ => ?_))
      | exact ih0 _ _ _ _ _ _
      | exact ih1 _ _ _ _ _ _ _
      | exact astrolaberef16_Reader_Many.mono _ _ _ _
      | exact astrolaberef16_Reader_Number.mono _ _ _ _
      | exact LeO.none _
      | refine LeO.ite ?_ ?_
      | refine LeO.bind ?_ (fun _ => ?_)
theorem astrolaberef16_Reader_piece.mono : ∀ a0 a1 a2 k, LeO (astrolaberef16_Reader_piece.f k a0 a1 a2) (astrolaberef16_Reader_piece.f (k + 1) a0 a1 a2) := by
  intro a0 a1 a2 k
  obtain ⟨ih0, ih1⟩ := astrolaberef16_Reader_piece.mono_l k
  unfold astrolaberef16_Reader_piece.f
  repeat' first
      | (with_reducible exact ih0 _ _ _ _ _ _)
      | (with_reducible exact ih1 _ _ _ _ _ _ _)
      | (with_reducible exact astrolaberef16_Reader_Many.mono _ _ _ _)
      | (with_reducible exact astrolaberef16_Reader_Number.mono _ _ _ _)
      | (with_reducible exact LeO.refl _)
      | (with_reducible exact LeO.none _)
      | (with_reducible refine LeO.ite ?_ ?_)
      | (with_reducible refine LeO.bind ?_ (fun _ => ?_))
      | exact ih0 _ _ _ _ _ _
      | exact ih1 _ _ _ _ _ _ _
      | exact astrolaberef16_Reader_Many.mono _ _ _ _
      | exact astrolaberef16_Reader_Number.mono _ _ _ _
      | exact LeO.none _
      | refine LeO.ite ?_ ?_
      | refine LeO.bind ?_ (fun _ => ?_)
set_option maxHeartbeats 8000000 in
set_option maxRecDepth 100000 in
theorem astrolaberef16_Reader_piece.calls (k : Nat) (g : Nat) (s0_0 : List Int) (s0_1 : Int) (s0_2 : Bool) (r1 : List (S47)) (r2 : Int) (r3 : Bool) (w0 w : World) (hI : IsS66 w0 w g s0_0 s0_1 s0_2) (hB : Below w0.heap.size w0 w) (h : astrolaberef16_Reader_piece.f k s0_0 s0_1 s0_2 = some (r1, r2, r3)) :
    Calls Try.prog 40 #[.pointer (some ⟨g, 0, none⟩)] w fun e w' => ∃ v0_ : Value, e = .returned (v0_) ∧ Kd.R k47 47 w' w.heap.size (fun _ => True) v0_ r1 ∧ IsS66 w0 w' g s0_0 r2 r3 ∧ Below w0.heap.size w0 w' ∧ KeepBut w w' g none := by
  have hu47 := Try.underlying47
  have HI0 := Aside0.mk hI
  have HK := Aside0.mk (KeepBut.refl w g none)
  have HL := Aside0.mk hB.size
  clear hI
  have HW0 := Aside0.mk hB.size
  have HB := Aside0.mk hB
  clear hB
  have H : ((astrolaberef16_Reader_Many.f k s0_0 s0_1 s0_2).bind fun bt164 => (astrolaberef16_Reader_piece.l0 k ([] : List (S47)) bt164.1 0 s0_0 bt164.2.1 bt164.2.2)) = some (r1, r2, r3) := h
  clear h
  replace H := Option.bind_eq_some_iff.mp H
  obtain ⟨⟨t164, t165, t166⟩, A20, H⟩ := H
  replace H : (astrolaberef16_Reader_piece.l0 k ([] : List (S47)) t164 0 s0_0 t165 t166) = some (r1, r2, r3) := H
  have A2 := Aside0.mk A20
  clear A20
  have H' := Aside0.mk H
  clear H
  go_enter Try.func40, Try.ntmps40
  go_wp2_with (first | ((with_reducible refine gate_callee (f := 65) rfl ?_); refine goesL_ (some 8) rfl rfl Try.func65 (by kernel_rfl) rfl #[.pointer (some ⟨g, 0, none⟩)] rfl (by (try simp only [List.map_toArray, List.map_cons, List.map_nil]); first | done | rfl | (simp only [List.length_drop, List.length_take]; rfl)) ?_; (with_reducible refine (astrolaberef16_Reader_Many.calls k g s0_0 s0_1 s0_2 t164 t165 t166 w0 _ ?side1 ?side2 A2.out).mono ?_); (case side1 => repeat (first | (with_reducible first | exact HI0.out | apply IsS66.alloc | apply IsS66.drewN | apply IsS66.drew | apply IsS66.set_1 | apply IsS66.set_2) | exact HI0.out)); (case side2 => repeat (first | (with_reducible first | exact HB.out | apply below_alloc | apply pw_below_drewN | apply below_drew1 | refine below_set ?_ (IsS66.ge HI0.out)) | exact HB.out)); rintro e w3 ⟨rfl, hi, hb, hk⟩; refine ⟨_, rfl, ?_⟩; have n0_ := Aside0.mk (KeepBut.trans (by repeat (first | (with_reducible first | exact HK.out | apply KeepBut.set_ | apply keep_drewN | apply keep_drew | apply keep_alloc) | exact HK.out)) hk (.inl rfl)); have n1_ := Aside0.mk (hb); have n2_ := Aside0.mk (hi); clear HK; clear HB; clear HI0; have HK := n0_; have HB := n1_; have HI0 := n2_; clear n0_ n1_ n2_; (try clear hb); (try clear hb2); (try clear hk); (try clear hi)))
  go_loopg [3, 5] k (fun kq v3 v5 w' => ∃ (x3_1 : List (S47)) (x5_1 : Int) (x1001_1 : Int) (x1002_1 : Bool), v5 = .int .i64 x5_1 ∧ Aside0 (astrolaberef16_Reader_piece.l0 kq x3_1 t164 x5_1 s0_0 x1001_1 x1002_1 = some (r1, r2, r3)) ∧ Aside0 (kq ≤ k) ∧ Aside0 (Kd.R k47 47 w' w.heap.size (fun _ => True) v3 x3_1) ∧ Aside0 (IsS66 w0 w' g s0_0 x1001_1 x1002_1) ∧ Aside0 (KeepBut w w' g none) ∧ Aside0 (Below w0.heap.size w0 w'))
  case atStart => exact ⟨(([] : List (S47))), (0), (t165), (t166), (by first | rfl | (simp; done) | (simp [*]; done)), H', ⟨Nat.le_refl _⟩, ⟨by first | exact Kd.R_nil _ _ _ _ _ | exact Kd.N_nil _ _ _ _ _ | exact Kd.V_nil _ _ _ _ _ | exact Kd.Q_nil _ _ _ _ _ | exact Kd.S_nil _ _ _ _ _⟩, ⟨by repeat (first | (with_reducible first | exact HI0.out | apply IsS66.alloc | apply IsS66.drewN | apply IsS66.drew | apply IsS66.set_1 | apply IsS66.set_2) | exact HI0.out)⟩, ⟨by repeat (first | (with_reducible first | exact HK.out | apply KeepBut.set_ | apply keep_drewN | apply keep_drew | apply keep_alloc) | exact HK.out)⟩, ⟨by repeat (first | (with_reducible first | exact HB.out | apply below_alloc | apply pw_below_drewN | apply below_drew1 | refine below_set ?_ (IsS66.ge HI0.out)) | exact HB.out)⟩⟩
  case round =>
    clear H'
    try clear p2
    obtain ⟨x3_1, x5_1, x1001_1, x1002_1, rfl, HA, HK1, HO_3, HI0, HK, HB⟩ := hrel
    cases gk with
    | zero => exact absurd HA.out (by simp [astrolaberef16_Reader_piece.l0])
    | succ k1 =>
      have H := HA.out
      clear HA
      simp only [astrolaberef16_Reader_piece.l0] at H
      have HC4 := Aside0.mk H
      clear H
      go_upto_region 4 with (fail)
      go_cut [18] (fun v18 wc => ∃ (kq : Nat) (x18_3 : Bool), v18 = .bool x18_3 ∧ Aside0 (astrolaberef16_Reader_piece.j1 kq x3_1 t164 x5_1 x18_3 s0_0 x1001_1 x1002_1 = some (r1, r2, r3)) ∧ Aside0 (kq ≤ k1) ∧ Aside0 (Kd.R k47 47 wc w.heap.size (fun _ => True) u3 x3_1) ∧ Aside0 (IsS66 w0 wc g s0_0 x1001_1 x1002_1) ∧ Aside0 (KeepBut w wc g none) ∧ Aside0 (Below w0.heap.size w0 wc))
      case first =>
        have H := HC4.out
        clear HC4
        by_cases c5 : x5_1 < t164
        · rw [if_pos c5] at H
          have c5b0 : decide (x5_1 < t164) = true := decide_eq_true c5
          clear c5
          (first | rw [c5b0] | (simp only [i64_w, i32_w]; rw [c5b0]) | skip)
          have H' := Aside0.mk H
          clear H
          obtain ⟨ASz6_0, cSz6_0, HGz6, hgz6, HSz6_0⟩ := HI0.out
          have hcz6_0 := cellS66_0 HGz6
          have hcz6_1 := cellS66_1 HGz6
          have hcz6_2 := cellS66_2 HGz6
          have hfz6_1 := blk_frozen HGz6 1
          have hfz6_2 := blk_frozen HGz6 2
          clear HGz6 hgz6
          go_wp2
          go_meet
          case rel => exact ⟨_, (!x1002_1), (by first | rfl | (simp; done) | (simp [*]; done)), H', ⟨by have := HK1.out; first | omega | exact Nat.le_refl _⟩, ⟨by (with_reducible repeat (first | apply Kd.R_alloc | apply Kd.R_drewN | apply Kd.R_drew)); exact HO_3.out⟩, ⟨by repeat (first | (with_reducible first | exact HI0.out | apply IsS66.alloc | apply IsS66.drewN | apply IsS66.drew | apply IsS66.set_1 | apply IsS66.set_2) | exact HI0.out)⟩, ⟨by repeat (first | (with_reducible first | exact HK.out | apply KeepBut.set_ | apply keep_drewN | apply keep_drew | apply keep_alloc) | exact HK.out)⟩, ⟨by repeat (first | (with_reducible first | exact HB.out | apply below_alloc | apply pw_below_drewN | apply below_drew1 | refine below_set ?_ (IsS66.ge HI0.out)) | exact HB.out)⟩⟩
        · rw [if_neg c5] at H
          have c5b0 : decide (x5_1 < t164) = false := decide_eq_false c5
          clear c5
          (first | rw [c5b0] | (simp only [i64_w, i32_w]; rw [c5b0]) | skip)
          have H' := Aside0.mk H
          clear H
          go_wp2
          go_meet
          case rel => exact ⟨_, (false), (by first | rfl | (simp; done) | (simp [*]; done)), H', ⟨by have := HK1.out; first | omega | exact Nat.le_refl _⟩, ⟨by (with_reducible repeat (first | apply Kd.R_alloc | apply Kd.R_drewN | apply Kd.R_drew)); exact HO_3.out⟩, ⟨by repeat (first | (with_reducible first | exact HI0.out | apply IsS66.alloc | apply IsS66.drewN | apply IsS66.drew | apply IsS66.set_1 | apply IsS66.set_2) | exact HI0.out)⟩, ⟨by repeat (first | (with_reducible first | exact HK.out | apply KeepBut.set_ | apply keep_drewN | apply keep_drew | apply keep_alloc) | exact HK.out)⟩, ⟨by repeat (first | (with_reducible first | exact HB.out | apply below_alloc | apply pw_below_drewN | apply below_drew1 | refine below_set ?_ (IsS66.ge HI0.out)) | exact HB.out)⟩⟩
      case rest =>
        clear HC4
        try clear p2
        try clear c4
        try clear c5
        try clear c5b0
        try clear c6
        try clear hcz6_0
        try clear hcz6_1
        try clear hcz6_2
        try clear hfz6_1
        try clear hfz6_2
        try clear p2
        obtain ⟨kq, x18_3, rfl, HA, HJ3, HO_3, HI0, HK, HB⟩ := hcut
        cases kq with
        | zero => exact absurd HA.out (by simp [astrolaberef16_Reader_piece.j1])
        | succ kj3 =>
          have H := HA.out
          clear HA
          simp only [astrolaberef16_Reader_piece.j1] at H
          by_cases c7 : x18_3 = true
          · subst c7
            have H1 : ((astrolaberef16_Reader_Number.f kj3 s0_0 x1001_1 x1002_1).bind fun bt168 => ((astrolaberef16_Reader_Number.f kj3 s0_0 bt168.2.1 bt168.2.2).bind fun bt171 => ((astrolaberef16_Reader_Number.f kj3 s0_0 bt171.2.1 bt171.2.2).bind fun bt174 => ((astrolaberef16_Reader_Number.f kj3 s0_0 bt174.2.1 bt174.2.2).bind fun bt177 => ((astrolaberef16_Reader_Number.f kj3 s0_0 bt177.2.1 bt177.2.2).bind fun bt180 => ((astrolaberef16_Reader_Number.f kj3 s0_0 bt180.2.1 bt180.2.2).bind fun bt183 => (if x3_1.length < 2932031007402 then (astrolaberef16_Reader_piece.l0 kj3 (x3_1 ++ [(⟨bt168.1, bt171.1, bt174.1, bt177.1, bt180.1, bt183.1⟩ : S47)]) t164 (wrap64 (x5_1 + 1)) s0_0 bt183.2.1 bt183.2.2) else (none)))))))) = some (r1, r2, r3) := by rw [if_pos rfl] at H; exact H
            clear H
            have H := H1
            clear H1
            replace H := Option.bind_eq_some_iff.mp H
            obtain ⟨⟨t168, t169, t170⟩, A80, H⟩ := H
            replace H : ((astrolaberef16_Reader_Number.f kj3 s0_0 t169 t170).bind fun bt171 => ((astrolaberef16_Reader_Number.f kj3 s0_0 bt171.2.1 bt171.2.2).bind fun bt174 => ((astrolaberef16_Reader_Number.f kj3 s0_0 bt174.2.1 bt174.2.2).bind fun bt177 => ((astrolaberef16_Reader_Number.f kj3 s0_0 bt177.2.1 bt177.2.2).bind fun bt180 => ((astrolaberef16_Reader_Number.f kj3 s0_0 bt180.2.1 bt180.2.2).bind fun bt183 => (if x3_1.length < 2932031007402 then (astrolaberef16_Reader_piece.l0 kj3 (x3_1 ++ [(⟨t168, bt171.1, bt174.1, bt177.1, bt180.1, bt183.1⟩ : S47)]) t164 (wrap64 (x5_1 + 1)) s0_0 bt183.2.1 bt183.2.2) else (none))))))) = some (r1, r2, r3) := H
            have A8 := Aside0.mk A80
            clear A80
            replace H := Option.bind_eq_some_iff.mp H
            obtain ⟨⟨t171, t172, t173⟩, A90, H⟩ := H
            replace H : ((astrolaberef16_Reader_Number.f kj3 s0_0 t172 t173).bind fun bt174 => ((astrolaberef16_Reader_Number.f kj3 s0_0 bt174.2.1 bt174.2.2).bind fun bt177 => ((astrolaberef16_Reader_Number.f kj3 s0_0 bt177.2.1 bt177.2.2).bind fun bt180 => ((astrolaberef16_Reader_Number.f kj3 s0_0 bt180.2.1 bt180.2.2).bind fun bt183 => (if x3_1.length < 2932031007402 then (astrolaberef16_Reader_piece.l0 kj3 (x3_1 ++ [(⟨t168, t171, bt174.1, bt177.1, bt180.1, bt183.1⟩ : S47)]) t164 (wrap64 (x5_1 + 1)) s0_0 bt183.2.1 bt183.2.2) else (none)))))) = some (r1, r2, r3) := H
            have A9 := Aside0.mk A90
            clear A90
            replace H := Option.bind_eq_some_iff.mp H
            obtain ⟨⟨t174, t175, t176⟩, A100, H⟩ := H
            replace H : ((astrolaberef16_Reader_Number.f kj3 s0_0 t175 t176).bind fun bt177 => ((astrolaberef16_Reader_Number.f kj3 s0_0 bt177.2.1 bt177.2.2).bind fun bt180 => ((astrolaberef16_Reader_Number.f kj3 s0_0 bt180.2.1 bt180.2.2).bind fun bt183 => (if x3_1.length < 2932031007402 then (astrolaberef16_Reader_piece.l0 kj3 (x3_1 ++ [(⟨t168, t171, t174, bt177.1, bt180.1, bt183.1⟩ : S47)]) t164 (wrap64 (x5_1 + 1)) s0_0 bt183.2.1 bt183.2.2) else (none))))) = some (r1, r2, r3) := H
            have A10 := Aside0.mk A100
            clear A100
            replace H := Option.bind_eq_some_iff.mp H
            obtain ⟨⟨t177, t178, t179⟩, A110, H⟩ := H
            replace H : ((astrolaberef16_Reader_Number.f kj3 s0_0 t178 t179).bind fun bt180 => ((astrolaberef16_Reader_Number.f kj3 s0_0 bt180.2.1 bt180.2.2).bind fun bt183 => (if x3_1.length < 2932031007402 then (astrolaberef16_Reader_piece.l0 kj3 (x3_1 ++ [(⟨t168, t171, t174, t177, bt180.1, bt183.1⟩ : S47)]) t164 (wrap64 (x5_1 + 1)) s0_0 bt183.2.1 bt183.2.2) else (none)))) = some (r1, r2, r3) := H
            have A11 := Aside0.mk A110
            clear A110
            replace H := Option.bind_eq_some_iff.mp H
            obtain ⟨⟨t180, t181, t182⟩, A120, H⟩ := H
            replace H : ((astrolaberef16_Reader_Number.f kj3 s0_0 t181 t182).bind fun bt183 => (if x3_1.length < 2932031007402 then (astrolaberef16_Reader_piece.l0 kj3 (x3_1 ++ [(⟨t168, t171, t174, t177, t180, bt183.1⟩ : S47)]) t164 (wrap64 (x5_1 + 1)) s0_0 bt183.2.1 bt183.2.2) else (none))) = some (r1, r2, r3) := H
            have A12 := Aside0.mk A120
            clear A120
            replace H := Option.bind_eq_some_iff.mp H
            obtain ⟨⟨t183, t184, t185⟩, A130, H⟩ := H
            replace H : (if x3_1.length < 2932031007402 then (astrolaberef16_Reader_piece.l0 kj3 (x3_1 ++ [(⟨t168, t171, t174, t177, t180, t183⟩ : S47)]) t164 (wrap64 (x5_1 + 1)) s0_0 t184 t185) else (none)) = some (r1, r2, r3) := H
            have A13 := Aside0.mk A130
            clear A130
            by_cases c14 : x3_1.length < 2932031007402
            · rw [if_pos c14] at H
              have LMc14 := Aside0.mk c14
              clear c14
              obtain ⟨y186, hy186⟩ : ∃ y_ : List (S47), y_ = (x3_1 ++ [(⟨t168, t171, t174, t177, t180, t183⟩ : S47)]) := ⟨_, rfl⟩
              replace H : (astrolaberef16_Reader_piece.l0 kj3 y186 t164 (wrap64 (x5_1 + 1)) s0_0 t184 t185) = some (r1, r2, r3) := by first | (rw [hy186]; with_reducible exact H) | (have H2_ := (Option.bind_some _ _).symm.trans H; rw [hy186]; with_reducible exact H2_) | (have H2_ := (Option.bind_some _ _).symm.trans H; with_reducible exact H2_) | with_reducible exact H | (rw [hy186]; exact H) | exact H
              have Ny186 := Aside0.mk hy186
              clear hy186
              have H' := Aside0.mk H
              clear H
              go_upto_region 13 with (first | ((with_reducible refine gate_dst (N := 6) rfl ?_); refine box_event ?hg (N := 6) ?hd (cs := #[.int .i64 0, .int .i64 0, .int .i64 0, .int .i64 0, .int .i64 0, .int .i64 0]) (t := 47) ?hr ?_; (case hd => rfl); (case hg => rfl); (case hr => first | (go_simp; done) | (go_simp; rfl)); intro gb167 hg w15 hbox hb; have n0_ := Aside0.mk (Kd.R_below (Kd.R_elderB (by (with_reducible repeat (first | apply Kd.R_alloc | apply Kd.R_drewN | apply Kd.R_drew)); exact HO_3.out) gb167 (Nat.le_of_eq hg.symm)) hb); have n1_ := Aside0.mk (IsS66.below (by repeat (first | (with_reducible first | exact HI0.out | apply IsS66.alloc | apply IsS66.drewN | apply IsS66.drew | apply IsS66.set_1 | apply IsS66.set_2) | exact HI0.out)) hb); have n2_ := Aside0.mk (KeepBut.trans (by repeat (first | (with_reducible first | exact HK.out | apply KeepBut.set_ | apply keep_drewN | apply keep_drew | apply keep_alloc) | exact HK.out)) (KeepBut.of_below hb g none) (.inl rfl)); have n3_ := Aside0.mk (below_step (by repeat (first | (with_reducible first | exact HB.out | apply below_alloc | apply pw_below_drewN | apply below_drew1 | refine below_set ?_ (IsS66.ge HI0.out)) | exact HB.out)) hb); have n4_ := Aside0.mk (hbox); have n5_ := Aside0.mk ((by rw [hg]; exact (keep_size (w := w) (g := g) (row := none) (by repeat (first | (with_reducible first | exact HK.out | apply KeepBut.set_ | apply keep_drewN | apply keep_drew | apply keep_alloc) | exact HK.out))) : w.heap.size ≤ gb167)); have n6_ := Aside0.mk ((Nat.le_trans HW0.out (by rw [hg]; exact (keep_size (w := w) (g := g) (row := none) (by repeat (first | (with_reducible first | exact HK.out | apply KeepBut.set_ | apply keep_drewN | apply keep_drew | apply keep_alloc) | exact HK.out))) : w.heap.size ≤ gb167) : w0.heap.size ≤ gb167)); have n7_ := Aside0.mk ((by rw [hg]; exact Nat.ne_of_lt (IsS66.lt (show IsS66 w0 _ g s0_0 x1001_1 x1002_1 from by repeat (first | (with_reducible first | exact HI0.out | apply IsS66.alloc | apply IsS66.drewN | apply IsS66.drew | apply IsS66.set_1 | apply IsS66.set_2) | exact HI0.out))) : g ≠ gb167)); have n8_ := Aside0.mk ((by rw [hg]; exact Nat.ne_of_gt (IsS66.lt (show IsS66 w0 _ g s0_0 x1001_1 x1002_1 from by repeat (first | (with_reducible first | exact HI0.out | apply IsS66.alloc | apply IsS66.drewN | apply IsS66.drew | apply IsS66.set_1 | apply IsS66.set_2) | exact HI0.out))) : gb167 ≠ g)); clear HO_3; clear HI0; clear HK; clear HB; have HO_3 := n0_; have HI0 := n1_; have HK := n2_; have HB := n3_; have BK167 := n4_; have GW167 := n5_; have GE167 := n6_; have NB0_167 := n7_; have NB167_0 := n8_; clear n0_ n1_ n2_ n3_ n4_ n5_ n6_ n7_ n8_; clear hb hbox hg) | ((with_reducible refine gate_callee (f := 39) rfl ?_); refine goesL_ (some 22) rfl rfl Try.func39 (by kernel_rfl) rfl #[.pointer (some ⟨g, 0, none⟩)] rfl (by (try simp only [List.map_toArray, List.map_cons, List.map_nil]); first | done | rfl | (simp only [List.length_drop, List.length_take]; rfl)) ?_; (with_reducible refine (astrolaberef16_Reader_Number.calls kj3 g s0_0 x1001_1 x1002_1 t168 t169 t170 w0 _ ?side1 ?side2 A8.out).mono ?_); (case side1 => repeat (first | (with_reducible first | exact HI0.out | apply IsS66.alloc | apply IsS66.drewN | apply IsS66.drew | apply IsS66.set_1 | apply IsS66.set_2 | refine IsS66.far ?_ NB0_167.out _) | exact HI0.out)); (case side2 => repeat (first | (with_reducible first | exact HB.out | apply below_alloc | apply pw_below_drewN | apply below_drew1 | refine below_set ?_ (IsS66.ge HI0.out) | refine below_set ?_ GE167.out) | exact HB.out)); rintro e w16 ⟨rfl, hi, hb, hk⟩; refine ⟨_, rfl, ?_⟩; have n0_ := Aside0.mk (Kd.R_mono (Kd.R_keep (IsS66.apart (show IsS66 w0 _ g s0_0 x1001_1 x1002_1 from by repeat (first | (with_reducible first | exact HI0.out | apply IsS66.alloc | apply IsS66.drewN | apply IsS66.drew | apply IsS66.set_1 | apply IsS66.set_2 | refine IsS66.far ?_ NB0_167.out _) | exact HI0.out)) (by (with_reducible repeat (first | apply Kd.R_alloc | apply Kd.R_drewN | apply Kd.R_drew)); exact HO_3.out) (by decide)) hk (fun _ h => h.2)) (fun _ h => h.1)); have n1_ := Aside0.mk (KeepBut.blk hk (g' := gb167) (o := .cells #[.int .i64 0, .int .i64 0, .int .i64 0, .int .i64 0, .int .i64 0, .int .i64 0] 47 (0, 0)) (by (with_reducible repeat (first | refine blk_drewN ?_ _ | refine blk_drew ?_ | refine blk_alloc ?_ _)); exact BK167.out) NB167_0.out (by simp)); have n2_ := Aside0.mk (KeepBut.trans (by repeat (first | (with_reducible first | exact HK.out | apply KeepBut.set_ | apply keep_drewN | apply keep_drew | apply keep_alloc | refine keep_far ?_ GW167.out _) | exact HK.out)) hk (.inl rfl)); have n3_ := Aside0.mk (hb); have n4_ := Aside0.mk (hi); clear HO_3; clear BK167; clear HK; clear HB; clear HI0; have HO_3 := n0_; have BK167 := n1_; have HK := n2_; have HB := n3_; have HI0 := n4_; clear n0_ n1_ n2_ n3_ n4_; (try clear hb); (try clear hb2); (try clear hk); (try clear hi); have hnb17 := NB167_0.out; have hnc17 := NB0_167.out; have hcz18_0 : w16.cell? ⟨gb167, 0, none⟩ = some (.int .i64 0) := (blk_cell BK167.out 0).trans rfl; have hcz18_1 : w16.cell? ⟨gb167, 1, none⟩ = some (.int .i64 0) := (blk_cell BK167.out 1).trans rfl; have hcz18_2 : w16.cell? ⟨gb167, 2, none⟩ = some (.int .i64 0) := (blk_cell BK167.out 2).trans rfl; have hcz18_3 : w16.cell? ⟨gb167, 3, none⟩ = some (.int .i64 0) := (blk_cell BK167.out 3).trans rfl; have hcz18_4 : w16.cell? ⟨gb167, 4, none⟩ = some (.int .i64 0) := (blk_cell BK167.out 4).trans rfl; have hcz18_5 : w16.cell? ⟨gb167, 5, none⟩ = some (.int .i64 0) := (blk_cell BK167.out 5).trans rfl; have hfz18_0 := blk_frozen BK167.out 0; have hfz18_1 := blk_frozen BK167.out 1; have hfz18_2 := blk_frozen BK167.out 2; have hfz18_3 := blk_frozen BK167.out 3; have hfz18_4 := blk_frozen BK167.out 4; have hfz18_5 := blk_frozen BK167.out 5) | ((with_reducible refine gate_callee (f := 39) rfl ?_); refine goesL_ (some 25) rfl rfl Try.func39 (by kernel_rfl) rfl #[.pointer (some ⟨g, 0, none⟩)] rfl (by (try simp only [List.map_toArray, List.map_cons, List.map_nil]); first | done | rfl | (simp only [List.length_drop, List.length_take]; rfl)) ?_; (with_reducible refine (astrolaberef16_Reader_Number.calls kj3 g s0_0 t169 t170 t171 t172 t173 w0 _ ?side1 ?side2 A9.out).mono ?_); (case side1 => repeat (first | (with_reducible first | exact HI0.out | apply IsS66.alloc | apply IsS66.drewN | apply IsS66.drew | apply IsS66.set_1 | apply IsS66.set_2 | refine IsS66.far ?_ NB0_167.out _) | exact HI0.out)); (case side2 => repeat (first | (with_reducible first | exact HB.out | apply below_alloc | apply pw_below_drewN | apply below_drew1 | refine below_set ?_ (IsS66.ge HI0.out) | refine below_set ?_ GE167.out) | exact HB.out)); rintro e w19 ⟨rfl, hi, hb, hk⟩; refine ⟨_, rfl, ?_⟩; have n0_ := Aside0.mk (Kd.R_mono (Kd.R_keep (IsS66.apart (show IsS66 w0 _ g s0_0 t169 t170 from by repeat (first | (with_reducible first | exact HI0.out | apply IsS66.alloc | apply IsS66.drewN | apply IsS66.drew | apply IsS66.set_1 | apply IsS66.set_2 | refine IsS66.far ?_ NB0_167.out _) | exact HI0.out)) (by (with_reducible repeat (first | apply Kd.R_alloc | apply Kd.R_drewN | apply Kd.R_drew)); exact (Kd.R_mono (Kd.R_far (p := ⟨gb167, 0, none⟩) (Kd.R_mono HO_3.out (fun k_ hk => (⟨hk, hk.2⟩ : _ ∧ k_ ≠ gb167))) (fun _ hk => hk.2) (.int .i64 t168)) (fun _ h_ => h_.1))) (by decide)) hk (fun _ h => h.2)) (fun _ h => h.1)); have n1_ := Aside0.mk (KeepBut.blk hk (g' := gb167) (o := .cells #[.int .i64 t168, .int .i64 0, .int .i64 0, .int .i64 0, .int .i64 0, .int .i64 0] 47 (0, 0)) (by (with_reducible repeat (first | refine blk_drewN ?_ _ | refine blk_drew ?_ | refine blk_alloc ?_ _)); refine blk_put (cs := #[.int .i64 0, .int .i64 0, .int .i64 0, .int .i64 0, .int .i64 0, .int .i64 0]) ?_ 0 _ rfl; (with_reducible repeat (first | refine blk_drewN ?_ _ | refine blk_drew ?_ | refine blk_alloc ?_ _)); exact BK167.out) NB167_0.out (by simp)); have n2_ := Aside0.mk (KeepBut.trans (by repeat (first | (with_reducible first | exact HK.out | apply KeepBut.set_ | apply keep_drewN | apply keep_drew | apply keep_alloc | refine keep_far ?_ GW167.out _) | exact HK.out)) hk (.inl rfl)); have n3_ := Aside0.mk (hb); have n4_ := Aside0.mk (hi); clear HO_3; clear BK167; clear HK; clear HB; clear HI0; have HO_3 := n0_; have BK167 := n1_; have HK := n2_; have HB := n3_; have HI0 := n4_; clear n0_ n1_ n2_ n3_ n4_; (try clear hb); (try clear hb2); (try clear hk); (try clear hi); have hcz20_0 : w19.cell? ⟨gb167, 0, none⟩ = some (.int .i64 t168) := (blk_cell BK167.out 0).trans rfl; have hcz20_1 : w19.cell? ⟨gb167, 1, none⟩ = some (.int .i64 0) := (blk_cell BK167.out 1).trans rfl; have hcz20_2 : w19.cell? ⟨gb167, 2, none⟩ = some (.int .i64 0) := (blk_cell BK167.out 2).trans rfl; have hcz20_3 : w19.cell? ⟨gb167, 3, none⟩ = some (.int .i64 0) := (blk_cell BK167.out 3).trans rfl; have hcz20_4 : w19.cell? ⟨gb167, 4, none⟩ = some (.int .i64 0) := (blk_cell BK167.out 4).trans rfl; have hcz20_5 : w19.cell? ⟨gb167, 5, none⟩ = some (.int .i64 0) := (blk_cell BK167.out 5).trans rfl; have hfz20_0 := blk_frozen BK167.out 0; have hfz20_1 := blk_frozen BK167.out 1; have hfz20_2 := blk_frozen BK167.out 2; have hfz20_3 := blk_frozen BK167.out 3; have hfz20_4 := blk_frozen BK167.out 4; have hfz20_5 := blk_frozen BK167.out 5) | ((with_reducible refine gate_callee (f := 39) rfl ?_); refine goesL_ (some 28) rfl rfl Try.func39 (by kernel_rfl) rfl #[.pointer (some ⟨g, 0, none⟩)] rfl (by (try simp only [List.map_toArray, List.map_cons, List.map_nil]); first | done | rfl | (simp only [List.length_drop, List.length_take]; rfl)) ?_; (with_reducible refine (astrolaberef16_Reader_Number.calls kj3 g s0_0 t172 t173 t174 t175 t176 w0 _ ?side1 ?side2 A10.out).mono ?_); (case side1 => repeat (first | (with_reducible first | exact HI0.out | apply IsS66.alloc | apply IsS66.drewN | apply IsS66.drew | apply IsS66.set_1 | apply IsS66.set_2 | refine IsS66.far ?_ NB0_167.out _) | exact HI0.out)); (case side2 => repeat (first | (with_reducible first | exact HB.out | apply below_alloc | apply pw_below_drewN | apply below_drew1 | refine below_set ?_ (IsS66.ge HI0.out) | refine below_set ?_ GE167.out) | exact HB.out)); rintro e w21 ⟨rfl, hi, hb, hk⟩; refine ⟨_, rfl, ?_⟩; have n0_ := Aside0.mk (Kd.R_mono (Kd.R_keep (IsS66.apart (show IsS66 w0 _ g s0_0 t172 t173 from by repeat (first | (with_reducible first | exact HI0.out | apply IsS66.alloc | apply IsS66.drewN | apply IsS66.drew | apply IsS66.set_1 | apply IsS66.set_2 | refine IsS66.far ?_ NB0_167.out _) | exact HI0.out)) (by (with_reducible repeat (first | apply Kd.R_alloc | apply Kd.R_drewN | apply Kd.R_drew)); exact (Kd.R_mono (Kd.R_far (p := ⟨gb167, 1, none⟩) (Kd.R_mono HO_3.out (fun k_ hk => (⟨hk, hk.2⟩ : _ ∧ k_ ≠ gb167))) (fun _ hk => hk.2) (.int .i64 t171)) (fun _ h_ => h_.1))) (by decide)) hk (fun _ h => h.2)) (fun _ h => h.1)); have n1_ := Aside0.mk (KeepBut.blk hk (g' := gb167) (o := .cells #[.int .i64 t168, .int .i64 t171, .int .i64 0, .int .i64 0, .int .i64 0, .int .i64 0] 47 (0, 0)) (by (with_reducible repeat (first | refine blk_drewN ?_ _ | refine blk_drew ?_ | refine blk_alloc ?_ _)); refine blk_put (cs := #[.int .i64 t168, .int .i64 0, .int .i64 0, .int .i64 0, .int .i64 0, .int .i64 0]) ?_ 1 _ rfl; (with_reducible repeat (first | refine blk_drewN ?_ _ | refine blk_drew ?_ | refine blk_alloc ?_ _)); exact BK167.out) NB167_0.out (by simp)); have n2_ := Aside0.mk (KeepBut.trans (by repeat (first | (with_reducible first | exact HK.out | apply KeepBut.set_ | apply keep_drewN | apply keep_drew | apply keep_alloc | refine keep_far ?_ GW167.out _) | exact HK.out)) hk (.inl rfl)); have n3_ := Aside0.mk (hb); have n4_ := Aside0.mk (hi); clear HO_3; clear BK167; clear HK; clear HB; clear HI0; have HO_3 := n0_; have BK167 := n1_; have HK := n2_; have HB := n3_; have HI0 := n4_; clear n0_ n1_ n2_ n3_ n4_; (try clear hb); (try clear hb2); (try clear hk); (try clear hi); have hcz22_0 : w21.cell? ⟨gb167, 0, none⟩ = some (.int .i64 t168) := (blk_cell BK167.out 0).trans rfl; have hcz22_1 : w21.cell? ⟨gb167, 1, none⟩ = some (.int .i64 t171) := (blk_cell BK167.out 1).trans rfl; have hcz22_2 : w21.cell? ⟨gb167, 2, none⟩ = some (.int .i64 0) := (blk_cell BK167.out 2).trans rfl; have hcz22_3 : w21.cell? ⟨gb167, 3, none⟩ = some (.int .i64 0) := (blk_cell BK167.out 3).trans rfl; have hcz22_4 : w21.cell? ⟨gb167, 4, none⟩ = some (.int .i64 0) := (blk_cell BK167.out 4).trans rfl; have hcz22_5 : w21.cell? ⟨gb167, 5, none⟩ = some (.int .i64 0) := (blk_cell BK167.out 5).trans rfl; have hfz22_0 := blk_frozen BK167.out 0; have hfz22_1 := blk_frozen BK167.out 1; have hfz22_2 := blk_frozen BK167.out 2; have hfz22_3 := blk_frozen BK167.out 3; have hfz22_4 := blk_frozen BK167.out 4; have hfz22_5 := blk_frozen BK167.out 5) | ((with_reducible refine gate_callee (f := 39) rfl ?_); refine goesL_ (some 31) rfl rfl Try.func39 (by kernel_rfl) rfl #[.pointer (some ⟨g, 0, none⟩)] rfl (by (try simp only [List.map_toArray, List.map_cons, List.map_nil]); first | done | rfl | (simp only [List.length_drop, List.length_take]; rfl)) ?_; (with_reducible refine (astrolaberef16_Reader_Number.calls kj3 g s0_0 t175 t176 t177 t178 t179 w0 _ ?side1 ?side2 A11.out).mono ?_); (case side1 => repeat (first | (with_reducible first | exact HI0.out | apply IsS66.alloc | apply IsS66.drewN | apply IsS66.drew | apply IsS66.set_1 | apply IsS66.set_2 | refine IsS66.far ?_ NB0_167.out _) | exact HI0.out)); (case side2 => repeat (first | (with_reducible first | exact HB.out | apply below_alloc | apply pw_below_drewN | apply below_drew1 | refine below_set ?_ (IsS66.ge HI0.out) | refine below_set ?_ GE167.out) | exact HB.out)); rintro e w23 ⟨rfl, hi, hb, hk⟩; refine ⟨_, rfl, ?_⟩; have n0_ := Aside0.mk (Kd.R_mono (Kd.R_keep (IsS66.apart (show IsS66 w0 _ g s0_0 t175 t176 from by repeat (first | (with_reducible first | exact HI0.out | apply IsS66.alloc | apply IsS66.drewN | apply IsS66.drew | apply IsS66.set_1 | apply IsS66.set_2 | refine IsS66.far ?_ NB0_167.out _) | exact HI0.out)) (by (with_reducible repeat (first | apply Kd.R_alloc | apply Kd.R_drewN | apply Kd.R_drew)); exact (Kd.R_mono (Kd.R_far (p := ⟨gb167, 2, none⟩) (Kd.R_mono HO_3.out (fun k_ hk => (⟨hk, hk.2⟩ : _ ∧ k_ ≠ gb167))) (fun _ hk => hk.2) (.int .i64 t174)) (fun _ h_ => h_.1))) (by decide)) hk (fun _ h => h.2)) (fun _ h => h.1)); have n1_ := Aside0.mk (KeepBut.blk hk (g' := gb167) (o := .cells #[.int .i64 t168, .int .i64 t171, .int .i64 t174, .int .i64 0, .int .i64 0, .int .i64 0] 47 (0, 0)) (by (with_reducible repeat (first | refine blk_drewN ?_ _ | refine blk_drew ?_ | refine blk_alloc ?_ _)); refine blk_put (cs := #[.int .i64 t168, .int .i64 t171, .int .i64 0, .int .i64 0, .int .i64 0, .int .i64 0]) ?_ 2 _ rfl; (with_reducible repeat (first | refine blk_drewN ?_ _ | refine blk_drew ?_ | refine blk_alloc ?_ _)); exact BK167.out) NB167_0.out (by simp)); have n2_ := Aside0.mk (KeepBut.trans (by repeat (first | (with_reducible first | exact HK.out | apply KeepBut.set_ | apply keep_drewN | apply keep_drew | apply keep_alloc | refine keep_far ?_ GW167.out _) | exact HK.out)) hk (.inl rfl)); have n3_ := Aside0.mk (hb); have n4_ := Aside0.mk (hi); clear HO_3; clear BK167; clear HK; clear HB; clear HI0; have HO_3 := n0_; have BK167 := n1_; have HK := n2_; have HB := n3_; have HI0 := n4_; clear n0_ n1_ n2_ n3_ n4_; (try clear hb); (try clear hb2); (try clear hk); (try clear hi); have hcz24_0 : w23.cell? ⟨gb167, 0, none⟩ = some (.int .i64 t168) := (blk_cell BK167.out 0).trans rfl; have hcz24_1 : w23.cell? ⟨gb167, 1, none⟩ = some (.int .i64 t171) := (blk_cell BK167.out 1).trans rfl; have hcz24_2 : w23.cell? ⟨gb167, 2, none⟩ = some (.int .i64 t174) := (blk_cell BK167.out 2).trans rfl; have hcz24_3 : w23.cell? ⟨gb167, 3, none⟩ = some (.int .i64 0) := (blk_cell BK167.out 3).trans rfl; have hcz24_4 : w23.cell? ⟨gb167, 4, none⟩ = some (.int .i64 0) := (blk_cell BK167.out 4).trans rfl; have hcz24_5 : w23.cell? ⟨gb167, 5, none⟩ = some (.int .i64 0) := (blk_cell BK167.out 5).trans rfl; have hfz24_0 := blk_frozen BK167.out 0; have hfz24_1 := blk_frozen BK167.out 1; have hfz24_2 := blk_frozen BK167.out 2; have hfz24_3 := blk_frozen BK167.out 3; have hfz24_4 := blk_frozen BK167.out 4; have hfz24_5 := blk_frozen BK167.out 5) | ((with_reducible refine gate_callee (f := 39) rfl ?_); refine goesL_ (some 34) rfl rfl Try.func39 (by kernel_rfl) rfl #[.pointer (some ⟨g, 0, none⟩)] rfl (by (try simp only [List.map_toArray, List.map_cons, List.map_nil]); first | done | rfl | (simp only [List.length_drop, List.length_take]; rfl)) ?_; (with_reducible refine (astrolaberef16_Reader_Number.calls kj3 g s0_0 t178 t179 t180 t181 t182 w0 _ ?side1 ?side2 A12.out).mono ?_); (case side1 => repeat (first | (with_reducible first | exact HI0.out | apply IsS66.alloc | apply IsS66.drewN | apply IsS66.drew | apply IsS66.set_1 | apply IsS66.set_2 | refine IsS66.far ?_ NB0_167.out _) | exact HI0.out)); (case side2 => repeat (first | (with_reducible first | exact HB.out | apply below_alloc | apply pw_below_drewN | apply below_drew1 | refine below_set ?_ (IsS66.ge HI0.out) | refine below_set ?_ GE167.out) | exact HB.out)); rintro e w25 ⟨rfl, hi, hb, hk⟩; refine ⟨_, rfl, ?_⟩; have n0_ := Aside0.mk (Kd.R_mono (Kd.R_keep (IsS66.apart (show IsS66 w0 _ g s0_0 t178 t179 from by repeat (first | (with_reducible first | exact HI0.out | apply IsS66.alloc | apply IsS66.drewN | apply IsS66.drew | apply IsS66.set_1 | apply IsS66.set_2 | refine IsS66.far ?_ NB0_167.out _) | exact HI0.out)) (by (with_reducible repeat (first | apply Kd.R_alloc | apply Kd.R_drewN | apply Kd.R_drew)); exact (Kd.R_mono (Kd.R_far (p := ⟨gb167, 3, none⟩) (Kd.R_mono HO_3.out (fun k_ hk => (⟨hk, hk.2⟩ : _ ∧ k_ ≠ gb167))) (fun _ hk => hk.2) (.int .i64 t177)) (fun _ h_ => h_.1))) (by decide)) hk (fun _ h => h.2)) (fun _ h => h.1)); have n1_ := Aside0.mk (KeepBut.blk hk (g' := gb167) (o := .cells #[.int .i64 t168, .int .i64 t171, .int .i64 t174, .int .i64 t177, .int .i64 0, .int .i64 0] 47 (0, 0)) (by (with_reducible repeat (first | refine blk_drewN ?_ _ | refine blk_drew ?_ | refine blk_alloc ?_ _)); refine blk_put (cs := #[.int .i64 t168, .int .i64 t171, .int .i64 t174, .int .i64 0, .int .i64 0, .int .i64 0]) ?_ 3 _ rfl; (with_reducible repeat (first | refine blk_drewN ?_ _ | refine blk_drew ?_ | refine blk_alloc ?_ _)); exact BK167.out) NB167_0.out (by simp)); have n2_ := Aside0.mk (KeepBut.trans (by repeat (first | (with_reducible first | exact HK.out | apply KeepBut.set_ | apply keep_drewN | apply keep_drew | apply keep_alloc | refine keep_far ?_ GW167.out _) | exact HK.out)) hk (.inl rfl)); have n3_ := Aside0.mk (hb); have n4_ := Aside0.mk (hi); clear HO_3; clear BK167; clear HK; clear HB; clear HI0; have HO_3 := n0_; have BK167 := n1_; have HK := n2_; have HB := n3_; have HI0 := n4_; clear n0_ n1_ n2_ n3_ n4_; (try clear hb); (try clear hb2); (try clear hk); (try clear hi); have hcz26_0 : w25.cell? ⟨gb167, 0, none⟩ = some (.int .i64 t168) := (blk_cell BK167.out 0).trans rfl; have hcz26_1 : w25.cell? ⟨gb167, 1, none⟩ = some (.int .i64 t171) := (blk_cell BK167.out 1).trans rfl; have hcz26_2 : w25.cell? ⟨gb167, 2, none⟩ = some (.int .i64 t174) := (blk_cell BK167.out 2).trans rfl; have hcz26_3 : w25.cell? ⟨gb167, 3, none⟩ = some (.int .i64 t177) := (blk_cell BK167.out 3).trans rfl; have hcz26_4 : w25.cell? ⟨gb167, 4, none⟩ = some (.int .i64 0) := (blk_cell BK167.out 4).trans rfl; have hcz26_5 : w25.cell? ⟨gb167, 5, none⟩ = some (.int .i64 0) := (blk_cell BK167.out 5).trans rfl; have hfz26_0 := blk_frozen BK167.out 0; have hfz26_1 := blk_frozen BK167.out 1; have hfz26_2 := blk_frozen BK167.out 2; have hfz26_3 := blk_frozen BK167.out 3; have hfz26_4 := blk_frozen BK167.out 4; have hfz26_5 := blk_frozen BK167.out 5) | ((with_reducible refine gate_callee (f := 39) rfl ?_); refine goesL_ (some 37) rfl rfl Try.func39 (by kernel_rfl) rfl #[.pointer (some ⟨g, 0, none⟩)] rfl (by (try simp only [List.map_toArray, List.map_cons, List.map_nil]); first | done | rfl | (simp only [List.length_drop, List.length_take]; rfl)) ?_; (with_reducible refine (astrolaberef16_Reader_Number.calls kj3 g s0_0 t181 t182 t183 t184 t185 w0 _ ?side1 ?side2 A13.out).mono ?_); (case side1 => repeat (first | (with_reducible first | exact HI0.out | apply IsS66.alloc | apply IsS66.drewN | apply IsS66.drew | apply IsS66.set_1 | apply IsS66.set_2 | refine IsS66.far ?_ NB0_167.out _) | exact HI0.out)); (case side2 => repeat (first | (with_reducible first | exact HB.out | apply below_alloc | apply pw_below_drewN | apply below_drew1 | refine below_set ?_ (IsS66.ge HI0.out) | refine below_set ?_ GE167.out) | exact HB.out)); rintro e w27 ⟨rfl, hi, hb, hk⟩; refine ⟨_, rfl, ?_⟩; have n0_ := Aside0.mk (Kd.R_mono (Kd.R_keep (IsS66.apart (show IsS66 w0 _ g s0_0 t181 t182 from by repeat (first | (with_reducible first | exact HI0.out | apply IsS66.alloc | apply IsS66.drewN | apply IsS66.drew | apply IsS66.set_1 | apply IsS66.set_2 | refine IsS66.far ?_ NB0_167.out _) | exact HI0.out)) (by (with_reducible repeat (first | apply Kd.R_alloc | apply Kd.R_drewN | apply Kd.R_drew)); exact (Kd.R_mono (Kd.R_far (p := ⟨gb167, 4, none⟩) (Kd.R_mono HO_3.out (fun k_ hk => (⟨hk, hk.2⟩ : _ ∧ k_ ≠ gb167))) (fun _ hk => hk.2) (.int .i64 t180)) (fun _ h_ => h_.1))) (by decide)) hk (fun _ h => h.2)) (fun _ h => h.1)); have n1_ := Aside0.mk (KeepBut.blk hk (g' := gb167) (o := .cells #[.int .i64 t168, .int .i64 t171, .int .i64 t174, .int .i64 t177, .int .i64 t180, .int .i64 0] 47 (0, 0)) (by (with_reducible repeat (first | refine blk_drewN ?_ _ | refine blk_drew ?_ | refine blk_alloc ?_ _)); refine blk_put (cs := #[.int .i64 t168, .int .i64 t171, .int .i64 t174, .int .i64 t177, .int .i64 0, .int .i64 0]) ?_ 4 _ rfl; (with_reducible repeat (first | refine blk_drewN ?_ _ | refine blk_drew ?_ | refine blk_alloc ?_ _)); exact BK167.out) NB167_0.out (by simp)); have n2_ := Aside0.mk (KeepBut.trans (by repeat (first | (with_reducible first | exact HK.out | apply KeepBut.set_ | apply keep_drewN | apply keep_drew | apply keep_alloc | refine keep_far ?_ GW167.out _) | exact HK.out)) hk (.inl rfl)); have n3_ := Aside0.mk (hb); have n4_ := Aside0.mk (hi); clear HO_3; clear BK167; clear HK; clear HB; clear HI0; have HO_3 := n0_; have BK167 := n1_; have HK := n2_; have HB := n3_; have HI0 := n4_; clear n0_ n1_ n2_ n3_ n4_; (try clear hb); (try clear hb2); (try clear hk); (try clear hi); have hcz28_0 : w27.cell? ⟨gb167, 0, none⟩ = some (.int .i64 t168) := (blk_cell BK167.out 0).trans rfl; have hcz28_1 : w27.cell? ⟨gb167, 1, none⟩ = some (.int .i64 t171) := (blk_cell BK167.out 1).trans rfl; have hcz28_2 : w27.cell? ⟨gb167, 2, none⟩ = some (.int .i64 t174) := (blk_cell BK167.out 2).trans rfl; have hcz28_3 : w27.cell? ⟨gb167, 3, none⟩ = some (.int .i64 t177) := (blk_cell BK167.out 3).trans rfl; have hcz28_4 : w27.cell? ⟨gb167, 4, none⟩ = some (.int .i64 t180) := (blk_cell BK167.out 4).trans rfl; have hcz28_5 : w27.cell? ⟨gb167, 5, none⟩ = some (.int .i64 0) := (blk_cell BK167.out 5).trans rfl; have hfz28_0 := blk_frozen BK167.out 0; have hfz28_1 := blk_frozen BK167.out 1; have hfz28_2 := blk_frozen BK167.out 2; have hfz28_3 := blk_frozen BK167.out 3; have hfz28_4 := blk_frozen BK167.out 4; have hfz28_5 := blk_frozen BK167.out 5))
              have hbk : (w27.setCell ⟨gb167, 5, none⟩ (.int .i64 t183)).heap[gb167]? = some (.cells #[.int .i64 t168, .int .i64 t171, .int .i64 t174, .int .i64 t177, .int .i64 t180, .int .i64 t183] 47 (0, 0)) := blk_put (cs := #[.int .i64 t168, .int .i64 t171, .int .i64 t174, .int .i64 t177, .int .i64 t180, .int .i64 0]) BK167.out 5 _ rfl
              have hi0 : IsS66 w0 (w27.setCell ⟨gb167, 5, none⟩ (.int .i64 t183)) g _ _ _ := IsS66.far HI0.out NB0_167.out _
              have hhb : Below w0.heap.size w0 (w27.setCell ⟨gb167, 5, none⟩ (.int .i64 t183)) := below_set HB.out GE167.out
              have hhk : KeepBut w (w27.setCell ⟨gb167, 5, none⟩ (.int .i64 t183)) g none := keep_far HK.out GW167.out _
              have hho := Kd.R_mono (Kd.R_far (p := ⟨gb167, 5, none⟩) (Kd.R_mono HO_3.out (fun k_ hk => (⟨hk, hk.2⟩ : _ ∧ k_ ≠ gb167))) (fun _ hk => hk.2) (.int .i64 t183)) (fun _ hk => hk.1)
              obtain ⟨w28, hw28⟩ : ∃ W, W = w27.setCell ⟨gb167, 5, none⟩ (.int .i64 t183) := ⟨_, rfl⟩
              rw [← hw28] at hbk hi0 hhb hhk hho ⊢
              clear hw28 HI0 BK167 HB HK HO_3
              have HI0 := Aside0.mk hi0
              have BK167 := Aside0.mk hbk
              have HB := Aside0.mk hhb
              have HK := Aside0.mk hhk
              have HO_3 := Aside0.mk hho
              have l0_ := (blk_cell hbk 0).trans rfl
              have l1_ := (blk_cell hbk 1).trans rfl
              have l2_ := (blk_cell hbk 2).trans rfl
              have l3_ := (blk_cell hbk 3).trans rfl
              have l4_ := (blk_cell hbk 4).trans rfl
              have l5_ := (blk_cell hbk 5).trans rfl
              clear hi0 hbk hhb hhk hho
              go_wp2_with ((with_reducible refine gate_builtin (b := .append) (xs := #[.tmp 39, .tmp 41]) rfl ?_); at_builtin; refine Kd.R_append k47 w.heap.size rfl (.tmp 39) (.tmp 41) 26 47 (.agg #[(.int .i64 0), (.int .i64 0), (.int .i64 0), (.int .i64 0), (.int .i64 0), (.int .i64 0)]) 48 rfl Try.underlying26 info47 rfl (by decide) (by omega) u3 x3_1 (⟨t168, t171, t174, t177, t180, t183⟩ : S47) [.int .i64 t168, .int .i64 t171, .int .i64 t174, .int .i64 t177, .int .i64 t180, .int .i64 t183] (fun k_ => k_ ≠ gb167) (fun _ => False) rfl rfl ?aP (fun _ hk => hk.elim) ?aF ?aO (Below.refl _ _) ?aS ?aL ?_; (case aP => exact k47_mkM _ _ _ (⟨t168, t171, t174, t177, t180, t183⟩ : S47)); (case aF => exact (fun k_ hk => Kd.freshB (g := gb167) BK167.out k_ hk)); (case aO => exact Kd.R_mono HO_3.out (fun _ h => h.2)); (case aS => exact HK.out.1); (case aL => have := LMc14.out; omega); intro v187 w29 ho hb hg hat; rw [← Ny186.out] at ho; have n0_ := Aside0.mk (IsS66.grown HI0.out hg (IsS66.own_ne HI0.out HO_3.out (by decide))); have n2_ := Aside0.mk (below_weaken HB.out HL.out hb); have n3_ := Aside0.mk (KeepBut.trans HK.out (KeepBut.of_grown hg g) (Kd.R_base2 HO_3.out)); have HO188 := Aside0.mk (ho); clear l0_ l1_ l2_ l3_ l4_ l5_ HI0 BK167 HB HK HO_3; have HI0 := n0_; have HB := n2_; have HK := n3_; clear n0_ n2_ n3_; clear ho hb hg hat)
              go_roundg kj3
              case measure => have := HK1.out; have := HJ3.out; omega
              case rel => exact ⟨(y186), (wrap64 (x5_1 + 1)), (t184), (t185), (by first | rfl | (simp; done) | (simp [*]; done)), H', ⟨by have := HK1.out; have := HJ3.out; omega⟩, ⟨by (with_reducible repeat (first | apply Kd.R_alloc | apply Kd.R_drewN | apply Kd.R_drew)); exact Kd.R_mono HO188.out (fun _ hk => trivial)⟩, ⟨by repeat (first | (with_reducible first | exact HI0.out | apply IsS66.alloc | apply IsS66.drewN | apply IsS66.drew | apply IsS66.set_1 | apply IsS66.set_2 | refine IsS66.far ?_ NB0_167.out _) | exact HI0.out)⟩, ⟨by repeat (first | (with_reducible first | exact HK.out | apply KeepBut.set_ | apply keep_drewN | apply keep_drew | apply keep_alloc | refine keep_far ?_ GW167.out _) | exact HK.out)⟩, ⟨by repeat (first | (with_reducible first | exact HB.out | apply below_alloc | apply pw_below_drewN | apply below_drew1 | refine below_set ?_ (IsS66.ge HI0.out) | refine below_set ?_ GE167.out) | exact HB.out)⟩⟩
            · rw [if_neg c14] at H
              exact absurd H (by simp)
          · replace c7 := Bool.eq_false_iff.mpr c7
            subst c7
            have H1 : (some (x3_1, x1001_1, x1002_1)) = some (r1, r2, r3) := by rw [if_neg (show ¬ (false = true) by decide)] at H; exact H
            clear H
            have H := H1
            clear H1
            simp only [Option.some.injEq, Prod.mk.injEq] at H
            obtain ⟨rfl, rfl, rfl⟩ := H
            go_wp2
            go_ret
            exact ⟨_, by first | rfl | (simp [errW_none, errW_some] <;> rfl) | (simp [*, errW_none, errW_some] <;> rfl), by (with_reducible repeat (first | apply Kd.R_alloc | apply Kd.R_drewN | apply Kd.R_drew)); exact HO_3.out, by repeat (first | (with_reducible first | exact HI0.out | apply IsS66.alloc | apply IsS66.drewN | apply IsS66.drew | apply IsS66.set_1 | apply IsS66.set_2) | exact HI0.out), by repeat (first | (with_reducible first | exact HB.out | apply below_alloc | apply pw_below_drewN | apply below_drew1 | refine below_set ?_ (IsS66.ge HI0.out)) | exact HB.out), by repeat (first | (with_reducible first | exact HK.out | apply KeepBut.set_ | apply keep_drewN | apply keep_drew | apply keep_alloc) | exact HK.out)⟩

end Go.Proofs.Ytccolpkjgjjipaa.K
