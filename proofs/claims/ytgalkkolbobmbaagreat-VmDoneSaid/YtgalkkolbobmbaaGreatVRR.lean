/- The Go function of the document, layer 17: Right. -/
import Derived.Test.YtgalkkolbobmbaaGreatVClone
import Derived.Test.YtgalkkolbobmbaaGreatV2
import Derived.Test.YtgalkkolbobmbaaGreatVRW

namespace Go.Proofs.YtgalkkolbobmbaaGreat.V
open Go.RowKit Go.Proofs.YtgalkkolbobmbaaGreatW.PrintWords Go.Proofs.YtgalkkolbobmbaaGreatW.PrintLast Go.Proofs.YtgalkkolbobmbaaGreatW.PrintMore
attribute [local go_sem] max2_int min2_int max_two min_two max_three min_three max_four min_four   -- for this text's walks alone
set_option linter.unusedVariables false
set_option linter.unusedSimpArgs false

/-! ### astrolaberef17_Right: function 22 -/
mutual
def astrolaberef17_Right.l0 : Nat → Int → List Int → List Int → List Int → List Int → Int → Int → List (S49) → List (S49) → List (S49) → List (S49) → Option (Bool)
 | 0, _, _, _, _, _, _, _, _, _, _, _ => none
 | k + 1, x3, x115000, x115001, x115002, x115003, x115004, x115005, x115006, x115007, x115008, x115009 => if x3 < (x115000.length : Int) then (if 0 ≤ x3 then (if (rd x115000 x3) = 1 then (astrolaberef17_Right.l0 k (wrap64 (x3 + 1)) x115000 x115001 x115002 x115003 x115004 x115005 x115006 x115007 x115008 x115009) else (if (rd x115000 x3) = 2 then (astrolaberef17_Right.l0 k (wrap64 (x3 + 1)) x115000 x115001 x115002 x115003 x115004 x115005 x115006 x115007 x115008 x115009) else (some false))) else (none)) else (astrolaberef17_Right.l1 k 0 x115000 x115001 x115002 x115003 x115004 x115005 x115006 x115007 x115008 x115009)
def astrolaberef17_Right.l1 : Nat → Int → List Int → List Int → List Int → List Int → Int → Int → List (S49) → List (S49) → List (S49) → List (S49) → Option (Bool)
 | 0, _, _, _, _, _, _, _, _, _, _, _ => none
 | k + 1, x4, x115000, x115001, x115002, x115003, x115004, x115005, x115006, x115007, x115008, x115009 => if x4 < (x115001.length : Int) then (if 0 ≤ x4 then (if (rd x115001 x4) = 1 then (astrolaberef17_Right.l1 k (wrap64 (x4 + 1)) x115000 x115001 x115002 x115003 x115004 x115005 x115006 x115007 x115008 x115009) else (if (rd x115001 x4) = 2 then (astrolaberef17_Right.l1 k (wrap64 (x4 + 1)) x115000 x115001 x115002 x115003 x115004 x115005 x115006 x115007 x115008 x115009) else (some false))) else (none)) else (if (x115000.length : Int) > 200 then (astrolaberef17_Right.j2 k true x115000 x115001 x115002 x115003 x115004 x115005 x115006 x115007 x115008 x115009) else (if (x115001.length : Int) > 200 then (astrolaberef17_Right.j2 k true x115000 x115001 x115002 x115003 x115004 x115005 x115006 x115007 x115008 x115009) else (if (x115002.length : Int) > 200 then (astrolaberef17_Right.j2 k true x115000 x115001 x115002 x115003 x115004 x115005 x115006 x115007 x115008 x115009) else (if (x115003.length : Int) > 200 then (astrolaberef17_Right.j2 k true x115000 x115001 x115002 x115003 x115004 x115005 x115006 x115007 x115008 x115009) else (if x115004 < 0 then (astrolaberef17_Right.j2 k true x115000 x115001 x115002 x115003 x115004 x115005 x115006 x115007 x115008 x115009) else (if x115004 > 200 then (astrolaberef17_Right.j2 k true x115000 x115001 x115002 x115003 x115004 x115005 x115006 x115007 x115008 x115009) else (if x115005 < 0 then (astrolaberef17_Right.j2 k true x115000 x115001 x115002 x115003 x115004 x115005 x115006 x115007 x115008 x115009) else (astrolaberef17_Right.j2 k (decide (x115005 > 3)) x115000 x115001 x115002 x115003 x115004 x115005 x115006 x115007 x115008 x115009))))))))
def astrolaberef17_Right.j2 : Nat → Bool → List Int → List Int → List Int → List Int → Int → Int → List (S49) → List (S49) → List (S49) → List (S49) → Option (Bool)
 | 0, _, _, _, _, _, _, _, _, _, _, _ => none
 | k + 1, x93, x115000, x115001, x115002, x115003, x115004, x115005, x115006, x115007, x115008, x115009 => if x93 = true then (some false) else ((astrolaberef17_Pieces.f x115000 x115001 x115002 x115003 x115004 x115005 x115006 x115007 x115008 x115009).bind fun t119 => (astrolaberef17_Right.l2 k t119 0 x115000 x115001 x115002 x115003 x115004 x115005 x115006 x115007 x115008 x115009))
def astrolaberef17_Right.l2 : Nat → List (List (S49)) → Int → List Int → List Int → List Int → List Int → Int → Int → List (S49) → List (S49) → List (S49) → List (S49) → Option (Bool)
 | 0, _, _, _, _, _, _, _, _, _, _, _, _ => none
 | k + 1, x5, x6, x115000, x115001, x115002, x115003, x115004, x115005, x115006, x115007, x115008, x115009 => if x6 < 4 then (if 0 ≤ x6 then (if x6 < (x5.length : Int) then (if ((rd_L2 x5 x6).length : Int) > 4000 then (some false) else (astrolaberef17_Right.l2 k x5 (wrap64 (x6 + 1)) x115000 x115001 x115002 x115003 x115004 x115005 x115006 x115007 x115008 x115009)) else (none)) else (none)) else ((astrolaberef17_Wrong.f k x115000 x115001 x115002 x115003 x115004 x115005 x115006 x115007 x115008 x115009).bind fun bt123 => (some (!bt123.2.2)))
end
def astrolaberef17_Right.f (k : Nat) (l0_0 : List Int) (l0_1 : List Int) (l0_2 : List Int) (l0_3 : List Int) (a0_4 : Int) (a0_5 : Int) (l0_6 : List (S49)) (l0_7 : List (S49)) (l0_8 : List (S49)) (l0_9 : List (S49)) : Option (Bool) := astrolaberef17_Right.l0 k 0 l0_0 l0_1 l0_2 l0_3 a0_4 a0_5 l0_6 l0_7 l0_8 l0_9
theorem astrolaberef17_Right.mono_l : ∀ k, (∀ y0 y1 y2 y3 y4 y5 y6 y7 y8 y9 y10, LeO (astrolaberef17_Right.l0 k y0 y1 y2 y3 y4 y5 y6 y7 y8 y9 y10) (astrolaberef17_Right.l0 (k + 1) y0 y1 y2 y3 y4 y5 y6 y7 y8 y9 y10)) ∧ (∀ y0 y1 y2 y3 y4 y5 y6 y7 y8 y9 y10, LeO (astrolaberef17_Right.l1 k y0 y1 y2 y3 y4 y5 y6 y7 y8 y9 y10) (astrolaberef17_Right.l1 (k + 1) y0 y1 y2 y3 y4 y5 y6 y7 y8 y9 y10)) ∧ (∀ y0 y1 y2 y3 y4 y5 y6 y7 y8 y9 y10, LeO (astrolaberef17_Right.j2 k y0 y1 y2 y3 y4 y5 y6 y7 y8 y9 y10) (astrolaberef17_Right.j2 (k + 1) y0 y1 y2 y3 y4 y5 y6 y7 y8 y9 y10)) ∧ (∀ y0 y1 y2 y3 y4 y5 y6 y7 y8 y9 y10 y11, LeO (astrolaberef17_Right.l2 k y0 y1 y2 y3 y4 y5 y6 y7 y8 y9 y10 y11) (astrolaberef17_Right.l2 (k + 1) y0 y1 y2 y3 y4 y5 y6 y7 y8 y9 y10 y11))
 | 0 => ⟨fun _ _ _ _ _ _ _ _ _ _ _ r h => by simp [astrolaberef17_Right.l0] at h, fun _ _ _ _ _ _ _ _ _ _ _ r h => by simp [astrolaberef17_Right.l1] at h, fun _ _ _ _ _ _ _ _ _ _ _ r h => by simp [astrolaberef17_Right.j2] at h, fun _ _ _ _ _ _ _ _ _ _ _ _ r h => by simp [astrolaberef17_Right.l2] at h⟩
 | k + 1 => by
  obtain ⟨ih0, ih1, ih2, ih3⟩ := astrolaberef17_Right.mono_l k
  refine ⟨?_, ?_, ?_, ?_⟩
  · intro y0 y1 y2 y3 y4 y5 y6 y7 y8 y9 y10
    unfold astrolaberef17_Right.l0
    repeat' first
    | (with_reducible exact ih0 _ _ _ _ _ _ _ _ _ _ _)
    | (with_reducible exact ih1 _ _ _ _ _ _ _ _ _ _ _)
    | (with_reducible exact ih2 _ _ _ _ _ _ _ _ _ _ _)
    | (with_reducible exact ih3 _ _ _ _ _ _ _ _ _ _ _ _)
    | (with_reducible exact astrolaberef17_Wrong.mono _ _ _ _ _ _ _ _ _ _ _)
    | (with_reducible exact LeO.refl _)
    | (with_reducible exact LeO.none _)
    | (with_reducible refine LeO.ite ?_ ?_)
    | (with_reducible refine LeO.bind ?_ (fun _ => ?_))
    | exact ih0 _ _ _ _ _ _ _ _ _ _ _
    | exact ih1 _ _ _ _ _ _ _ _ _ _ _
    | exact ih2 _ _ _ _ _ _ _ _ _ _ _
    | exact ih3 _ _ _ _ _ _ _ _ _ _ _ _
    | exact astrolaberef17_Wrong.mono _ _ _ _ _ _ _ _ _ _ _
    | exact LeO.none _
    | refine LeO.ite ?_ ?_
    | refine LeO.bind ?_ (fun _ => ?_)
  · intro y0 y1 y2 y3 y4 y5 y6 y7 y8 y9 y10
    unfold astrolaberef17_Right.l1
    repeat' first
    | (with_reducible exact ih0 _ _ _ _ _ _ _ _ _ _ _)
    | (with_reducible exact ih1 _ _ _ _ _ _ _ _ _ _ _)
    | (with_reducible exact ih2 _ _ _ _ _ _ _ _ _ _ _)
    | (with_reducible exact ih3 _ _ _ _ _ _ _ _ _ _ _ _)
    | (with_reducible exact astrolaberef17_Wrong.mono _ _ _ _ _ _ _ _ _ _ _)
    | (with_reducible exact LeO.refl _)
    | (with_reducible exact LeO.none _)
    | (with_reducible refine LeO.ite ?_ ?_)
    | (with_reducible refine LeO.bind ?_ (fun _ => ?_))
    | exact ih0 _ _ _ _ _ _ _ _ _ _ _
    | exact ih1 _ _ _ _ _ _ _ _ _ _ _
    | exact ih2 _ _ _ _ _ _ _ _ _ _ _
    | exact ih3 _ _ _ _ _ _ _ _ _ _ _ _
    | exact astrolaberef17_Wrong.mono _ _ _ _ _ _ _ _ _ _ _
    | exact LeO.none _
    | refine LeO.ite ?_ ?_
    | refine LeO.bind ?_ (fun _ => ?_)
  · intro y0 y1 y2 y3 y4 y5 y6 y7 y8 y9 y10
    unfold astrolaberef17_Right.j2
    repeat' first
    | (with_reducible exact ih0 _ _ _ _ _ _ _ _ _ _ _)
    | (with_reducible exact ih1 _ _ _ _ _ _ _ _ _ _ _)
    | (with_reducible exact ih2 _ _ _ _ _ _ _ _ _ _ _)
    | (with_reducible exact ih3 _ _ _ _ _ _ _ _ _ _ _ _)
    | (with_reducible exact astrolaberef17_Wrong.mono _ _ _ _ _ _ _ _ _ _ _)
    | (with_reducible exact LeO.refl _)
    | (with_reducible exact LeO.none _)
    | (with_reducible refine LeO.ite ?_ ?_)
    | (with_reducible refine LeO.bind ?_ (fun _ => ?_))
    | exact ih0 _ _ _ _ _ _ _ _ _ _ _
    | exact ih1 _ _ _ _ _ _ _ _ _ _ _
    | exact ih2 _ _ _ _ _ _ _ _ _ _ _
    | exact ih3 _ _ _ _ _ _ _ _ _ _ _ _
    | exact astrolaberef17_Wrong.mono _ _ _ _ _ _ _ _ _ _ _
    | exact LeO.none _
    | refine LeO.ite ?_ ?_
    | refine LeO.bind ?_ (fun _ => ?_)
  · intro y0 y1 y2 y3 y4 y5 y6 y7 y8 y9 y10 y11
    unfold astrolaberef17_Right.l2
    repeat' first
    | (with_reducible exact ih0 _ _ _ _ _ _ _ _ _ _ _)
    | (with_reducible exact ih1 _ _ _ _ _ _ _ _ _ _ _)
    | (with_reducible exact ih2 _ _ _ _ _ _ _ _ _ _ _)
    | (with_reducible exact ih3 _ _ _ _ _ _ _ _ _ _ _ _)
    | (with_reducible exact astrolaberef17_Wrong.mono _ _ _ _ _ _ _ _ _ _ _)
    | (with_reducible exact LeO.refl _)
    | (with_reducible exact LeO.none _)
    | (with_reducible refine LeO.ite ?_ ?_)
    | (with_reducible refine LeO.bind ?_ (fun _ => ?_))
    | exact ih0 _ _ _ _ _ _ _ _ _ _ _
    | exact ih1 _ _ _ _ _ _ _ _ _ _ _
    | exact ih2 _ _ _ _ _ _ _ _ _ _ _
    | exact ih3 _ _ _ _ _ _ _ _ _ _ _ _
    | exact astrolaberef17_Wrong.mono _ _ _ _ _ _ _ _ _ _ _
    | exact LeO.none _
    | refine LeO.ite ?_ ?_
    | refine LeO.bind ?_ (fun _ => ?_)
theorem astrolaberef17_Right.mono : ∀ a0 a1 a2 a3 a4 a5 a6 a7 a8 a9 k, LeO (astrolaberef17_Right.f k a0 a1 a2 a3 a4 a5 a6 a7 a8 a9) (astrolaberef17_Right.f (k + 1) a0 a1 a2 a3 a4 a5 a6 a7 a8 a9) := by
 intro a0 a1 a2 a3 a4 a5 a6 a7 a8 a9 k
 obtain ⟨ih0, ih1, ih2, ih3⟩ := astrolaberef17_Right.mono_l k
 unfold astrolaberef17_Right.f
 repeat' first
  | (with_reducible exact ih0 _ _ _ _ _ _ _ _ _ _ _)
  | (with_reducible exact ih1 _ _ _ _ _ _ _ _ _ _ _)
  | (with_reducible exact ih2 _ _ _ _ _ _ _ _ _ _ _)
  | (with_reducible exact ih3 _ _ _ _ _ _ _ _ _ _ _ _)
  | (with_reducible exact astrolaberef17_Wrong.mono _ _ _ _ _ _ _ _ _ _ _)
  | (with_reducible exact LeO.refl _)
  | (with_reducible exact LeO.none _)
  | (with_reducible refine LeO.ite ?_ ?_)
  | (with_reducible refine LeO.bind ?_ (fun _ => ?_))
  | exact ih0 _ _ _ _ _ _ _ _ _ _ _
  | exact ih1 _ _ _ _ _ _ _ _ _ _ _
  | exact ih2 _ _ _ _ _ _ _ _ _ _ _
  | exact ih3 _ _ _ _ _ _ _ _ _ _ _ _
  | exact astrolaberef17_Wrong.mono _ _ _ _ _ _ _ _ _ _ _
  | exact LeO.none _
  | refine LeO.ite ?_ ?_
  | refine LeO.bind ?_ (fun _ => ?_)
set_option maxHeartbeats 8000000 in
set_option maxRecDepth 100000 in
theorem astrolaberef17_Right.calls (k : Nat) (A0_0 : Option Addr) (c0_0 : Nat) (l0_0 : List Int) (A0_1 : Option Addr) (c0_1 : Nat) (l0_1 : List Int) (A0_2 : Option Addr) (c0_2 : Nat) (l0_2 : List Int) (A0_3 : Option Addr) (c0_3 : Nat) (l0_3 : List Int) (a0_4 : Int) (a0_5 : Int) (A0_6 : Option Addr) (c0_6 : Nat) (l0_6 : List (S49)) (A0_7 : Option Addr) (c0_7 : Nat) (l0_7 : List (S49)) (A0_8 : Option Addr) (c0_8 : Nat) (l0_8 : List (S49)) (A0_9 : Option Addr) (c0_9 : Nat) (l0_9 : List (S49)) (r : Bool) (w : World) (hr0_0 : Kd.C (Kd.int .i64) w A0_0 l0_0.length l0_0) (hc0_0 : l0_0.length ≤ c0_0) (hr0_1 : Kd.C (Kd.int .i64) w A0_1 l0_1.length l0_1) (hc0_1 : l0_1.length ≤ c0_1) (hr0_2 : Kd.C (Kd.int .i64) w A0_2 l0_2.length l0_2) (hc0_2 : l0_2.length ≤ c0_2) (hr0_3 : Kd.C (Kd.int .i64) w A0_3 l0_3.length l0_3) (hc0_3 : l0_3.length ≤ c0_3) (hr0_6 : Kd.C k49 w A0_6 l0_6.length l0_6) (hc0_6 : l0_6.length ≤ c0_6) (hr0_7 : Kd.C k49 w A0_7 l0_7.length l0_7) (hc0_7 : l0_7.length ≤ c0_7) (hr0_8 : Kd.C k49 w A0_8 l0_8.length l0_8) (hc0_8 : l0_8.length ≤ c0_8) (hr0_9 : Kd.C k49 w A0_9 l0_9.length l0_9) (hc0_9 : l0_9.length ≤ c0_9) (h : astrolaberef17_Right.f k l0_0 l0_1 l0_2 l0_3 a0_4 a0_5 l0_6 l0_7 l0_8 l0_9 = some r) :
 Calls Tryz.prog 22 #[.agg #[.slice A0_0 l0_0.length c0_0, .slice A0_1 l0_1.length c0_1, .slice A0_2 l0_2.length c0_2, .slice A0_3 l0_3.length c0_3, .int .i64 a0_4, .int .i64 a0_5, .slice A0_6 l0_6.length c0_6, .slice A0_7 l0_7.length c0_7, .slice A0_8 l0_8.length c0_8, .slice A0_9 l0_9.length c0_9]] w fun e w' => e = .returned (.bool r) ∧ Below w.heap.size w w' := by
 have hu26 := Tryz.underlying26
 have HR0_0 := Aside0.mk hr0_0
 have HC0_0 := Aside0.mk hc0_0
 clear hr0_0 hc0_0
 have HR0_1 := Aside0.mk hr0_1
 have HC0_1 := Aside0.mk hc0_1
 clear hr0_1 hc0_1
 have HR0_2 := Aside0.mk hr0_2
 have HC0_2 := Aside0.mk hc0_2
 clear hr0_2 hc0_2
 have HR0_3 := Aside0.mk hr0_3
 have HC0_3 := Aside0.mk hc0_3
 clear hr0_3 hc0_3
 have HR0_6 := Aside0.mk hr0_6
 have HC0_6 := Aside0.mk hc0_6
 clear hr0_6 hc0_6
 have HR0_7 := Aside0.mk hr0_7
 have HC0_7 := Aside0.mk hc0_7
 clear hr0_7 hc0_7
 have HR0_8 := Aside0.mk hr0_8
 have HC0_8 := Aside0.mk hc0_8
 clear hr0_8 hc0_8
 have HR0_9 := Aside0.mk hr0_9
 have HC0_9 := Aside0.mk hc0_9
 clear hr0_9 hc0_9
 have HB := Aside0.mk (Below.refl w.heap.size w)
 have H : (astrolaberef17_Right.l0 k 0 l0_0 l0_1 l0_2 l0_3 a0_4 a0_5 l0_6 l0_7 l0_8 l0_9) = some r := h
 clear h
 have H' := Aside0.mk H
 clear H
 go_enter Tryz.func22, Tryz.ntmps22
 go_wp2_with (first | ((with_reducible refine gate_dst (N := 1) rfl ?_); (try (refine gate_guard (by rfl) ?_; dsimp only)); refine box_event ?hg (N := 1) ?hd (cs := #[.slice A0_0 l0_0.length c0_0, .slice A0_1 l0_1.length c0_1, .slice A0_2 l0_2.length c0_2, .slice A0_3 l0_3.length c0_3, .int .i64 a0_4, .int .i64 a0_5, .slice A0_6 l0_6.length c0_6, .slice A0_7 l0_7.length c0_7, .slice A0_8 l0_8.length c0_8, .slice A0_9 l0_9.length c0_9]) (t := 26) ?hr ?_; (case hd => rfl); (case hg => rfl); (case hr => first | (go_simp; done) | (go_simp; rfl)); intro gb114 hg w2 hbox hb; have n0_ := Aside0.mk (below_step (by repeat (first | (with_reducible first | exact HB.out | apply below_alloc | apply pw_below_drewN | apply below_drew1) | exact HB.out)) hb); have n1_ := Aside0.mk (hbox); have n2_ := Aside0.mk ((by rw [hg]; exact (below_size (by repeat (first | (with_reducible first | exact HB.out | apply below_alloc | apply pw_below_drewN | apply below_drew1) | exact HB.out))) : w.heap.size ≤ gb114)); have n3_ := Aside0.mk ((by rw [hg]; exact (below_size (by repeat (first | (with_reducible first | exact HB.out | apply below_alloc | apply pw_below_drewN | apply below_drew1) | exact HB.out))) : w.heap.size ≤ gb114)); clear HB; have HB := n0_; have BK114 := n1_; have GW114 := n2_; have GE114 := n3_; clear n0_ n1_ n2_ n3_; clear hb hbox hg))
 go_loopg [3] k (fun kq v3 w' => ∃ (x3_1 : Int), v3 = .int .i64 x3_1 ∧ Aside0 (astrolaberef17_Right.l0 kq x3_1 l0_0 l0_1 l0_2 l0_3 a0_4 a0_5 l0_6 l0_7 l0_8 l0_9 = some r) ∧ Aside0 (kq ≤ k) ∧ Aside0 (w'.heap[gb114]? = some (.cells #[(.slice A0_0 l0_0.length c0_0), (.slice A0_1 l0_1.length c0_1), (.slice A0_2 l0_2.length c0_2), (.slice A0_3 l0_3.length c0_3), .int .i64 a0_4, .int .i64 a0_5, (.slice A0_6 l0_6.length c0_6), (.slice A0_7 l0_7.length c0_7), (.slice A0_8 l0_8.length c0_8), (.slice A0_9 l0_9.length c0_9)] 26 (0, 0))) ∧ Aside0 (Below w.heap.size w w'))
 case atStart => exact ⟨(0), (by first | rfl | (simp; done) | (simp [*]; done)), H', ⟨Nat.le_refl _⟩, ⟨by (with_reducible repeat (first | refine blk_drewN ?_ _ | refine blk_drew ?_ | refine blk_alloc ?_ _)); exact BK114.out⟩, ⟨by repeat (first | (with_reducible first | exact HB.out | apply below_alloc | apply pw_below_drewN | apply below_drew1 | refine below_set ?_ GE114.out) | exact HB.out)⟩⟩
 case round =>
  clear H'
  try clear c2
  try clear p2
  obtain ⟨x3_1, rfl, HA, HK1, BK114, HB⟩ := hrel
  cases gk with
  | zero => exact absurd HA.out (by simp [astrolaberef17_Right.l0])
  | succ k1 =>
   have H := HA.out
   clear HA
   simp only [astrolaberef17_Right.l0] at H
   by_cases c3 : x3_1 < (l0_0.length : Int)
   · rw [if_pos c3] at H
     have c3b0 : decide (x3_1 < (l0_0.length : Int)) = true := decide_eq_true c3
     clear c3
     by_cases c4 : 0 ≤ x3_1
     · rw [if_pos c4] at H
       have c4b0 : decide (0 ≤ x3_1) = true := decide_eq_true c4
       clear c4
       by_cases c5 : (rd l0_0 x3_1) = 1
       · rw [if_pos c5] at H
         have c5b0 : ((rd l0_0 x3_1) == 1) = true := beq_iff_eq.mpr c5
         have c5b1 : ((rd l0_0 x3_1) != 1) = false := bne_eq_false_iff_eq.mpr c5
         clear c5
         have H' := Aside0.mk H
         clear H
         obtain ⟨hcz6_0, hcz6_1, hcz6_2, hcz6_3, hcz6_4, hcz6_5, hcz6_6, hcz6_7, hcz6_8, hcz6_9⟩ := cz10 (w := wr) (g := gb114) BK114.out
         have p115 : 0 ≤ (x3_1 : Int) := of_decide_eq_true (by assumption)
         have q115 : x3_1 < (l0_0.length : Int) := of_decide_eq_true (by assumption)
         obtain ⟨ad115, e115, hx115_0⟩ := Kd.at_int HR0_0.out x3_1 p115 q115
         cases e115
         replace hx115_0 := (HB.out.cell (World.block_lt_of_cell? w _ hx115_0)).trans hx115_0
         replace p115 := eq_true p115
         replace q115 := eq_true q115
         go_wp2
         go_roundg k1
         case measure => have := HK1.out; omega
         case rel => exact ⟨(wrap64 (x3_1 + 1)), (by first | rfl | (simp; done) | (simp [*]; done)), H', ⟨by have := HK1.out; omega⟩, ⟨by (with_reducible repeat (first | refine blk_drewN ?_ _ | refine blk_drew ?_ | refine blk_alloc ?_ _)); exact BK114.out⟩, ⟨by repeat (first | (with_reducible first | exact HB.out | apply below_alloc | apply pw_below_drewN | apply below_drew1 | refine below_set ?_ GE114.out) | exact HB.out)⟩⟩
       · rw [if_neg c5] at H
         have c5b0 : ((rd l0_0 x3_1) == 1) = false := beq_eq_false_iff_ne.mpr c5
         have c5b1 : ((rd l0_0 x3_1) != 1) = true := bne_iff_ne.mpr c5
         by_cases c7 : (rd l0_0 x3_1) = 2
         · rw [if_pos c7] at H
           have c7b0 : ((rd l0_0 x3_1) == 2) = true := beq_iff_eq.mpr c7
           have c7b1 : ((rd l0_0 x3_1) != 2) = false := bne_eq_false_iff_eq.mpr c7
           clear c7
           have H' := Aside0.mk H
           clear H
           obtain ⟨hcz8_0, hcz8_1, hcz8_2, hcz8_3, hcz8_4, hcz8_5, hcz8_6, hcz8_7, hcz8_8, hcz8_9⟩ := cz10 (w := wr) (g := gb114) BK114.out
           have p115 : 0 ≤ (x3_1 : Int) := of_decide_eq_true (by assumption)
           have q115 : x3_1 < (l0_0.length : Int) := of_decide_eq_true (by assumption)
           obtain ⟨ad115, e115, hx115_0⟩ := Kd.at_int HR0_0.out x3_1 p115 q115
           cases e115
           replace hx115_0 := (HB.out.cell (World.block_lt_of_cell? w _ hx115_0)).trans hx115_0
           replace p115 := eq_true p115
           replace q115 := eq_true q115
           have p116 : 0 ≤ (x3_1 : Int) := of_decide_eq_true (by assumption)
           have q116 : x3_1 < (l0_0.length : Int) := of_decide_eq_true (by assumption)
           obtain ⟨ad116, e116, hx116_0⟩ := Kd.at_int HR0_0.out x3_1 p116 q116
           obtain rfl : ad115 = ad116 := (by injection e116)
           replace hx116_0 := (HB.out.cell (World.block_lt_of_cell? w _ hx116_0)).trans hx116_0
           replace p116 := eq_true p116
           replace q116 := eq_true q116
           go_wp2
           go_roundg k1
           case measure => have := HK1.out; omega
           case rel => exact ⟨(wrap64 (x3_1 + 1)), (by first | rfl | (simp; done) | (simp [*]; done)), H', ⟨by have := HK1.out; omega⟩, ⟨by (with_reducible repeat (first | refine blk_drewN ?_ _ | refine blk_drew ?_ | refine blk_alloc ?_ _)); exact BK114.out⟩, ⟨by repeat (first | (with_reducible first | exact HB.out | apply below_alloc | apply pw_below_drewN | apply below_drew1 | refine below_set ?_ GE114.out) | exact HB.out)⟩⟩
         · rw [if_neg c7] at H
           have c7b0 : ((rd l0_0 x3_1) == 2) = false := beq_eq_false_iff_ne.mpr c7
           have c7b1 : ((rd l0_0 x3_1) != 2) = true := bne_iff_ne.mpr c7
           obtain rfl := Option.some.inj H
           obtain ⟨hcz9_0, hcz9_1, hcz9_2, hcz9_3, hcz9_4, hcz9_5, hcz9_6, hcz9_7, hcz9_8, hcz9_9⟩ := cz10 (w := wr) (g := gb114) BK114.out
           have p115 : 0 ≤ (x3_1 : Int) := of_decide_eq_true (by assumption)
           have q115 : x3_1 < (l0_0.length : Int) := of_decide_eq_true (by assumption)
           obtain ⟨ad115, e115, hx115_0⟩ := Kd.at_int HR0_0.out x3_1 p115 q115
           cases e115
           replace hx115_0 := (HB.out.cell (World.block_lt_of_cell? w _ hx115_0)).trans hx115_0
           replace p115 := eq_true p115
           replace q115 := eq_true q115
           have p116 : 0 ≤ (x3_1 : Int) := of_decide_eq_true (by assumption)
           have q116 : x3_1 < (l0_0.length : Int) := of_decide_eq_true (by assumption)
           obtain ⟨ad116, e116, hx116_0⟩ := Kd.at_int HR0_0.out x3_1 p116 q116
           obtain rfl : ad115 = ad116 := (by injection e116)
           replace hx116_0 := (HB.out.cell (World.block_lt_of_cell? w _ hx116_0)).trans hx116_0
           replace p116 := eq_true p116
           replace q116 := eq_true q116
           go_wp2
           go_ret
           exact ⟨by first | rfl | (simp [errW_none, errW_some] <;> rfl) | (simp [*, errW_none, errW_some] <;> rfl), by repeat (first | (with_reducible first | exact HB.out | apply below_alloc | apply pw_below_drewN | apply below_drew1 | refine below_set ?_ GE114.out) | exact HB.out)⟩
     · rw [if_neg c4] at H
       exact absurd H (by simp)
   · rw [if_neg c3] at H
     have c3b0 : decide (x3_1 < (l0_0.length : Int)) = false := decide_eq_false c3
     clear c3
     have H' := Aside0.mk H
     clear H
     obtain ⟨hcz10_0, hcz10_1, hcz10_2, hcz10_3, hcz10_4, hcz10_5, hcz10_6, hcz10_7, hcz10_8, hcz10_9⟩ := cz10 (w := wr) (g := gb114) BK114.out
     go_wp2
     go_loopg [4] k1 (fun kq v4 w' => ∃ (x4_2 : Int), v4 = .int .i64 x4_2 ∧ Aside0 (astrolaberef17_Right.l1 kq x4_2 l0_0 l0_1 l0_2 l0_3 a0_4 a0_5 l0_6 l0_7 l0_8 l0_9 = some r) ∧ Aside0 (kq ≤ k1) ∧ Aside0 (w'.heap[gb114]? = some (.cells #[(.slice A0_0 l0_0.length c0_0), (.slice A0_1 l0_1.length c0_1), (.slice A0_2 l0_2.length c0_2), (.slice A0_3 l0_3.length c0_3), .int .i64 a0_4, .int .i64 a0_5, (.slice A0_6 l0_6.length c0_6), (.slice A0_7 l0_7.length c0_7), (.slice A0_8 l0_8.length c0_8), (.slice A0_9 l0_9.length c0_9)] 26 (0, 0))) ∧ Aside0 (Below w.heap.size w w'))
     case atStart => exact ⟨(0), (by first | rfl | (simp; done) | (simp [*]; done)), H', ⟨Nat.le_refl _⟩, ⟨by (with_reducible repeat (first | refine blk_drewN ?_ _ | refine blk_drew ?_ | refine blk_alloc ?_ _)); exact BK114.out⟩, ⟨by repeat (first | (with_reducible first | exact HB.out | apply below_alloc | apply pw_below_drewN | apply below_drew1 | refine below_set ?_ GE114.out) | exact HB.out)⟩⟩
     case round =>
      clear H'
      try clear p1
      try clear q1
      try clear hx1
      try clear c2
      try clear p2
      try clear c3
      try clear c3b0
      try clear c4
      try clear c4b0
      try clear c5
      try clear c5b0
      try clear c5b1
      try clear p6
      try clear c7
      try clear c7b0
      try clear c7b1
      try clear hcz10_0 hcz10_1 hcz10_2 hcz10_3 hcz10_4 hcz10_5 hcz10_6 hcz10_7 hcz10_8 hcz10_9
      try clear hcz6_0 hcz6_1 hcz6_2 hcz6_3 hcz6_4 hcz6_5 hcz6_6 hcz6_7 hcz6_8 hcz6_9
      try clear hcz8_0 hcz8_1 hcz8_2 hcz8_3 hcz8_4 hcz8_5 hcz8_6 hcz8_7 hcz8_8 hcz8_9
      try clear hcz9_0 hcz9_1 hcz9_2 hcz9_3 hcz9_4 hcz9_5 hcz9_6 hcz9_7 hcz9_8 hcz9_9
      try clear hx115_0
      try clear hx116_0
      try clear p115
      try clear p116
      try clear p2
      try clear q115
      try clear q116
      obtain ⟨x4_2, rfl, HA, HK2, BK114, HB⟩ := hrel
      cases gk with
      | zero => exact absurd HA.out (by simp [astrolaberef17_Right.l1])
      | succ k2 =>
       have H := HA.out
       clear HA
       simp only [astrolaberef17_Right.l1] at H
       by_cases c11 : x4_2 < (l0_1.length : Int)
       · rw [if_pos c11] at H
         have c11b0 : decide (x4_2 < (l0_1.length : Int)) = true := decide_eq_true c11
         clear c11
         by_cases c12 : 0 ≤ x4_2
         · rw [if_pos c12] at H
           have c12b0 : decide (0 ≤ x4_2) = true := decide_eq_true c12
           clear c12
           by_cases c13 : (rd l0_1 x4_2) = 1
           · rw [if_pos c13] at H
             have c13b0 : ((rd l0_1 x4_2) == 1) = true := beq_iff_eq.mpr c13
             have c13b1 : ((rd l0_1 x4_2) != 1) = false := bne_eq_false_iff_eq.mpr c13
             clear c13
             have H' := Aside0.mk H
             clear H
             obtain ⟨hcz14_0, hcz14_1, hcz14_2, hcz14_3, hcz14_4, hcz14_5, hcz14_6, hcz14_7, hcz14_8, hcz14_9⟩ := cz10 (w := wr) (g := gb114) BK114.out
             have p117 : 0 ≤ (x4_2 : Int) := of_decide_eq_true (by assumption)
             have q117 : x4_2 < (l0_1.length : Int) := of_decide_eq_true (by assumption)
             obtain ⟨ad117, e117, hx117_0⟩ := Kd.at_int HR0_1.out x4_2 p117 q117
             cases e117
             replace hx117_0 := (HB.out.cell (World.block_lt_of_cell? w _ hx117_0)).trans hx117_0
             replace p117 := eq_true p117
             replace q117 := eq_true q117
             go_wp2
             go_roundg k2
             case measure => have := HK1.out; have := HK2.out; omega
             case rel => exact ⟨(wrap64 (x4_2 + 1)), (by first | rfl | (simp; done) | (simp [*]; done)), H', ⟨by have := HK1.out; have := HK2.out; omega⟩, ⟨by (with_reducible repeat (first | refine blk_drewN ?_ _ | refine blk_drew ?_ | refine blk_alloc ?_ _)); exact BK114.out⟩, ⟨by repeat (first | (with_reducible first | exact HB.out | apply below_alloc | apply pw_below_drewN | apply below_drew1 | refine below_set ?_ GE114.out) | exact HB.out)⟩⟩
           · rw [if_neg c13] at H
             have c13b0 : ((rd l0_1 x4_2) == 1) = false := beq_eq_false_iff_ne.mpr c13
             have c13b1 : ((rd l0_1 x4_2) != 1) = true := bne_iff_ne.mpr c13
             by_cases c15 : (rd l0_1 x4_2) = 2
             · rw [if_pos c15] at H
               have c15b0 : ((rd l0_1 x4_2) == 2) = true := beq_iff_eq.mpr c15
               have c15b1 : ((rd l0_1 x4_2) != 2) = false := bne_eq_false_iff_eq.mpr c15
               clear c15
               have H' := Aside0.mk H
               clear H
               obtain ⟨hcz16_0, hcz16_1, hcz16_2, hcz16_3, hcz16_4, hcz16_5, hcz16_6, hcz16_7, hcz16_8, hcz16_9⟩ := cz10 (w := wr) (g := gb114) BK114.out
               have p117 : 0 ≤ (x4_2 : Int) := of_decide_eq_true (by assumption)
               have q117 : x4_2 < (l0_1.length : Int) := of_decide_eq_true (by assumption)
               obtain ⟨ad117, e117, hx117_0⟩ := Kd.at_int HR0_1.out x4_2 p117 q117
               cases e117
               replace hx117_0 := (HB.out.cell (World.block_lt_of_cell? w _ hx117_0)).trans hx117_0
               replace p117 := eq_true p117
               replace q117 := eq_true q117
               have p118 : 0 ≤ (x4_2 : Int) := of_decide_eq_true (by assumption)
               have q118 : x4_2 < (l0_1.length : Int) := of_decide_eq_true (by assumption)
               obtain ⟨ad118, e118, hx118_0⟩ := Kd.at_int HR0_1.out x4_2 p118 q118
               obtain rfl : ad117 = ad118 := (by injection e118)
               replace hx118_0 := (HB.out.cell (World.block_lt_of_cell? w _ hx118_0)).trans hx118_0
               replace p118 := eq_true p118
               replace q118 := eq_true q118
               go_wp2
               go_roundg k2
               case measure => have := HK1.out; have := HK2.out; omega
               case rel => exact ⟨(wrap64 (x4_2 + 1)), (by first | rfl | (simp; done) | (simp [*]; done)), H', ⟨by have := HK1.out; have := HK2.out; omega⟩, ⟨by (with_reducible repeat (first | refine blk_drewN ?_ _ | refine blk_drew ?_ | refine blk_alloc ?_ _)); exact BK114.out⟩, ⟨by repeat (first | (with_reducible first | exact HB.out | apply below_alloc | apply pw_below_drewN | apply below_drew1 | refine below_set ?_ GE114.out) | exact HB.out)⟩⟩
             · rw [if_neg c15] at H
               have c15b0 : ((rd l0_1 x4_2) == 2) = false := beq_eq_false_iff_ne.mpr c15
               have c15b1 : ((rd l0_1 x4_2) != 2) = true := bne_iff_ne.mpr c15
               obtain rfl := Option.some.inj H
               obtain ⟨hcz17_0, hcz17_1, hcz17_2, hcz17_3, hcz17_4, hcz17_5, hcz17_6, hcz17_7, hcz17_8, hcz17_9⟩ := cz10 (w := wr) (g := gb114) BK114.out
               have p117 : 0 ≤ (x4_2 : Int) := of_decide_eq_true (by assumption)
               have q117 : x4_2 < (l0_1.length : Int) := of_decide_eq_true (by assumption)
               obtain ⟨ad117, e117, hx117_0⟩ := Kd.at_int HR0_1.out x4_2 p117 q117
               cases e117
               replace hx117_0 := (HB.out.cell (World.block_lt_of_cell? w _ hx117_0)).trans hx117_0
               replace p117 := eq_true p117
               replace q117 := eq_true q117
               have p118 : 0 ≤ (x4_2 : Int) := of_decide_eq_true (by assumption)
               have q118 : x4_2 < (l0_1.length : Int) := of_decide_eq_true (by assumption)
               obtain ⟨ad118, e118, hx118_0⟩ := Kd.at_int HR0_1.out x4_2 p118 q118
               obtain rfl : ad117 = ad118 := (by injection e118)
               replace hx118_0 := (HB.out.cell (World.block_lt_of_cell? w _ hx118_0)).trans hx118_0
               replace p118 := eq_true p118
               replace q118 := eq_true q118
               go_wp2
               go_ret
               exact ⟨by first | rfl | (simp [errW_none, errW_some] <;> rfl) | (simp [*, errW_none, errW_some] <;> rfl), by repeat (first | (with_reducible first | exact HB.out | apply below_alloc | apply pw_below_drewN | apply below_drew1 | refine below_set ?_ GE114.out) | exact HB.out)⟩
         · rw [if_neg c12] at H
           exact absurd H (by simp)
       · rw [if_neg c11] at H
         have c11b0 : decide (x4_2 < (l0_1.length : Int)) = false := decide_eq_false c11
         clear c11
         have HC18 := Aside0.mk H
         clear H
         obtain ⟨hcz19_0, hcz19_1, hcz19_2, hcz19_3, hcz19_4, hcz19_5, hcz19_6, hcz19_7, hcz19_8, hcz19_9⟩ := cz10 (w := wr) (g := gb114) BK114.out
         go_upto_region 11 with (fail)
         go_cut [93] (fun v93 wc => ∃ (kq : Nat) (x93_17 : Bool), v93 = .bool x93_17 ∧ Aside0 (astrolaberef17_Right.j2 kq x93_17 l0_0 l0_1 l0_2 l0_3 a0_4 a0_5 l0_6 l0_7 l0_8 l0_9 = some r) ∧ Aside0 (kq ≤ k2) ∧ Aside0 (wc.heap[gb114]? = some (.cells #[(.slice A0_0 l0_0.length c0_0), (.slice A0_1 l0_1.length c0_1), (.slice A0_2 l0_2.length c0_2), (.slice A0_3 l0_3.length c0_3), .int .i64 a0_4, .int .i64 a0_5, (.slice A0_6 l0_6.length c0_6), (.slice A0_7 l0_7.length c0_7), (.slice A0_8 l0_8.length c0_8), (.slice A0_9 l0_9.length c0_9)] 26 (0, 0))) ∧ Aside0 (Below w.heap.size w wc))
         case first =>
          have H := HC18.out
          clear HC18
          by_cases c20 : (l0_0.length : Int) > 200
          · rw [if_pos c20] at H
            have c20b0 : decide (200 < (l0_0.length : Int)) = true := decide_eq_true c20
            have c20b1 : decide (200 < l0_0.length) = true := decide_eq_true (by omega)
            clear c20
            (first | rw [c20b0] | (simp only [i64_w, i32_w]; rw [c20b0]) | skip)
            have H' := Aside0.mk H
            clear H
            obtain ⟨hcz21_0, hcz21_1, hcz21_2, hcz21_3, hcz21_4, hcz21_5, hcz21_6, hcz21_7, hcz21_8, hcz21_9⟩ := cz10 (w := wr) (g := gb114) BK114.out
            go_wp2
            go_meet
            case rel => exact ⟨_, (true), (by first | rfl | (simp; done) | (simp [*]; done)), H', ⟨by have := HK1.out; have := HK2.out; first | omega | exact Nat.le_refl _⟩, ⟨by (with_reducible repeat (first | refine blk_drewN ?_ _ | refine blk_drew ?_ | refine blk_alloc ?_ _)); exact BK114.out⟩, ⟨by repeat (first | (with_reducible first | exact HB.out | apply below_alloc | apply pw_below_drewN | apply below_drew1 | refine below_set ?_ GE114.out) | exact HB.out)⟩⟩
          · rw [if_neg c20] at H
            have c20b0 : decide (200 < (l0_0.length : Int)) = false := decide_eq_false c20
            have c20b1 : decide (200 < l0_0.length) = false := decide_eq_false (by omega)
            clear c20
            (first | rw [c20b0] | (simp only [i64_w, i32_w]; rw [c20b0]) | skip)
            by_cases c22 : (l0_1.length : Int) > 200
            · rw [if_pos c22] at H
              have c22b0 : decide (200 < (l0_1.length : Int)) = true := decide_eq_true c22
              have c22b1 : decide (200 < l0_1.length) = true := decide_eq_true (by omega)
              clear c22
              have H' := Aside0.mk H
              clear H
              obtain ⟨hcz23_0, hcz23_1, hcz23_2, hcz23_3, hcz23_4, hcz23_5, hcz23_6, hcz23_7, hcz23_8, hcz23_9⟩ := cz10 (w := wr) (g := gb114) BK114.out
              go_wp2
              go_meet
              case rel => exact ⟨_, (true), (by first | rfl | (simp; done) | (simp [*]; done)), H', ⟨by have := HK1.out; have := HK2.out; first | omega | exact Nat.le_refl _⟩, ⟨by (with_reducible repeat (first | refine blk_drewN ?_ _ | refine blk_drew ?_ | refine blk_alloc ?_ _)); exact BK114.out⟩, ⟨by repeat (first | (with_reducible first | exact HB.out | apply below_alloc | apply pw_below_drewN | apply below_drew1 | refine below_set ?_ GE114.out) | exact HB.out)⟩⟩
            · rw [if_neg c22] at H
              have c22b0 : decide (200 < (l0_1.length : Int)) = false := decide_eq_false c22
              have c22b1 : decide (200 < l0_1.length) = false := decide_eq_false (by omega)
              clear c22
              by_cases c24 : (l0_2.length : Int) > 200
              · rw [if_pos c24] at H
                have c24b0 : decide (200 < (l0_2.length : Int)) = true := decide_eq_true c24
                have c24b1 : decide (200 < l0_2.length) = true := decide_eq_true (by omega)
                clear c24
                have H' := Aside0.mk H
                clear H
                obtain ⟨hcz25_0, hcz25_1, hcz25_2, hcz25_3, hcz25_4, hcz25_5, hcz25_6, hcz25_7, hcz25_8, hcz25_9⟩ := cz10 (w := wr) (g := gb114) BK114.out
                go_wp2
                go_meet
                case rel => exact ⟨_, (true), (by first | rfl | (simp; done) | (simp [*]; done)), H', ⟨by have := HK1.out; have := HK2.out; first | omega | exact Nat.le_refl _⟩, ⟨by (with_reducible repeat (first | refine blk_drewN ?_ _ | refine blk_drew ?_ | refine blk_alloc ?_ _)); exact BK114.out⟩, ⟨by repeat (first | (with_reducible first | exact HB.out | apply below_alloc | apply pw_below_drewN | apply below_drew1 | refine below_set ?_ GE114.out) | exact HB.out)⟩⟩
              · rw [if_neg c24] at H
                have c24b0 : decide (200 < (l0_2.length : Int)) = false := decide_eq_false c24
                have c24b1 : decide (200 < l0_2.length) = false := decide_eq_false (by omega)
                clear c24
                by_cases c26 : (l0_3.length : Int) > 200
                · rw [if_pos c26] at H
                  have c26b0 : decide (200 < (l0_3.length : Int)) = true := decide_eq_true c26
                  have c26b1 : decide (200 < l0_3.length) = true := decide_eq_true (by omega)
                  clear c26
                  have H' := Aside0.mk H
                  clear H
                  obtain ⟨hcz27_0, hcz27_1, hcz27_2, hcz27_3, hcz27_4, hcz27_5, hcz27_6, hcz27_7, hcz27_8, hcz27_9⟩ := cz10 (w := wr) (g := gb114) BK114.out
                  go_wp2
                  go_meet
                  case rel => exact ⟨_, (true), (by first | rfl | (simp; done) | (simp [*]; done)), H', ⟨by have := HK1.out; have := HK2.out; first | omega | exact Nat.le_refl _⟩, ⟨by (with_reducible repeat (first | refine blk_drewN ?_ _ | refine blk_drew ?_ | refine blk_alloc ?_ _)); exact BK114.out⟩, ⟨by repeat (first | (with_reducible first | exact HB.out | apply below_alloc | apply pw_below_drewN | apply below_drew1 | refine below_set ?_ GE114.out) | exact HB.out)⟩⟩
                · rw [if_neg c26] at H
                  have c26b0 : decide (200 < (l0_3.length : Int)) = false := decide_eq_false c26
                  have c26b1 : decide (200 < l0_3.length) = false := decide_eq_false (by omega)
                  clear c26
                  by_cases c28 : a0_4 < 0
                  · rw [if_pos c28] at H
                    have c28b0 : decide (a0_4 < 0) = true := decide_eq_true c28
                    clear c28
                    have H' := Aside0.mk H
                    clear H
                    obtain ⟨hcz29_0, hcz29_1, hcz29_2, hcz29_3, hcz29_4, hcz29_5, hcz29_6, hcz29_7, hcz29_8, hcz29_9⟩ := cz10 (w := wr) (g := gb114) BK114.out
                    go_wp2
                    go_meet
                    case rel => exact ⟨_, (true), (by first | rfl | (simp; done) | (simp [*]; done)), H', ⟨by have := HK1.out; have := HK2.out; first | omega | exact Nat.le_refl _⟩, ⟨by (with_reducible repeat (first | refine blk_drewN ?_ _ | refine blk_drew ?_ | refine blk_alloc ?_ _)); exact BK114.out⟩, ⟨by repeat (first | (with_reducible first | exact HB.out | apply below_alloc | apply pw_below_drewN | apply below_drew1 | refine below_set ?_ GE114.out) | exact HB.out)⟩⟩
                  · rw [if_neg c28] at H
                    have c28b0 : decide (a0_4 < 0) = false := decide_eq_false c28
                    clear c28
                    by_cases c30 : a0_4 > 200
                    · rw [if_pos c30] at H
                      have c30b0 : decide (200 < a0_4) = true := decide_eq_true c30
                      clear c30
                      have H' := Aside0.mk H
                      clear H
                      obtain ⟨hcz31_0, hcz31_1, hcz31_2, hcz31_3, hcz31_4, hcz31_5, hcz31_6, hcz31_7, hcz31_8, hcz31_9⟩ := cz10 (w := wr) (g := gb114) BK114.out
                      go_wp2
                      go_meet
                      case rel => exact ⟨_, (true), (by first | rfl | (simp; done) | (simp [*]; done)), H', ⟨by have := HK1.out; have := HK2.out; first | omega | exact Nat.le_refl _⟩, ⟨by (with_reducible repeat (first | refine blk_drewN ?_ _ | refine blk_drew ?_ | refine blk_alloc ?_ _)); exact BK114.out⟩, ⟨by repeat (first | (with_reducible first | exact HB.out | apply below_alloc | apply pw_below_drewN | apply below_drew1 | refine below_set ?_ GE114.out) | exact HB.out)⟩⟩
                    · rw [if_neg c30] at H
                      have c30b0 : decide (200 < a0_4) = false := decide_eq_false c30
                      clear c30
                      by_cases c32 : a0_5 < 0
                      · rw [if_pos c32] at H
                        have c32b0 : decide (a0_5 < 0) = true := decide_eq_true c32
                        clear c32
                        have H' := Aside0.mk H
                        clear H
                        obtain ⟨hcz33_0, hcz33_1, hcz33_2, hcz33_3, hcz33_4, hcz33_5, hcz33_6, hcz33_7, hcz33_8, hcz33_9⟩ := cz10 (w := wr) (g := gb114) BK114.out
                        go_wp2
                        go_meet
                        case rel => exact ⟨_, (true), (by first | rfl | (simp; done) | (simp [*]; done)), H', ⟨by have := HK1.out; have := HK2.out; first | omega | exact Nat.le_refl _⟩, ⟨by (with_reducible repeat (first | refine blk_drewN ?_ _ | refine blk_drew ?_ | refine blk_alloc ?_ _)); exact BK114.out⟩, ⟨by repeat (first | (with_reducible first | exact HB.out | apply below_alloc | apply pw_below_drewN | apply below_drew1 | refine below_set ?_ GE114.out) | exact HB.out)⟩⟩
                      · rw [if_neg c32] at H
                        have c32b0 : decide (a0_5 < 0) = false := decide_eq_false c32
                        clear c32
                        have H' := Aside0.mk H
                        clear H
                        obtain ⟨hcz34_0, hcz34_1, hcz34_2, hcz34_3, hcz34_4, hcz34_5, hcz34_6, hcz34_7, hcz34_8, hcz34_9⟩ := cz10 (w := wr) (g := gb114) BK114.out
                        go_wp2
                        go_meet
                        case rel => exact ⟨_, (decide (a0_5 > 3)), (by first | rfl | (simp; done) | (simp [*]; done)), H', ⟨by have := HK1.out; have := HK2.out; first | omega | exact Nat.le_refl _⟩, ⟨by (with_reducible repeat (first | refine blk_drewN ?_ _ | refine blk_drew ?_ | refine blk_alloc ?_ _)); exact BK114.out⟩, ⟨by repeat (first | (with_reducible first | exact HB.out | apply below_alloc | apply pw_below_drewN | apply below_drew1 | refine below_set ?_ GE114.out) | exact HB.out)⟩⟩
         case rest =>
          clear HC18
          try clear c1
          try clear p1
          try clear q1
          try clear hx1
          try clear c2
          try clear p2
          try clear c3
          try clear c3b0
          try clear c4
          try clear c4b0
          try clear c5
          try clear c5b0
          try clear c5b1
          try clear p6
          try clear c7
          try clear c7b0
          try clear c7b1
          try clear c11
          try clear c11b0
          try clear p11
          try clear q11
          try clear hx11
          try clear c12
          try clear c12b0
          try clear c13
          try clear c13b0
          try clear c13b1
          try clear c15
          try clear c15b0
          try clear c15b1
          try clear c20
          try clear c20b0
          try clear c20b1
          try clear c22
          try clear c22b0
          try clear c22b1
          try clear c24
          try clear c24b0
          try clear c24b1
          try clear c26
          try clear c26b0
          try clear c26b1
          try clear c28
          try clear c28b0
          try clear c30
          try clear c30b0
          try clear c32
          try clear c32b0
          try clear hcz10_0 hcz10_1 hcz10_2 hcz10_3 hcz10_4 hcz10_5 hcz10_6 hcz10_7 hcz10_8 hcz10_9
          try clear hcz14_0 hcz14_1 hcz14_2 hcz14_3 hcz14_4 hcz14_5 hcz14_6 hcz14_7 hcz14_8 hcz14_9
          try clear hcz16_0 hcz16_1 hcz16_2 hcz16_3 hcz16_4 hcz16_5 hcz16_6 hcz16_7 hcz16_8 hcz16_9
          try clear hcz17_0 hcz17_1 hcz17_2 hcz17_3 hcz17_4 hcz17_5 hcz17_6 hcz17_7 hcz17_8 hcz17_9
          try clear hcz19_0 hcz19_1 hcz19_2 hcz19_3 hcz19_4 hcz19_5 hcz19_6 hcz19_7 hcz19_8 hcz19_9
          try clear hcz21_0 hcz21_1 hcz21_2 hcz21_3 hcz21_4 hcz21_5 hcz21_6 hcz21_7 hcz21_8 hcz21_9
          try clear hcz23_0 hcz23_1 hcz23_2 hcz23_3 hcz23_4 hcz23_5 hcz23_6 hcz23_7 hcz23_8 hcz23_9
          try clear hcz25_0 hcz25_1 hcz25_2 hcz25_3 hcz25_4 hcz25_5 hcz25_6 hcz25_7 hcz25_8 hcz25_9
          try clear hcz27_0 hcz27_1 hcz27_2 hcz27_3 hcz27_4 hcz27_5 hcz27_6 hcz27_7 hcz27_8 hcz27_9
          try clear hcz29_0 hcz29_1 hcz29_2 hcz29_3 hcz29_4 hcz29_5 hcz29_6 hcz29_7 hcz29_8 hcz29_9
          try clear hcz31_0 hcz31_1 hcz31_2 hcz31_3 hcz31_4 hcz31_5 hcz31_6 hcz31_7 hcz31_8 hcz31_9
          try clear hcz33_0 hcz33_1 hcz33_2 hcz33_3 hcz33_4 hcz33_5 hcz33_6 hcz33_7 hcz33_8 hcz33_9
          try clear hcz34_0 hcz34_1 hcz34_2 hcz34_3 hcz34_4 hcz34_5 hcz34_6 hcz34_7 hcz34_8 hcz34_9
          try clear hcz6_0 hcz6_1 hcz6_2 hcz6_3 hcz6_4 hcz6_5 hcz6_6 hcz6_7 hcz6_8 hcz6_9
          try clear hcz8_0 hcz8_1 hcz8_2 hcz8_3 hcz8_4 hcz8_5 hcz8_6 hcz8_7 hcz8_8 hcz8_9
          try clear hcz9_0 hcz9_1 hcz9_2 hcz9_3 hcz9_4 hcz9_5 hcz9_6 hcz9_7 hcz9_8 hcz9_9
          try clear hx115_0
          try clear hx116_0
          try clear hx117_0
          try clear hx118_0
          try clear p1
          try clear p115
          try clear p116
          try clear p117
          try clear p118
          try clear p2
          try clear p6
          try clear q1
          try clear q115
          try clear q116
          try clear q117
          try clear q118
          obtain ⟨kq, x93_17, rfl, HA, HJ17, BK114, HB⟩ := hcut
          cases kq with
          | zero => exact absurd HA.out (by simp [astrolaberef17_Right.j2])
          | succ kj17 =>
           have H := HA.out
           clear HA
           simp only [astrolaberef17_Right.j2] at H
           by_cases c35 : x93_17 = true
           · subst c35
             have H1 : (some false) = some r := by rw [if_pos rfl] at H; exact H
             clear H
             have H := H1
             clear H1
             obtain rfl := Option.some.inj H
             go_wp2
             go_ret
             exact ⟨by first | rfl | (simp [errW_none, errW_some] <;> rfl) | (simp [*, errW_none, errW_some] <;> rfl), by repeat (first | (with_reducible first | exact HB.out | apply below_alloc | apply pw_below_drewN | apply below_drew1 | refine below_set ?_ GE114.out) | exact HB.out)⟩
           · replace c35 := Bool.eq_false_iff.mpr c35
             subst c35
             have H1 : ((astrolaberef17_Pieces.f l0_0 l0_1 l0_2 l0_3 a0_4 a0_5 l0_6 l0_7 l0_8 l0_9).bind fun t119 => (astrolaberef17_Right.l2 kj17 t119 0 l0_0 l0_1 l0_2 l0_3 a0_4 a0_5 l0_6 l0_7 l0_8 l0_9)) = some r := by rw [if_neg (show ¬ (false = true) by decide)] at H; exact H
             clear H
             have H := H1
             clear H1
             replace H := Option.bind_eq_some_iff.mp H
             obtain ⟨t119, A360, H⟩ := H
             replace H : (astrolaberef17_Right.l2 kj17 t119 0 l0_0 l0_1 l0_2 l0_3 a0_4 a0_5 l0_6 l0_7 l0_8 l0_9) = some r := H
             have A36 := Aside0.mk A360
             clear A360
             have H' := Aside0.mk H
             clear H
             obtain ⟨hcz37_0, hcz37_1, hcz37_2, hcz37_3, hcz37_4, hcz37_5, hcz37_6, hcz37_7, hcz37_8, hcz37_9⟩ := cz10 (w := wc) (g := gb114) BK114.out
             go_wp2_with (first | ((with_reducible refine gate_callee (f := 61) rfl ?_); refine goesL_ (some 95) rfl rfl Tryz.func61 (by kernel_rfl) rfl #[.agg #[.slice A0_0 l0_0.length c0_0, .slice A0_1 l0_1.length c0_1, .slice A0_2 l0_2.length c0_2, .slice A0_3 l0_3.length c0_3, .int .i64 a0_4, .int .i64 a0_5, .slice A0_6 l0_6.length c0_6, .slice A0_7 l0_7.length c0_7, .slice A0_8 l0_8.length c0_8, .slice A0_9 l0_9.length c0_9]] rfl (by (try simp only [List.map_toArray, List.map_cons, List.map_nil]); first | done | rfl | (simp only [List.length_drop, List.length_take]; rfl)) ?_; (with_reducible refine (astrolaberef17_Pieces.calls _ _ l0_0 _ _ l0_1 _ _ l0_2 _ _ l0_3 a0_4 a0_5 (fun k_ => k_ < w.heap.size) _ _ l0_6 (fun k_ => k_ < w.heap.size) _ _ l0_7 (fun k_ => k_ < w.heap.size) _ _ l0_8 (fun k_ => k_ < w.heap.size) _ _ l0_9 t119 _ ?side1 ?side2 ?side3 ?side4 ?side5 ?side6 ?side7 ?side8 ?side9 ?side10 ?side11 ?side12 A36.out).mono ?_); (case side1 => repeat (first | exact (Kd.C_below HR0_0.out HB.out) | (with_reducible refine Kd.C_alloc ?_ _) | (with_reducible refine Kd.C_drewN ?_ _) | (with_reducible refine Kd.C_drew ?_))); (case side2 => exact HC0_0.out); (case side3 => repeat (first | exact (Kd.C_below HR0_1.out HB.out) | (with_reducible refine Kd.C_alloc ?_ _) | (with_reducible refine Kd.C_drewN ?_ _) | (with_reducible refine Kd.C_drew ?_))); (case side4 => exact HC0_1.out); (case side5 => repeat (first | exact (Kd.C_below HR0_2.out HB.out) | (with_reducible refine Kd.C_alloc ?_ _) | (with_reducible refine Kd.C_drewN ?_ _) | (with_reducible refine Kd.C_drew ?_))); (case side6 => exact HC0_2.out); (case side7 => repeat (first | exact (Kd.C_below HR0_3.out HB.out) | (with_reducible refine Kd.C_alloc ?_ _) | (with_reducible refine Kd.C_drewN ?_ _) | (with_reducible refine Kd.C_drew ?_))); (case side8 => exact HC0_3.out); (case side9 => exact Kd.V_mk HC0_6.out (Kd.F_below (Kd.C_F k49_heap HR0_6.out) (by repeat (first | (with_reducible first | exact HB.out | apply below_alloc | apply pw_below_drewN | apply below_drew1 | refine below_set ?_ GE114.out) | exact HB.out)))); (case side10 => exact Kd.V_mk HC0_7.out (Kd.F_below (Kd.C_F k49_heap HR0_7.out) (by repeat (first | (with_reducible first | exact HB.out | apply below_alloc | apply pw_below_drewN | apply below_drew1 | refine below_set ?_ GE114.out) | exact HB.out)))); (case side11 => exact Kd.V_mk HC0_8.out (Kd.F_below (Kd.C_F k49_heap HR0_8.out) (by repeat (first | (with_reducible first | exact HB.out | apply below_alloc | apply pw_below_drewN | apply below_drew1 | refine below_set ?_ GE114.out) | exact HB.out)))); (case side12 => exact Kd.V_mk HC0_9.out (Kd.F_below (Kd.C_F k49_heap HR0_9.out) (by repeat (first | (with_reducible first | exact HB.out | apply below_alloc | apply pw_below_drewN | apply below_drew1 | refine below_set ?_ GE114.out) | exact HB.out)))); rintro e w38 ⟨v120, rfl, ho0, hb⟩; refine ⟨_, rfl, ?_⟩; have n0_ := Aside0.mk (Kd.N_lower (Kd.N_mono (ok' := fun k_ => k_ ≠ gb114) ho0 (fun k_ hk_ => Or.elim hk_ (fun hs_ => Or.elim hs_ (fun hs_ => fun e_ => Nat.not_le.2 hs_ (by rw [e_]; exact GW114.out)) (fun hs_ => Or.elim hs_ (fun hs_ => fun e_ => Nat.not_le.2 hs_ (by rw [e_]; exact GW114.out)) (fun hs_ => Or.elim hs_ (fun hs_ => fun e_ => Nat.not_le.2 hs_ (by rw [e_]; exact GW114.out)) (fun hs_ => fun e_ => Nat.not_le.2 hs_ (by rw [e_]; exact GW114.out))))) (fun hn_ => (Kd.freshB (g := gb114) (o := .cells #[.slice A0_0 l0_0.length c0_0, .slice A0_1 l0_1.length c0_1, .slice A0_2 l0_2.length c0_2, .slice A0_3 l0_3.length c0_3, .int .i64 a0_4, .int .i64 a0_5, .slice A0_6 l0_6.length c0_6, .slice A0_7 l0_7.length c0_7, .slice A0_8 l0_8.length c0_8, .slice A0_9 l0_9.length c0_9] 26 (0, 0)) (by (with_reducible repeat (first | refine blk_drewN ?_ _ | refine blk_drew ?_ | refine blk_alloc ?_ _)); exact BK114.out) k_ hn_)))) (below_size (by repeat (first | (with_reducible first | exact HB.out | apply below_alloc | apply pw_below_drewN | apply below_drew1 | refine below_set ?_ GE114.out) | exact HB.out)))); have n1_ := Aside0.mk (blk_below (g := gb114) (o := .cells #[.slice A0_0 l0_0.length c0_0, .slice A0_1 l0_1.length c0_1, .slice A0_2 l0_2.length c0_2, .slice A0_3 l0_3.length c0_3, .int .i64 a0_4, .int .i64 a0_5, .slice A0_6 l0_6.length c0_6, .slice A0_7 l0_7.length c0_7, .slice A0_8 l0_8.length c0_8, .slice A0_9 l0_9.length c0_9] 26 (0, 0)) (by (with_reducible repeat (first | refine blk_drewN ?_ _ | refine blk_drew ?_ | refine blk_alloc ?_ _)); exact BK114.out) hb); have n2_ := Aside0.mk (below_step (by repeat (first | (with_reducible first | exact HB.out | apply below_alloc | apply pw_below_drewN | apply below_drew1 | refine below_set ?_ GE114.out) | exact HB.out)) hb); clear BK114; clear HB; have HO121 := n0_; have BK114 := n1_; have HB := n2_; clear n0_ n1_ n2_; (try clear hb); (try clear hb2); (try clear hk); (try clear hi); (try clear ho0)))
             go_loopg [6] kj17 (fun kq v6 w' => ∃ (x6_4 : Int), v6 = .int .i64 x6_4 ∧ Aside0 (astrolaberef17_Right.l2 kq t119 x6_4 l0_0 l0_1 l0_2 l0_3 a0_4 a0_5 l0_6 l0_7 l0_8 l0_9 = some r) ∧ Aside0 (kq ≤ kj17) ∧ Aside0 (Kd.N (Kd.slice 49 k49) 24 w' w.heap.size (fun k_ => k_ ≠ gb114) v120 t119) ∧ Aside0 (w'.heap[gb114]? = some (.cells #[(.slice A0_0 l0_0.length c0_0), (.slice A0_1 l0_1.length c0_1), (.slice A0_2 l0_2.length c0_2), (.slice A0_3 l0_3.length c0_3), .int .i64 a0_4, .int .i64 a0_5, (.slice A0_6 l0_6.length c0_6), (.slice A0_7 l0_7.length c0_7), (.slice A0_8 l0_8.length c0_8), (.slice A0_9 l0_9.length c0_9)] 26 (0, 0))) ∧ Aside0 (Below w.heap.size w w'))
             case atStart => exact ⟨(0), (by first | rfl | (simp; done) | (simp [*]; done)), H', ⟨Nat.le_refl _⟩, ⟨by (with_reducible repeat (first | apply Kd.N_alloc | apply Kd.N_drewN | apply Kd.N_drew)); exact HO121.out⟩, ⟨by (with_reducible repeat (first | refine blk_drewN ?_ _ | refine blk_drew ?_ | refine blk_alloc ?_ _)); exact BK114.out⟩, ⟨by repeat (first | (with_reducible first | exact HB.out | apply below_alloc | apply pw_below_drewN | apply below_drew1 | refine below_set ?_ GE114.out) | exact HB.out)⟩⟩
             case round =>
              clear H'
              try clear c1
              try clear p1
              try clear q1
              try clear hx1
              try clear c2
              try clear p2
              try clear c3
              try clear c3b0
              try clear c4
              try clear c4b0
              try clear c5
              try clear c5b0
              try clear c5b1
              try clear c6
              try clear p6
              try clear c7
              try clear c7b0
              try clear c7b1
              try clear c11
              try clear c11b0
              try clear p11
              try clear q11
              try clear hx11
              try clear c12
              try clear c12b0
              try clear c13
              try clear c13b0
              try clear c13b1
              try clear c15
              try clear c15b0
              try clear c15b1
              try clear c20
              try clear c20b0
              try clear c20b1
              try clear c22
              try clear c22b0
              try clear c22b1
              try clear c24
              try clear c24b0
              try clear c24b1
              try clear c26
              try clear c26b0
              try clear c26b1
              try clear c28
              try clear c28b0
              try clear c30
              try clear c30b0
              try clear c32
              try clear c32b0
              try clear c35
              try clear hcz10_0 hcz10_1 hcz10_2 hcz10_3 hcz10_4 hcz10_5 hcz10_6 hcz10_7 hcz10_8 hcz10_9
              try clear hcz14_0 hcz14_1 hcz14_2 hcz14_3 hcz14_4 hcz14_5 hcz14_6 hcz14_7 hcz14_8 hcz14_9
              try clear hcz16_0 hcz16_1 hcz16_2 hcz16_3 hcz16_4 hcz16_5 hcz16_6 hcz16_7 hcz16_8 hcz16_9
              try clear hcz17_0 hcz17_1 hcz17_2 hcz17_3 hcz17_4 hcz17_5 hcz17_6 hcz17_7 hcz17_8 hcz17_9
              try clear hcz19_0 hcz19_1 hcz19_2 hcz19_3 hcz19_4 hcz19_5 hcz19_6 hcz19_7 hcz19_8 hcz19_9
              try clear hcz21_0 hcz21_1 hcz21_2 hcz21_3 hcz21_4 hcz21_5 hcz21_6 hcz21_7 hcz21_8 hcz21_9
              try clear hcz23_0 hcz23_1 hcz23_2 hcz23_3 hcz23_4 hcz23_5 hcz23_6 hcz23_7 hcz23_8 hcz23_9
              try clear hcz25_0 hcz25_1 hcz25_2 hcz25_3 hcz25_4 hcz25_5 hcz25_6 hcz25_7 hcz25_8 hcz25_9
              try clear hcz27_0 hcz27_1 hcz27_2 hcz27_3 hcz27_4 hcz27_5 hcz27_6 hcz27_7 hcz27_8 hcz27_9
              try clear hcz29_0 hcz29_1 hcz29_2 hcz29_3 hcz29_4 hcz29_5 hcz29_6 hcz29_7 hcz29_8 hcz29_9
              try clear hcz31_0 hcz31_1 hcz31_2 hcz31_3 hcz31_4 hcz31_5 hcz31_6 hcz31_7 hcz31_8 hcz31_9
              try clear hcz33_0 hcz33_1 hcz33_2 hcz33_3 hcz33_4 hcz33_5 hcz33_6 hcz33_7 hcz33_8 hcz33_9
              try clear hcz34_0 hcz34_1 hcz34_2 hcz34_3 hcz34_4 hcz34_5 hcz34_6 hcz34_7 hcz34_8 hcz34_9
              try clear hcz37_0 hcz37_1 hcz37_2 hcz37_3 hcz37_4 hcz37_5 hcz37_6 hcz37_7 hcz37_8 hcz37_9
              try clear hcz6_0 hcz6_1 hcz6_2 hcz6_3 hcz6_4 hcz6_5 hcz6_6 hcz6_7 hcz6_8 hcz6_9
              try clear hcz8_0 hcz8_1 hcz8_2 hcz8_3 hcz8_4 hcz8_5 hcz8_6 hcz8_7 hcz8_8 hcz8_9
              try clear hcz9_0 hcz9_1 hcz9_2 hcz9_3 hcz9_4 hcz9_5 hcz9_6 hcz9_7 hcz9_8 hcz9_9
              try clear hx115_0
              try clear hx116_0
              try clear hx117_0
              try clear hx118_0
              try clear p1
              try clear p11
              try clear p115
              try clear p116
              try clear p117
              try clear p118
              try clear p2
              try clear p6
              try clear q1
              try clear q11
              try clear q115
              try clear q116
              try clear q117
              try clear q118
              obtain ⟨x6_4, rfl, HA, HK4, HO_5, BK114, HB⟩ := hrel
              cases gk with
              | zero => exact absurd HA.out (by simp [astrolaberef17_Right.l2])
              | succ k4 =>
               have H := HA.out
               clear HA
               simp only [astrolaberef17_Right.l2] at H
               by_cases c39 : x6_4 < 4
               · rw [if_pos c39] at H
                 have c39b0 : decide (x6_4 < 4) = true := decide_eq_true c39
                 clear c39
                 by_cases c40 : 0 ≤ x6_4
                 · rw [if_pos c40] at H
                   have c40b0 : decide (0 ≤ x6_4) = true := decide_eq_true c40
                   clear c40
                   by_cases c41 : x6_4 < (t119.length : Int)
                   · rw [if_pos c41] at H
                     have c41b0 : decide (x6_4 < (t119.length : Int)) = true := decide_eq_true c41
                     clear c41
                     by_cases c42 : ((rd_L2 t119 x6_4).length : Int) > 4000
                     · rw [if_pos c42] at H
                       have c42b0 : decide (4000 < ((rd_L2 t119 x6_4).length : Int)) = true := decide_eq_true c42
                       have c42b1 : decide (4000 < (rd_L2 t119 x6_4).length) = true := decide_eq_true (by omega)
                       clear c42
                       obtain rfl := Option.some.inj H
                       obtain ⟨Ao43, co43, eo43⟩ := Kd.N_slice HO_5.out
                       subst eo43
                       have p122 : 0 ≤ (x6_4 : Int) := of_decide_eq_true (by assumption)
                       have q122 : x6_4 < (t119.length : Int) := of_decide_eq_true (by assumption)
                       obtain ⟨ad122, A122_0, c122_0, e122, hx122_0, hl122_0, hi122_0⟩ := at_L2 (Kd.N_reads' HO_5.out).2.2 x6_4 p122 q122
                       cases e122
                       obtain ⟨ce122, hce122, hMe122, hcc122⟩ := Kd.N_get HO_5.out [] x6_4 p122 (by first | exact q122 | exact of_decide_eq_true (by assumption) | (have e_ := (Kd.N_reads' HO_5.out).1; omega))
                       obtain ⟨ua122_0, uc122_0, rfl, ul122_0, ge122_0⟩ := Kd.FK_slice_open hMe122
                       have hv122_0 := hcc122 0 _ rfl
                       rw [Nat.add_zero, show ((Kd.slice 49 k49)).sz = 1 from rfl, Nat.mul_one] at hv122_0
                       replace hv122_0 := Option.some.inj (hv122_0.symm.trans hx122_0)
                       injection hv122_0 with hva_ hvn_ hvc_
                       rw [hva_] at ge122_0
                       rw [hvc_] at ul122_0
                       have HL122_0 := Aside0.mk (show Kd.V k49 49 _ w.heap.size _ _ (rd_L2 t119 x6_4) from Kd.V_mk ul122_0 ge122_0)
                       clear hva_ hvn_ hvc_ ge122_0 ul122_0
                       clear hcc122 hce122
                       have HR122_0 := Aside0.mk hi122_0
                       have HC122_0 := Aside0.mk hl122_0
                       clear hi122_0 hl122_0
                       replace p122 := eq_true p122
                       replace q122 := eq_true q122
                       go_wp2
                       go_ret
                       exact ⟨by first | rfl | (simp [errW_none, errW_some] <;> rfl) | (simp [*, errW_none, errW_some] <;> rfl), by repeat (first | (with_reducible first | exact HB.out | apply below_alloc | apply pw_below_drewN | apply below_drew1 | refine below_set ?_ GE114.out) | exact HB.out)⟩
                     · rw [if_neg c42] at H
                       have c42b0 : decide (4000 < ((rd_L2 t119 x6_4).length : Int)) = false := decide_eq_false c42
                       have c42b1 : decide (4000 < (rd_L2 t119 x6_4).length) = false := decide_eq_false (by omega)
                       clear c42
                       have H' := Aside0.mk H
                       clear H
                       obtain ⟨Ao44, co44, eo44⟩ := Kd.N_slice HO_5.out
                       subst eo44
                       have p122 : 0 ≤ (x6_4 : Int) := of_decide_eq_true (by assumption)
                       have q122 : x6_4 < (t119.length : Int) := of_decide_eq_true (by assumption)
                       obtain ⟨ad122, A122_0, c122_0, e122, hx122_0, hl122_0, hi122_0⟩ := at_L2 (Kd.N_reads' HO_5.out).2.2 x6_4 p122 q122
                       cases e122
                       obtain ⟨ce122, hce122, hMe122, hcc122⟩ := Kd.N_get HO_5.out [] x6_4 p122 (by first | exact q122 | exact of_decide_eq_true (by assumption) | (have e_ := (Kd.N_reads' HO_5.out).1; omega))
                       obtain ⟨ua122_0, uc122_0, rfl, ul122_0, ge122_0⟩ := Kd.FK_slice_open hMe122
                       have hv122_0 := hcc122 0 _ rfl
                       rw [Nat.add_zero, show ((Kd.slice 49 k49)).sz = 1 from rfl, Nat.mul_one] at hv122_0
                       replace hv122_0 := Option.some.inj (hv122_0.symm.trans hx122_0)
                       injection hv122_0 with hva_ hvn_ hvc_
                       rw [hva_] at ge122_0
                       rw [hvc_] at ul122_0
                       have HL122_0 := Aside0.mk (show Kd.V k49 49 _ w.heap.size _ _ (rd_L2 t119 x6_4) from Kd.V_mk ul122_0 ge122_0)
                       clear hva_ hvn_ hvc_ ge122_0 ul122_0
                       clear hcc122 hce122
                       have HR122_0 := Aside0.mk hi122_0
                       have HC122_0 := Aside0.mk hl122_0
                       clear hi122_0 hl122_0
                       replace p122 := eq_true p122
                       replace q122 := eq_true q122
                       go_wp2
                       go_roundg k4
                       case measure => have := HK1.out; have := HK2.out; have := HJ17.out; have := HK4.out; omega
                       case rel => exact ⟨(wrap64 (x6_4 + 1)), (by first | rfl | (simp; done) | (simp [*]; done)), H', ⟨by have := HK1.out; have := HK2.out; have := HJ17.out; have := HK4.out; omega⟩, ⟨by (with_reducible repeat (first | apply Kd.N_alloc | apply Kd.N_drewN | apply Kd.N_drew)); exact HO_5.out⟩, ⟨by (with_reducible repeat (first | refine blk_drewN ?_ _ | refine blk_drew ?_ | refine blk_alloc ?_ _)); exact BK114.out⟩, ⟨by repeat (first | (with_reducible first | exact HB.out | apply below_alloc | apply pw_below_drewN | apply below_drew1 | refine below_set ?_ GE114.out) | exact HB.out)⟩⟩
                   · rw [if_neg c41] at H
                     exact absurd H (by simp)
                 · rw [if_neg c40] at H
                   exact absurd H (by simp)
               · rw [if_neg c39] at H
                 have c39b0 : decide (x6_4 < 4) = false := decide_eq_false c39
                 clear c39
                 replace H := Option.bind_eq_some_iff.mp H
                 obtain ⟨⟨t123, t124, t125⟩, A450, H⟩ := H
                 replace H : (some (!t125)) = some r := H
                 have A45 := Aside0.mk A450
                 clear A450
                 obtain rfl := Option.some.inj H
                 obtain ⟨hcz46_0, hcz46_1, hcz46_2, hcz46_3, hcz46_4, hcz46_5, hcz46_6, hcz46_7, hcz46_8, hcz46_9⟩ := cz10 (w := wr) (g := gb114) BK114.out
                 go_wp2_with (first | ((with_reducible refine gate_callee (f := 62) rfl ?_); refine goesL_ (some 108) rfl rfl Tryz.func62 (by kernel_rfl) rfl #[.agg #[.slice A0_0 l0_0.length c0_0, .slice A0_1 l0_1.length c0_1, .slice A0_2 l0_2.length c0_2, .slice A0_3 l0_3.length c0_3, .int .i64 a0_4, .int .i64 a0_5, .slice A0_6 l0_6.length c0_6, .slice A0_7 l0_7.length c0_7, .slice A0_8 l0_8.length c0_8, .slice A0_9 l0_9.length c0_9]] rfl (by (try simp only [List.map_toArray, List.map_cons, List.map_nil]); first | done | rfl | (simp only [List.length_drop, List.length_take]; rfl)) ?_; (with_reducible refine (astrolaberef17_Wrong.calls k4 _ _ l0_0 _ _ l0_1 _ _ l0_2 _ _ l0_3 a0_4 a0_5 _ _ l0_6 _ _ l0_7 _ _ l0_8 _ _ l0_9 t123 t124 t125 _ ?side1 ?side2 ?side3 ?side4 ?side5 ?side6 ?side7 ?side8 ?side9 ?side10 ?side11 ?side12 ?side13 ?side14 ?side15 ?side16 A45.out).mono ?_); (case side1 => repeat (first | exact (Kd.C_below HR0_0.out HB.out) | (with_reducible refine Kd.C_alloc ?_ _) | (with_reducible refine Kd.C_drewN ?_ _) | (with_reducible refine Kd.C_drew ?_))); (case side2 => exact HC0_0.out); (case side3 => repeat (first | exact (Kd.C_below HR0_1.out HB.out) | (with_reducible refine Kd.C_alloc ?_ _) | (with_reducible refine Kd.C_drewN ?_ _) | (with_reducible refine Kd.C_drew ?_))); (case side4 => exact HC0_1.out); (case side5 => repeat (first | exact (Kd.C_below HR0_2.out HB.out) | (with_reducible refine Kd.C_alloc ?_ _) | (with_reducible refine Kd.C_drewN ?_ _) | (with_reducible refine Kd.C_drew ?_))); (case side6 => exact HC0_2.out); (case side7 => repeat (first | exact (Kd.C_below HR0_3.out HB.out) | (with_reducible refine Kd.C_alloc ?_ _) | (with_reducible refine Kd.C_drewN ?_ _) | (with_reducible refine Kd.C_drew ?_))); (case side8 => exact HC0_3.out); (case side9 => repeat (first | exact (Kd.C_below HR0_6.out HB.out) | (with_reducible refine Kd.C_alloc ?_ _) | (with_reducible refine Kd.C_drewN ?_ _) | (with_reducible refine Kd.C_drew ?_))); (case side10 => exact HC0_6.out); (case side11 => repeat (first | exact (Kd.C_below HR0_7.out HB.out) | (with_reducible refine Kd.C_alloc ?_ _) | (with_reducible refine Kd.C_drewN ?_ _) | (with_reducible refine Kd.C_drew ?_))); (case side12 => exact HC0_7.out); (case side13 => repeat (first | exact (Kd.C_below HR0_8.out HB.out) | (with_reducible refine Kd.C_alloc ?_ _) | (with_reducible refine Kd.C_drewN ?_ _) | (with_reducible refine Kd.C_drew ?_))); (case side14 => exact HC0_8.out); (case side15 => repeat (first | exact (Kd.C_below HR0_9.out HB.out) | (with_reducible refine Kd.C_alloc ?_ _) | (with_reducible refine Kd.C_drewN ?_ _) | (with_reducible refine Kd.C_drew ?_))); (case side16 => exact HC0_9.out); rintro e w47 ⟨rfl, hb⟩; refine ⟨_, rfl, ?_⟩; have n0_ := Aside0.mk (Kd.N_below (by (with_reducible repeat (first | apply Kd.N_alloc | apply Kd.N_drewN | apply Kd.N_drew)); exact HO_5.out) hb); have n1_ := Aside0.mk (blk_below (g := gb114) (o := .cells #[.slice A0_0 l0_0.length c0_0, .slice A0_1 l0_1.length c0_1, .slice A0_2 l0_2.length c0_2, .slice A0_3 l0_3.length c0_3, .int .i64 a0_4, .int .i64 a0_5, .slice A0_6 l0_6.length c0_6, .slice A0_7 l0_7.length c0_7, .slice A0_8 l0_8.length c0_8, .slice A0_9 l0_9.length c0_9] 26 (0, 0)) (by (with_reducible repeat (first | refine blk_drewN ?_ _ | refine blk_drew ?_ | refine blk_alloc ?_ _)); exact BK114.out) hb); have n2_ := Aside0.mk (below_step (by repeat (first | (with_reducible first | exact HB.out | apply below_alloc | apply pw_below_drewN | apply below_drew1 | refine below_set ?_ GE114.out) | exact HB.out)) hb); clear HO_5; clear BK114; clear HB; have HO_5 := n0_; have BK114 := n1_; have HB := n2_; clear n0_ n1_ n2_; (try clear hb); (try clear hb2); (try clear hk); (try clear hi)))
                 go_ret
                 exact ⟨by first | rfl | (simp [errW_none, errW_some] <;> rfl) | (simp [*, errW_none, errW_some] <;> rfl), by repeat (first | (with_reducible first | exact HB.out | apply below_alloc | apply pw_below_drewN | apply below_drew1 | refine below_set ?_ GE114.out) | exact HB.out)⟩

end Go.Proofs.YtgalkkolbobmbaaGreat.V
