/- The Go function of the document, layer 17: Wrong. -/
import Derived.Test.YtgalkkolbobmbaaGreatVClone
import Derived.Test.YtgalkkolbobmbaaGreatV2
import Derived.Test.YtgalkkolbobmbaaGreatVMVer2

namespace Go.Proofs.YtgalkkolbobmbaaGreat.V
open Go.RowKit Go.Proofs.YtgalkkolbobmbaaGreatW.PrintWords Go.Proofs.YtgalkkolbobmbaaGreatW.PrintLast Go.Proofs.YtgalkkolbobmbaaGreatW.PrintMore
attribute [local go_sem] max2_int min2_int max_two min_two max_three min_three max_four min_four   -- for this text's walks alone
set_option linter.unusedVariables false
set_option linter.unusedSimpArgs false

/-! ### astrolaberef17_Wrong: function 62 -/
theorem k49_heap : Kd.Heap k49 := Kd.heap_iso _ (Kd.heap_pair (Kd.heap_int .i64) (Kd.heap_pair (Kd.heap_int .i64) (Kd.heap_pair (Kd.heap_int .i64) (Kd.heap_pair (Kd.heap_int .i64) (Kd.heap_pair (Kd.heap_int .i64) (Kd.heap_int .i64))))))
mutual
def astrolaberef17_Wrong.l0 : Nat → List (List (S49)) → Int → List Int → List Int → List Int → List Int → Int → Int → List (S49) → List (S49) → List (S49) → List (S49) → Option (Int × Int × Bool)
 | 0, _, _, _, _, _, _, _, _, _, _, _, _ => none
 | k + 1, x5, x6, x106000, x106001, x106002, x106003, x106004, x106005, x106006, x106007, x106008, x106009 => if x6 < 4 then (astrolaberef17_Wrong.l1 k x5 x6 0 x106000 x106001 x106002 x106003 x106004 x106005 x106006 x106007 x106008 x106009) else (some (0, 0, false))
def astrolaberef17_Wrong.l1 : Nat → List (List (S49)) → Int → Int → List Int → List Int → List Int → List Int → Int → Int → List (S49) → List (S49) → List (S49) → List (S49) → Option (Int × Int × Bool)
 | 0, _, _, _, _, _, _, _, _, _, _, _, _, _ => none
 | k + 1, x5, x6, x7, x106000, x106001, x106002, x106003, x106004, x106005, x106006, x106007, x106008, x106009 => if 0 ≤ x6 then (if x6 < (x5.length : Int) then (if x7 < ((rd_L2 x5 x6).length : Int) then (if 0 ≤ x7 then ((astrolaberef17_One.f x106000 x106001 x106002 x106003 x106004 x106005 x106006 x106007 x106008 x106009 x6 ((rd_T49 (rd_L2 x5 x6) x7).f0) ((rd_T49 (rd_L2 x5 x6) x7).f1) ((rd_T49 (rd_L2 x5 x6) x7).f2) ((rd_T49 (rd_L2 x5 x6) x7).f3) ((rd_T49 (rd_L2 x5 x6) x7).f4) ((rd_T49 (rd_L2 x5 x6) x7).f5) (wrap64 ((wrap64 (((rd_L2 x5 x6).length : Int) - x7)) - 1))).bind fun t113 => (if t113 = true then (astrolaberef17_Wrong.l1 k x5 x6 (wrap64 (x7 + 1)) x106000 x106001 x106002 x106003 x106004 x106005 x106006 x106007 x106008 x106009) else (some (x6, x7, true)))) else (none)) else (astrolaberef17_Wrong.l0 k x5 (wrap64 (x6 + 1)) x106000 x106001 x106002 x106003 x106004 x106005 x106006 x106007 x106008 x106009)) else (none)) else (none)
end
def astrolaberef17_Wrong.f (k : Nat) (l0_0 : List Int) (l0_1 : List Int) (l0_2 : List Int) (l0_3 : List Int) (a0_4 : Int) (a0_5 : Int) (l0_6 : List (S49)) (l0_7 : List (S49)) (l0_8 : List (S49)) (l0_9 : List (S49)) : Option (Int × Int × Bool) := (astrolaberef17_Pieces.f l0_0 l0_1 l0_2 l0_3 a0_4 a0_5 l0_6 l0_7 l0_8 l0_9).bind fun t106 => (astrolaberef17_Wrong.l0 k t106 0 l0_0 l0_1 l0_2 l0_3 a0_4 a0_5 l0_6 l0_7 l0_8 l0_9)
theorem astrolaberef17_Wrong.mono_l : ∀ k, (∀ y0 y1 y2 y3 y4 y5 y6 y7 y8 y9 y10 y11, LeO (astrolaberef17_Wrong.l0 k y0 y1 y2 y3 y4 y5 y6 y7 y8 y9 y10 y11) (astrolaberef17_Wrong.l0 (k + 1) y0 y1 y2 y3 y4 y5 y6 y7 y8 y9 y10 y11)) ∧ (∀ y0 y1 y2 y3 y4 y5 y6 y7 y8 y9 y10 y11 y12, LeO (astrolaberef17_Wrong.l1 k y0 y1 y2 y3 y4 y5 y6 y7 y8 y9 y10 y11 y12) (astrolaberef17_Wrong.l1 (k + 1) y0 y1 y2 y3 y4 y5 y6 y7 y8 y9 y10 y11 y12))
 | 0 => ⟨fun _ _ _ _ _ _ _ _ _ _ _ _ r h => by simp [astrolaberef17_Wrong.l0] at h, fun _ _ _ _ _ _ _ _ _ _ _ _ _ r h => by simp [astrolaberef17_Wrong.l1] at h⟩
 | k + 1 => by
  obtain ⟨ih0, ih1⟩ := astrolaberef17_Wrong.mono_l k
  refine ⟨?_, ?_⟩
  · intro y0 y1 y2 y3 y4 y5 y6 y7 y8 y9 y10 y11
    unfold astrolaberef17_Wrong.l0
    repeat' first
    | (with_reducible exact ih0 _ _ _ _ _ _ _ _ _ _ _ _)
    | (with_reducible exact ih1 _ _ _ _ _ _ _ _ _ _ _ _ _)
    | (with_reducible exact LeO.refl _)
    | (with_reducible exact LeO.none _)
    | (with_reducible refine LeO.ite ?_ ?_)
    | (with_reducible refine LeO.bind ?_ (fun _ => ?_))
    | exact ih0 _ _ _ _ _ _ _ _ _ _ _ _
    | exact ih1 _ _ _ _ _ _ _ _ _ _ _ _ _
    | exact LeO.none _
    | refine LeO.ite ?_ ?_
    | refine LeO.bind ?_ (fun _ => ?_)
  · intro y0 y1 y2 y3 y4 y5 y6 y7 y8 y9 y10 y11 y12
    unfold astrolaberef17_Wrong.l1
    repeat' first
    | (with_reducible exact ih0 _ _ _ _ _ _ _ _ _ _ _ _)
    | (with_reducible exact ih1 _ _ _ _ _ _ _ _ _ _ _ _ _)
    | (with_reducible exact LeO.refl _)
    | (with_reducible exact LeO.none _)
    | (with_reducible refine LeO.ite ?_ ?_)
    | (with_reducible refine LeO.bind ?_ (fun _ => ?_))
    | exact ih0 _ _ _ _ _ _ _ _ _ _ _ _
    | exact ih1 _ _ _ _ _ _ _ _ _ _ _ _ _
    | exact LeO.none _
    | refine LeO.ite ?_ ?_
    | refine LeO.bind ?_ (fun _ => ?_)
theorem astrolaberef17_Wrong.mono : ∀ a0 a1 a2 a3 a4 a5 a6 a7 a8 a9 k, LeO (astrolaberef17_Wrong.f k a0 a1 a2 a3 a4 a5 a6 a7 a8 a9) (astrolaberef17_Wrong.f (k + 1) a0 a1 a2 a3 a4 a5 a6 a7 a8 a9) := by
 intro a0 a1 a2 a3 a4 a5 a6 a7 a8 a9 k
 obtain ⟨ih0, ih1⟩ := astrolaberef17_Wrong.mono_l k
 unfold astrolaberef17_Wrong.f
 repeat' first
  | (with_reducible exact ih0 _ _ _ _ _ _ _ _ _ _ _ _)
  | (with_reducible exact ih1 _ _ _ _ _ _ _ _ _ _ _ _ _)
  | (with_reducible exact LeO.refl _)
  | (with_reducible exact LeO.none _)
  | (with_reducible refine LeO.ite ?_ ?_)
  | (with_reducible refine LeO.bind ?_ (fun _ => ?_))
  | exact ih0 _ _ _ _ _ _ _ _ _ _ _ _
  | exact ih1 _ _ _ _ _ _ _ _ _ _ _ _ _
  | exact LeO.none _
  | refine LeO.ite ?_ ?_
  | refine LeO.bind ?_ (fun _ => ?_)
def astrolaberef17_Wrong.T8 : Bool × List (List Nat × List Nat) := (true, [([], []), ([], []), ([], []), ([], []), ([2, 3], [2, 3]), ([4], [4]), ([], []), ([5, 6], [5, 6]), ([7], [7]), ([], []), ([], []), ([9, 10], [9, 10]), ([11], [11]), ([12], [12]), ([], []), ([13, 14], [13, 14]), ([15], [15]), ([0, 1, 8, 16], [0, 1, 8, 16]), ([17], [17])])
def astrolaberef17_Wrong.B8 : List Nat := [0, 0, 0, 0, 12, 28, 0, 124, 252, 0, 0, 1536, 3584, 7680, 0, 32256, 65024, 131071, 262143]
theorem astrolaberef17_Wrong.tab8 : rtab .any (opsOf Tryz.f62 8) = astrolaberef17_Wrong.T8 := by kernel_rfl
theorem astrolaberef17_Wrong.bits8 : waitsOk astrolaberef17_Wrong.T8.2 astrolaberef17_Wrong.B8 = true := by kernel_rfl
set_option maxHeartbeats 8000000 in
set_option maxRecDepth 100000 in
theorem astrolaberef17_Wrong.calls (k : Nat) (A0_0 : Option Addr) (c0_0 : Nat) (l0_0 : List Int) (A0_1 : Option Addr) (c0_1 : Nat) (l0_1 : List Int) (A0_2 : Option Addr) (c0_2 : Nat) (l0_2 : List Int) (A0_3 : Option Addr) (c0_3 : Nat) (l0_3 : List Int) (a0_4 : Int) (a0_5 : Int) (A0_6 : Option Addr) (c0_6 : Nat) (l0_6 : List (S49)) (A0_7 : Option Addr) (c0_7 : Nat) (l0_7 : List (S49)) (A0_8 : Option Addr) (c0_8 : Nat) (l0_8 : List (S49)) (A0_9 : Option Addr) (c0_9 : Nat) (l0_9 : List (S49)) (r1 : Int) (r2 : Int) (r3 : Bool) (w : World) (hr0_0 : Kd.C (Kd.int .i64) w A0_0 l0_0.length l0_0) (hc0_0 : l0_0.length ≤ c0_0) (hr0_1 : Kd.C (Kd.int .i64) w A0_1 l0_1.length l0_1) (hc0_1 : l0_1.length ≤ c0_1) (hr0_2 : Kd.C (Kd.int .i64) w A0_2 l0_2.length l0_2) (hc0_2 : l0_2.length ≤ c0_2) (hr0_3 : Kd.C (Kd.int .i64) w A0_3 l0_3.length l0_3) (hc0_3 : l0_3.length ≤ c0_3) (hr0_6 : Kd.C k49 w A0_6 l0_6.length l0_6) (hc0_6 : l0_6.length ≤ c0_6) (hr0_7 : Kd.C k49 w A0_7 l0_7.length l0_7) (hc0_7 : l0_7.length ≤ c0_7) (hr0_8 : Kd.C k49 w A0_8 l0_8.length l0_8) (hc0_8 : l0_8.length ≤ c0_8) (hr0_9 : Kd.C k49 w A0_9 l0_9.length l0_9) (hc0_9 : l0_9.length ≤ c0_9) (h : astrolaberef17_Wrong.f k l0_0 l0_1 l0_2 l0_3 a0_4 a0_5 l0_6 l0_7 l0_8 l0_9 = some (r1, r2, r3)) :
 Calls Tryz.prog 62 #[.agg #[.slice A0_0 l0_0.length c0_0, .slice A0_1 l0_1.length c0_1, .slice A0_2 l0_2.length c0_2, .slice A0_3 l0_3.length c0_3, .int .i64 a0_4, .int .i64 a0_5, .slice A0_6 l0_6.length c0_6, .slice A0_7 l0_7.length c0_7, .slice A0_8 l0_8.length c0_8, .slice A0_9 l0_9.length c0_9]] w fun e w' => e = .returned (.tuple #[.int .i64 r1, .int .i64 r2, .bool r3]) ∧ Below w.heap.size w w' := by
 have hu26 := Tryz.underlying26
 have hu49 := Tryz.underlying49
 have HR0_0 := Aside0.mk hr0_0
 have HC0_0 := Aside0.mk hc0_0
 clear hr0_0 hc0_0
 have HR0_1 := Aside0.mk hr0_1
 have HC0_1 := Aside0.mk hc0_1
 clear hr0_1 hc0_1
 have HR0_2 := Aside0.mk hr0_2
 have HC0_2 := Aside0.mk hc0_2
 clear hr0_2 hc0_2
 have HR0_3 := Aside0.mk hr0_3
 have HC0_3 := Aside0.mk hc0_3
 clear hr0_3 hc0_3
 have HR0_6 := Aside0.mk hr0_6
 have HC0_6 := Aside0.mk hc0_6
 clear hr0_6 hc0_6
 have HR0_7 := Aside0.mk hr0_7
 have HC0_7 := Aside0.mk hc0_7
 clear hr0_7 hc0_7
 have HR0_8 := Aside0.mk hr0_8
 have HC0_8 := Aside0.mk hc0_8
 clear hr0_8 hc0_8
 have HR0_9 := Aside0.mk hr0_9
 have HC0_9 := Aside0.mk hc0_9
 clear hr0_9 hc0_9
 have HB := Aside0.mk (Below.refl w.heap.size w)
 have H : ((astrolaberef17_Pieces.f l0_0 l0_1 l0_2 l0_3 a0_4 a0_5 l0_6 l0_7 l0_8 l0_9).bind fun t106 => (astrolaberef17_Wrong.l0 k t106 0 l0_0 l0_1 l0_2 l0_3 a0_4 a0_5 l0_6 l0_7 l0_8 l0_9)) = some (r1, r2, r3) := h
 clear h
 replace H := Option.bind_eq_some_iff.mp H
 obtain ⟨t106, A20, H⟩ := H
 replace H : (astrolaberef17_Wrong.l0 k t106 0 l0_0 l0_1 l0_2 l0_3 a0_4 a0_5 l0_6 l0_7 l0_8 l0_9) = some (r1, r2, r3) := H
 have A2 := Aside0.mk A20
 clear A20
 have H' := Aside0.mk H
 clear H
 go_enter Tryz.func62, Tryz.ntmps62
 go_wp2_with (first | ((with_reducible refine gate_dst (N := 1) rfl ?_); refine box_event ?hg (N := 1) ?hd (cs := #[.slice A0_0 l0_0.length c0_0, .slice A0_1 l0_1.length c0_1, .slice A0_2 l0_2.length c0_2, .slice A0_3 l0_3.length c0_3, .int .i64 a0_4, .int .i64 a0_5, .slice A0_6 l0_6.length c0_6, .slice A0_7 l0_7.length c0_7, .slice A0_8 l0_8.length c0_8, .slice A0_9 l0_9.length c0_9]) (t := 26) ?hr ?_; (case hd => rfl); (case hg => rfl); (case hr => first | (go_simp; done) | (go_simp; rfl)); intro gb105 hg w3 hbox hb; have n0_ := Aside0.mk (below_step (by repeat (first | (with_reducible first | exact HB.out | apply below_alloc | apply pw_below_drewN | apply below_drew1) | exact HB.out)) hb); have n1_ := Aside0.mk (hbox); have n2_ := Aside0.mk ((by rw [hg]; exact (below_size (by repeat (first | (with_reducible first | exact HB.out | apply below_alloc | apply pw_below_drewN | apply below_drew1) | exact HB.out))) : w.heap.size ≤ gb105)); have n3_ := Aside0.mk ((by rw [hg]; exact (below_size (by repeat (first | (with_reducible first | exact HB.out | apply below_alloc | apply pw_below_drewN | apply below_drew1) | exact HB.out))) : w.heap.size ≤ gb105)); clear HB; have HB := n0_; have BK105 := n1_; have GW105 := n2_; have GE105 := n3_; clear n0_ n1_ n2_ n3_; clear hb hbox hg; have hcz4_0 : w3.cell? ⟨gb105, 0, none⟩ = some (.slice A0_0 l0_0.length c0_0) := (blk_cell BK105.out 0).trans rfl; have hcz4_1 : w3.cell? ⟨gb105, 1, none⟩ = some (.slice A0_1 l0_1.length c0_1) := (blk_cell BK105.out 1).trans rfl; have hcz4_2 : w3.cell? ⟨gb105, 2, none⟩ = some (.slice A0_2 l0_2.length c0_2) := (blk_cell BK105.out 2).trans rfl; have hcz4_3 : w3.cell? ⟨gb105, 3, none⟩ = some (.slice A0_3 l0_3.length c0_3) := (blk_cell BK105.out 3).trans rfl; have hcz4_4 : w3.cell? ⟨gb105, 4, none⟩ = some (.int .i64 a0_4) := (blk_cell BK105.out 4).trans rfl; have hcz4_5 : w3.cell? ⟨gb105, 5, none⟩ = some (.int .i64 a0_5) := (blk_cell BK105.out 5).trans rfl; have hcz4_6 : w3.cell? ⟨gb105, 6, none⟩ = some (.slice A0_6 l0_6.length c0_6) := (blk_cell BK105.out 6).trans rfl; have hcz4_7 : w3.cell? ⟨gb105, 7, none⟩ = some (.slice A0_7 l0_7.length c0_7) := (blk_cell BK105.out 7).trans rfl; have hcz4_8 : w3.cell? ⟨gb105, 8, none⟩ = some (.slice A0_8 l0_8.length c0_8) := (blk_cell BK105.out 8).trans rfl; have hcz4_9 : w3.cell? ⟨gb105, 9, none⟩ = some (.slice A0_9 l0_9.length c0_9) := (blk_cell BK105.out 9).trans rfl) | ((with_reducible refine gate_callee (f := 61) rfl ?_); refine goesL_ (some 9) rfl rfl Tryz.func61 (by kernel_rfl) rfl #[.agg #[.slice A0_0 l0_0.length c0_0, .slice A0_1 l0_1.length c0_1, .slice A0_2 l0_2.length c0_2, .slice A0_3 l0_3.length c0_3, .int .i64 a0_4, .int .i64 a0_5, .slice A0_6 l0_6.length c0_6, .slice A0_7 l0_7.length c0_7, .slice A0_8 l0_8.length c0_8, .slice A0_9 l0_9.length c0_9]] rfl (by (try simp only [List.map_toArray, List.map_cons, List.map_nil]); first | done | rfl | (simp only [List.length_drop, List.length_take]; rfl)) ?_; (with_reducible refine (astrolaberef17_Pieces.calls _ _ l0_0 _ _ l0_1 _ _ l0_2 _ _ l0_3 a0_4 a0_5 (fun k_ => k_ < w.heap.size) _ _ l0_6 (fun k_ => k_ < w.heap.size) _ _ l0_7 (fun k_ => k_ < w.heap.size) _ _ l0_8 (fun k_ => k_ < w.heap.size) _ _ l0_9 t106 _ ?side1 ?side2 ?side3 ?side4 ?side5 ?side6 ?side7 ?side8 ?side9 ?side10 ?side11 ?side12 A2.out).mono ?_); (case side1 => repeat (first | exact (Kd.C_below HR0_0.out HB.out) | (with_reducible refine Kd.C_alloc ?_ _) | (with_reducible refine Kd.C_drewN ?_ _) | (with_reducible refine Kd.C_drew ?_))); (case side2 => exact HC0_0.out); (case side3 => repeat (first | exact (Kd.C_below HR0_1.out HB.out) | (with_reducible refine Kd.C_alloc ?_ _) | (with_reducible refine Kd.C_drewN ?_ _) | (with_reducible refine Kd.C_drew ?_))); (case side4 => exact HC0_1.out); (case side5 => repeat (first | exact (Kd.C_below HR0_2.out HB.out) | (with_reducible refine Kd.C_alloc ?_ _) | (with_reducible refine Kd.C_drewN ?_ _) | (with_reducible refine Kd.C_drew ?_))); (case side6 => exact HC0_2.out); (case side7 => repeat (first | exact (Kd.C_below HR0_3.out HB.out) | (with_reducible refine Kd.C_alloc ?_ _) | (with_reducible refine Kd.C_drewN ?_ _) | (with_reducible refine Kd.C_drew ?_))); (case side8 => exact HC0_3.out); (case side9 => exact Kd.V_mk HC0_6.out (Kd.F_below (Kd.C_F k49_heap HR0_6.out) (by repeat (first | (with_reducible first | exact HB.out | apply below_alloc | apply pw_below_drewN | apply below_drew1 | refine below_set ?_ GE105.out) | exact HB.out)))); (case side10 => exact Kd.V_mk HC0_7.out (Kd.F_below (Kd.C_F k49_heap HR0_7.out) (by repeat (first | (with_reducible first | exact HB.out | apply below_alloc | apply pw_below_drewN | apply below_drew1 | refine below_set ?_ GE105.out) | exact HB.out)))); (case side11 => exact Kd.V_mk HC0_8.out (Kd.F_below (Kd.C_F k49_heap HR0_8.out) (by repeat (first | (with_reducible first | exact HB.out | apply below_alloc | apply pw_below_drewN | apply below_drew1 | refine below_set ?_ GE105.out) | exact HB.out)))); (case side12 => exact Kd.V_mk HC0_9.out (Kd.F_below (Kd.C_F k49_heap HR0_9.out) (by repeat (first | (with_reducible first | exact HB.out | apply below_alloc | apply pw_below_drewN | apply below_drew1 | refine below_set ?_ GE105.out) | exact HB.out)))); rintro e w5 ⟨v107, rfl, ho0, hb⟩; refine ⟨_, rfl, ?_⟩; have n0_ := Aside0.mk (Kd.N_lower (Kd.N_mono (ok' := fun k_ => k_ ≠ gb105) ho0 (fun k_ hk_ => Or.elim hk_ (fun hs_ => Or.elim hs_ (fun hs_ => fun e_ => Nat.not_le.2 hs_ (by rw [e_]; exact GW105.out)) (fun hs_ => Or.elim hs_ (fun hs_ => fun e_ => Nat.not_le.2 hs_ (by rw [e_]; exact GW105.out)) (fun hs_ => Or.elim hs_ (fun hs_ => fun e_ => Nat.not_le.2 hs_ (by rw [e_]; exact GW105.out)) (fun hs_ => fun e_ => Nat.not_le.2 hs_ (by rw [e_]; exact GW105.out))))) (fun hn_ => (Kd.freshB (g := gb105) (o := .cells #[.slice A0_0 l0_0.length c0_0, .slice A0_1 l0_1.length c0_1, .slice A0_2 l0_2.length c0_2, .slice A0_3 l0_3.length c0_3, .int .i64 a0_4, .int .i64 a0_5, .slice A0_6 l0_6.length c0_6, .slice A0_7 l0_7.length c0_7, .slice A0_8 l0_8.length c0_8, .slice A0_9 l0_9.length c0_9] 26 (0, 0)) (by (with_reducible repeat (first | refine blk_drewN ?_ _ | refine blk_drew ?_ | refine blk_alloc ?_ _)); exact BK105.out) k_ hn_)))) (below_size (by repeat (first | (with_reducible first | exact HB.out | apply below_alloc | apply pw_below_drewN | apply below_drew1 | refine below_set ?_ GE105.out) | exact HB.out)))); have n1_ := Aside0.mk (blk_below (g := gb105) (o := .cells #[.slice A0_0 l0_0.length c0_0, .slice A0_1 l0_1.length c0_1, .slice A0_2 l0_2.length c0_2, .slice A0_3 l0_3.length c0_3, .int .i64 a0_4, .int .i64 a0_5, .slice A0_6 l0_6.length c0_6, .slice A0_7 l0_7.length c0_7, .slice A0_8 l0_8.length c0_8, .slice A0_9 l0_9.length c0_9] 26 (0, 0)) (by (with_reducible repeat (first | refine blk_drewN ?_ _ | refine blk_drew ?_ | refine blk_alloc ?_ _)); exact BK105.out) hb); have n2_ := Aside0.mk (below_step (by repeat (first | (with_reducible first | exact HB.out | apply below_alloc | apply pw_below_drewN | apply below_drew1 | refine below_set ?_ GE105.out) | exact HB.out)) hb); clear BK105; clear HB; have HO108 := n0_; have BK105 := n1_; have HB := n2_; clear n0_ n1_ n2_; (try clear hb); (try clear hb2); (try clear hk); (try clear hi); (try clear ho0)))
 go_loopg [6] k (fun kq v6 w' => ∃ (x6_1 : Int), v6 = .int .i64 x6_1 ∧ Aside0 (astrolaberef17_Wrong.l0 kq t106 x6_1 l0_0 l0_1 l0_2 l0_3 a0_4 a0_5 l0_6 l0_7 l0_8 l0_9 = some (r1, r2, r3)) ∧ Aside0 (kq ≤ k) ∧ Aside0 (Kd.N (Kd.slice 49 k49) 24 w' w.heap.size (fun k_ => k_ ≠ gb105) v107 t106) ∧ Aside0 (w'.heap[gb105]? = some (.cells #[(.slice A0_0 l0_0.length c0_0), (.slice A0_1 l0_1.length c0_1), (.slice A0_2 l0_2.length c0_2), (.slice A0_3 l0_3.length c0_3), .int .i64 a0_4, .int .i64 a0_5, (.slice A0_6 l0_6.length c0_6), (.slice A0_7 l0_7.length c0_7), (.slice A0_8 l0_8.length c0_8), (.slice A0_9 l0_9.length c0_9)] 26 (0, 0))) ∧ Aside0 (Below w.heap.size w w'))
 case atStart => exact ⟨(0), (by first | rfl | (simp; done) | (simp [*]; done)), H', ⟨Nat.le_refl _⟩, ⟨by (with_reducible repeat (first | apply Kd.N_alloc | apply Kd.N_drewN | apply Kd.N_drew)); exact HO108.out⟩, ⟨by (with_reducible repeat (first | refine blk_drewN ?_ _ | refine blk_drew ?_ | refine blk_alloc ?_ _)); exact BK105.out⟩, ⟨by repeat (first | (with_reducible first | exact HB.out | apply below_alloc | apply pw_below_drewN | apply below_drew1 | refine below_set ?_ GE105.out) | exact HB.out)⟩⟩
 case round =>
  clear H'
  try clear p2
  try clear hcz4_0 hcz4_1 hcz4_2 hcz4_3 hcz4_4 hcz4_5 hcz4_6 hcz4_7 hcz4_8 hcz4_9
  obtain ⟨x6_1, rfl, HA, HK1, HO_5, BK105, HB⟩ := hrel
  cases gk with
  | zero => exact absurd HA.out (by simp [astrolaberef17_Wrong.l0])
  | succ k1 =>
   have H := HA.out
   clear HA
   simp only [astrolaberef17_Wrong.l0] at H
   by_cases c6 : x6_1 < 4
   · rw [if_pos c6] at H
     have c6b0 : decide (x6_1 < 4) = true := decide_eq_true c6
     clear c6
     have H' := Aside0.mk H
     clear H
     go_wp2
     go_loopg [7] k1 (fun kq v7 w' => ∃ (x7_2 : Int), v7 = .int .i64 x7_2 ∧ Aside0 (astrolaberef17_Wrong.l1 kq t106 x6_1 x7_2 l0_0 l0_1 l0_2 l0_3 a0_4 a0_5 l0_6 l0_7 l0_8 l0_9 = some (r1, r2, r3)) ∧ Aside0 (kq ≤ k1) ∧ Aside0 (Kd.N (Kd.slice 49 k49) 24 w' w.heap.size (fun k_ => k_ ≠ gb105) v107 t106) ∧ Aside0 (w'.heap[gb105]? = some (.cells #[(.slice A0_0 l0_0.length c0_0), (.slice A0_1 l0_1.length c0_1), (.slice A0_2 l0_2.length c0_2), (.slice A0_3 l0_3.length c0_3), .int .i64 a0_4, .int .i64 a0_5, (.slice A0_6 l0_6.length c0_6), (.slice A0_7 l0_7.length c0_7), (.slice A0_8 l0_8.length c0_8), (.slice A0_9 l0_9.length c0_9)] 26 (0, 0))) ∧ Aside0 (Below w.heap.size w w'))
     case atStart => exact ⟨(0), (by first | rfl | (simp; done) | (simp [*]; done)), H', ⟨Nat.le_refl _⟩, ⟨by (with_reducible repeat (first | apply Kd.N_alloc | apply Kd.N_drewN | apply Kd.N_drew)); exact HO_5.out⟩, ⟨by (with_reducible repeat (first | refine blk_drewN ?_ _ | refine blk_drew ?_ | refine blk_alloc ?_ _)); exact BK105.out⟩, ⟨by repeat (first | (with_reducible first | exact HB.out | apply below_alloc | apply pw_below_drewN | apply below_drew1 | refine below_set ?_ GE105.out) | exact HB.out)⟩⟩
     case round =>
      clear H'
      try clear p2
      try clear c6
      try clear c6b0
      try clear hcz4_0 hcz4_1 hcz4_2 hcz4_3 hcz4_4 hcz4_5 hcz4_6 hcz4_7 hcz4_8 hcz4_9
      try clear p2
      obtain ⟨x7_2, rfl, HA, HK2, HO_5, BK105, HB⟩ := hrel
      cases gk with
      | zero => exact absurd HA.out (by simp [astrolaberef17_Wrong.l1])
      | succ k2 =>
       have H := HA.out
       clear HA
       simp only [astrolaberef17_Wrong.l1] at H
       by_cases c7 : 0 ≤ x6_1
       · rw [if_pos c7] at H
         have c7b0 : decide (0 ≤ x6_1) = true := decide_eq_true c7
         clear c7
         by_cases c8 : x6_1 < (t106.length : Int)
         · rw [if_pos c8] at H
           have c8b0 : decide (x6_1 < (t106.length : Int)) = true := decide_eq_true c8
           clear c8
           by_cases c9 : x7_2 < ((rd_L2 t106 x6_1).length : Int)
           · rw [if_pos c9] at H
             have c9b0 : decide (x7_2 < ((rd_L2 t106 x6_1).length : Int)) = true := decide_eq_true c9
             clear c9
             by_cases c10 : 0 ≤ x7_2
             · rw [if_pos c10] at H
               have c10b0 : decide (0 ≤ x7_2) = true := decide_eq_true c10
               clear c10
               replace H := Option.bind_eq_some_iff.mp H
               obtain ⟨t113, A110, H⟩ := H
               replace H : (if t113 = true then (astrolaberef17_Wrong.l1 k2 t106 x6_1 (wrap64 (x7_2 + 1)) l0_0 l0_1 l0_2 l0_3 a0_4 a0_5 l0_6 l0_7 l0_8 l0_9) else (some (x6_1, x7_2, true))) = some (r1, r2, r3) := H
               have A11 := Aside0.mk A110
               clear A110
               by_cases c12 : t113 = true
               · subst c12
                 have H1 : (astrolaberef17_Wrong.l1 k2 t106 x6_1 (wrap64 (x7_2 + 1)) l0_0 l0_1 l0_2 l0_3 a0_4 a0_5 l0_6 l0_7 l0_8 l0_9) = some (r1, r2, r3) := by rw [if_pos rfl] at H; exact H
                 clear H
                 have H := H1
                 clear H1
                 have H' := Aside0.mk H
                 clear H
                 obtain ⟨Ao13, co13, eo13⟩ := Kd.N_slice HO_5.out
                 subst eo13
                 have p109 : 0 ≤ (x6_1 : Int) := of_decide_eq_true (by assumption)
                 have q109 : x6_1 < (t106.length : Int) := of_decide_eq_true (by assumption)
                 obtain ⟨ad109, A109_0, c109_0, e109, hx109_0, hl109_0, hi109_0⟩ := at_L2 (Kd.N_reads' HO_5.out).2.2 x6_1 p109 q109
                 cases e109
                 obtain ⟨ce109, hce109, hMe109, hcc109⟩ := Kd.N_get HO_5.out [] x6_1 p109 (by first | exact q109 | exact of_decide_eq_true (by assumption) | (have e_ := (Kd.N_reads' HO_5.out).1; omega))
                 obtain ⟨ua109_0, uc109_0, rfl, ul109_0, ge109_0⟩ := Kd.FK_slice_open hMe109
                 have hv109_0 := hcc109 0 _ rfl
                 rw [Nat.add_zero, show ((Kd.slice 49 k49)).sz = 1 from rfl, Nat.mul_one] at hv109_0
                 replace hv109_0 := Option.some.inj (hv109_0.symm.trans hx109_0)
                 injection hv109_0 with hva_ hvn_ hvc_
                 rw [hva_] at ge109_0
                 rw [hvc_] at ul109_0
                 have HL109_0 := Aside0.mk (show Kd.V k49 49 _ w.heap.size _ _ (rd_L2 t106 x6_1) from Kd.V_mk ul109_0 ge109_0)
                 clear hva_ hvn_ hvc_ ge109_0 ul109_0
                 clear hcc109 hce109
                 have HR109_0 := Aside0.mk hi109_0
                 have HC109_0 := Aside0.mk hl109_0
                 clear hi109_0 hl109_0
                 replace p109 := eq_true p109
                 replace q109 := eq_true q109
                 try go_wp2
                 have n0_ := Aside0.mk (Kd.N_drew HO_5.out)
                 have n1_ := Aside0.mk (Kd.V_drew HL109_0.out)
                 have n2_ := Aside0.mk (blk_drew BK105.out)
                 have n3_ := Aside0.mk (Kd.C_drew HR109_0.out)
                 have n4_ := Aside0.mk (below_drew1 HB.out)
                 clear HO_5
                 clear HL109_0
                 clear BK105
                 clear HR109_0
                 clear HB
                 have HO_5 := n0_
                 have HL109_0 := n1_
                 have BK105 := n2_
                 have HR109_0 := n3_
                 have HB := n4_
                 clear n0_ n1_ n2_ n3_ n4_
                 have p110 : 0 ≤ (x6_1 : Int) := of_decide_eq_true (by assumption)
                 have q110 : x6_1 < (t106.length : Int) := of_decide_eq_true (by assumption)
                 obtain ⟨ad110, A110_0, c110_0, e110, hx110_0, hl110_0, hi110_0⟩ := at_L2 (Kd.N_reads' HO_5.out).2.2 x6_1 p110 q110
                 obtain rfl : ad109 = ad110 := (by injection e110)
                 obtain ⟨ce110, hce110, hMe110, hcc110⟩ := Kd.N_get HO_5.out [] x6_1 p110 (by first | exact q110 | exact of_decide_eq_true (by assumption) | (have e_ := (Kd.N_reads' HO_5.out).1; omega))
                 obtain ⟨ua110_0, uc110_0, rfl, ul110_0, ge110_0⟩ := Kd.FK_slice_open hMe110
                 have hv110_0 := hcc110 0 _ rfl
                 rw [Nat.add_zero, show ((Kd.slice 49 k49)).sz = 1 from rfl, Nat.mul_one] at hv110_0
                 replace hv110_0 := Option.some.inj (hv110_0.symm.trans hx110_0)
                 injection hv110_0 with hva_ hvn_ hvc_
                 rw [hva_] at ge110_0
                 rw [hvc_] at ul110_0
                 have HL110_0 := Aside0.mk (show Kd.V k49 49 _ w.heap.size _ _ (rd_L2 t106 x6_1) from Kd.V_mk ul110_0 ge110_0)
                 clear hva_ hvn_ hvc_ ge110_0 ul110_0
                 clear hcc110 hce110
                 have HR110_0 := Aside0.mk hi110_0
                 have HC110_0 := Aside0.mk hl110_0
                 clear hi110_0 hl110_0
                 replace p110 := eq_true p110
                 replace q110 := eq_true q110
                 have p111 : 0 ≤ (x7_2 : Int) := of_decide_eq_true (by assumption)
                 have q111 : x7_2 < ((rd_L2 t106 x6_1).length : Int) := of_decide_eq_true (by assumption)
                 obtain ⟨ad111, e111, hx111_0, hx111_1, hx111_2, hx111_3, hx111_4, hx111_5⟩ := at_T49 (by repeat (first | (with_reducible exact HR110_0.out) | (with_reducible refine Kd.C_alloc ?_ _) | (with_reducible refine Kd.C_drewN ?_ _) | (with_reducible refine Kd.C_drew ?_) | exact HR110_0.out)) x7_2 p111 q111
                 cases e111
                 replace p111 := eq_true p111
                 replace q111 := eq_true q111
                 have p112 : 0 ≤ (x6_1 : Int) := of_decide_eq_true (by assumption)
                 have q112 : x6_1 < (t106.length : Int) := of_decide_eq_true (by assumption)
                 obtain ⟨ad112, A112_0, c112_0, e112, hx112_0, hl112_0, hi112_0⟩ := at_L2 (Kd.N_reads' HO_5.out).2.2 x6_1 p112 q112
                 obtain rfl : ad109 = ad112 := (by injection e112)
                 obtain ⟨ce112, hce112, hMe112, hcc112⟩ := Kd.N_get HO_5.out [] x6_1 p112 (by first | exact q112 | exact of_decide_eq_true (by assumption) | (have e_ := (Kd.N_reads' HO_5.out).1; omega))
                 obtain ⟨ua112_0, uc112_0, rfl, ul112_0, ge112_0⟩ := Kd.FK_slice_open hMe112
                 have hv112_0 := hcc112 0 _ rfl
                 rw [Nat.add_zero, show ((Kd.slice 49 k49)).sz = 1 from rfl, Nat.mul_one] at hv112_0
                 replace hv112_0 := Option.some.inj (hv112_0.symm.trans hx112_0)
                 injection hv112_0 with hva_ hvn_ hvc_
                 rw [hva_] at ge112_0
                 rw [hvc_] at ul112_0
                 have HL112_0 := Aside0.mk (show Kd.V k49 49 _ w.heap.size _ _ (rd_L2 t106 x6_1) from Kd.V_mk ul112_0 ge112_0)
                 clear hva_ hvn_ hvc_ ge112_0 ul112_0
                 clear hcc112 hce112
                 have HR112_0 := Aside0.mk hi112_0
                 have HC112_0 := Aside0.mk hl112_0
                 clear hi112_0 hl112_0
                 replace p112 := eq_true p112
                 replace q112 := eq_true q112
                 have ea_ := Option.some.inj (hx110_0.symm.trans hx112_0)
                 injection ea_ with ea_ en_ ec_
                 subst ea_
                 subst ec_
                 clear en_
                 refine start_ (n := 19) (S := fun w' => w'.cell? ⟨gb105, 0, none⟩ = some (.slice A0_0 l0_0.length c0_0) ∧ w'.cell? ⟨gb105, 1, none⟩ = some (.slice A0_1 l0_1.length c0_1) ∧ w'.cell? ⟨gb105, 2, none⟩ = some (.slice A0_2 l0_2.length c0_2) ∧ w'.cell? ⟨gb105, 3, none⟩ = some (.slice A0_3 l0_3.length c0_3) ∧ w'.cell? ⟨gb105, 4, none⟩ = some (.int .i64 a0_4) ∧ w'.cell? ⟨gb105, 5, none⟩ = some (.int .i64 a0_5) ∧ w'.cell? ⟨gb105, 6, none⟩ = some (.slice A0_6 l0_6.length c0_6) ∧ w'.cell? ⟨gb105, 7, none⟩ = some (.slice A0_7 l0_7.length c0_7) ∧ w'.cell? ⟨gb105, 8, none⟩ = some (.slice A0_8 l0_8.length c0_8) ∧ w'.cell? ⟨gb105, 9, none⟩ = some (.slice A0_9 l0_9.length c0_9) ∧ w'.cell? (ad109.add (x6_1).toNat) = some (.slice (some ad111) (rd_L2 t106 x6_1).length c110_0) ∧ w'.cell? (ad111.add ((x7_2).toNat * 6)) = some (.int .i64 ((rd_T49 (rd_L2 t106 x6_1) x7_2).f0)) ∧ w'.cell? ⟨(ad111.add ((x7_2).toNat * 6)).block, (ad111.add ((x7_2).toNat * 6)).off + 1, none⟩ = some (.int .i64 ((rd_T49 (rd_L2 t106 x6_1) x7_2).f1)) ∧ w'.cell? ⟨(ad111.add ((x7_2).toNat * 6)).block, (ad111.add ((x7_2).toNat * 6)).off + 2, none⟩ = some (.int .i64 ((rd_T49 (rd_L2 t106 x6_1) x7_2).f2)) ∧ w'.cell? ⟨(ad111.add ((x7_2).toNat * 6)).block, (ad111.add ((x7_2).toNat * 6)).off + 3, none⟩ = some (.int .i64 ((rd_T49 (rd_L2 t106 x6_1) x7_2).f3)) ∧ w'.cell? ⟨(ad111.add ((x7_2).toNat * 6)).block, (ad111.add ((x7_2).toNat * 6)).off + 4, none⟩ = some (.int .i64 ((rd_T49 (rd_L2 t106 x6_1) x7_2).f4)) ∧ w'.cell? ⟨(ad111.add ((x7_2).toNat * 6)).block, (ad111.add ((x7_2).toNat * 6)).off + 5, none⟩ = some (.int .i64 ((rd_T49 (rd_L2 t106 x6_1) x7_2).f5)) ∧ w'.cell? (ad109.add (x6_1).toNat) = some (.slice (some ad111) (rd_L2 t106 x6_1).length c110_0)) (ds := []) (Array.replicate 19 false) (by kernel_rfl) rfl rfl ⟨(blk_cell BK105.out 0).trans rfl, (blk_cell BK105.out 1).trans rfl, (blk_cell BK105.out 2).trans rfl, (blk_cell BK105.out 3).trans rfl, (blk_cell BK105.out 4).trans rfl, (blk_cell BK105.out 5).trans rfl, (blk_cell BK105.out 6).trans rfl, (blk_cell BK105.out 7).trans rfl, (blk_cell BK105.out 8).trans rfl, (blk_cell BK105.out 9).trans rfl, hx110_0, hx111_0, hx111_1, hx111_2, hx111_3, hx111_4, hx111_5, hx112_0⟩ (fun hHeld => ?_); refine with_tabW astrolaberef17_Wrong.tab8 astrolaberef17_Wrong.bits8 (fun HT_ HW_ => ?_)
                 generalize wr.drew = w14 at HO_5 HL109_0 BK105 HR109_0 HB HL110_0 HL112_0 HR110_0 HR112_0 hx110_0 hx111_0 hx111_1 hx111_2 hx111_3 hx111_4 hx111_5 hx112_0 hHeld ⊢
                 refine pu HT_ 1 24 rfl rfl (by kernel_rfl) (fun _ _ _ h => h) (by rfl) (by intro w'; go_simp; with_reducible rfl) (by simp only [Act.put, sA, sB, sC, i64_w, i32_w]; rfl) ?_
                 refine pu HT_ 2 25 rfl rfl (by kernel_rfl) (fun _ _ _ h => h) (by rfl) (by intro w'; go_simp; with_reducible rfl) (by simp only [Act.put, sA, sB, sC, i64_w, i32_w]; rfl) ?_
                 refine pu HT_ 3 26 rfl rfl (by kernel_rfl) (fun _ _ _ h => h) (by rfl) (by intro w'; go_simp; with_reducible rfl) (by simp only [Act.put, sA, sB, sC, i64_w, i32_w]; rfl) ?_
                 refine pu HT_ 4 27 rfl rfl (by kernel_rfl) (fun _ _ _ h => h) (by rfl) (by intro w'; go_simp; with_reducible rfl) (by simp only [Act.put, sA, sB, sC, i64_w, i32_w]; rfl) ?_
                 refine pu HT_ 6 29 rfl rfl (by kernel_rfl) (fun _ _ _ h => h) (by rfl) (by intro w'; go_simp; with_reducible rfl) (by simp only [Act.put, sA, sB, sC, i64_w, i32_w]; rfl) ?_
                 refine pu HT_ 9 32 rfl rfl (by kernel_rfl) (fun _ _ _ h => h) (by rfl) (by intro w'; go_simp; with_reducible rfl) (by simp only [Act.put, sA, sB, sC, i64_w, i32_w]; rfl) ?_
                 refine pu HT_ 10 33 rfl rfl (by kernel_rfl) (fun _ _ _ h => h) (by rfl) (by intro w'; go_simp; with_reducible rfl) (by simp only [Act.put, sA, sB, sC, i64_w, i32_w]; rfl) ?_
                 refine pu HT_ 11 34 rfl rfl (by kernel_rfl) (fun _ _ _ h => h) (by rfl) (by intro w'; go_simp; with_reducible rfl) (by simp only [Act.put, sA, sB, sC, i64_w, i32_w]; rfl) ?_
                 refine pu HT_ 14 37 rfl rfl (by kernel_rfl) (fun _ _ _ h => h) (by rfl) (by intro w'; go_simp; with_reducible rfl) (by simp only [Act.put, sA, sB, sC, i64_w, i32_w]; rfl) ?_
                 refine tk HT_ HW_ hHeld 0 23 rfl rfl (by kernel_rfl) (fun _ _ _ h => h) (by rfl) (by rintro w' ⟨s0, s1, s2, s3, s4, s5, s6, s7, s8, s9, s10, s11, s12, s13, s14, s15, s16, s17⟩; go_simp; with_reducible rfl) (by simp only [Act.put, sA, sB, sC, i64_w, i32_w]; rfl) ?_
                 refine tk HT_ HW_ hHeld 5 28 rfl rfl (by kernel_rfl) (fun _ _ _ h => h) (by rfl) (by rintro w' ⟨s0, s1, s2, s3, s4, s5, s6, s7, s8, s9, s10, s11, s12, s13, s14, s15, s16, s17⟩; go_simp; with_reducible rfl) (by simp only [Act.put, sA, sB, sC, i64_w, i32_w]; rfl) ?_
                 refine pu HT_ 7 30 rfl rfl (by kernel_rfl) (fun _ _ _ h => h) (by rfl) (by intro w'; go_simp; with_reducible rfl) (by simp only [Act.put, sA, sB, sC, i64_w, i32_w]; rfl) ?_
                 refine tk HT_ HW_ hHeld 8 31 rfl rfl (by kernel_rfl) (fun _ _ _ h => h) (by rfl) (by rintro w' ⟨s0, s1, s2, s3, s4, s5, s6, s7, s8, s9, s10, s11, s12, s13, s14, s15, s16, s17⟩; go_simp; with_reducible rfl) (by simp only [Act.put, sA, sB, sC, i64_w, i32_w]; rfl) ?_
                 refine tk HT_ HW_ hHeld 12 35 rfl rfl (by kernel_rfl) (fun _ _ _ h => h) (by rfl) (by rintro w' ⟨s0, s1, s2, s3, s4, s5, s6, s7, s8, s9, s10, s11, s12, s13, s14, s15, s16, s17⟩; go_simp; with_reducible rfl) (by simp only [Act.put, sA, sB, sC, i64_w, i32_w]; rfl) ?_
                 refine pu HT_ 13 36 rfl rfl (by kernel_rfl) (fun _ _ _ h => h) (by rfl) (by intro w'; go_simp; with_reducible rfl) (by simp only [Act.put, sA, sB, sC, i64_w, i32_w]; rfl) ?_
                 refine pu HT_ 15 38 rfl rfl (by kernel_rfl) (fun _ _ _ h => h) (by rfl) (by intro w'; go_simp; with_reducible rfl) (by simp only [Act.put, sA, sB, sC, i64_w, i32_w]; rfl) ?_
                 refine pu HT_ 16 39 rfl rfl (by kernel_rfl) (fun _ _ _ h => h) (by rfl) (by intro w'; go_simp; with_reducible rfl) (by simp only [Act.put, sA, sB, sC, i64_w, i32_w]; rfl) ?_
                 refine on1 HT_ 17 (some 40) rfl rfl (by kernel_rfl) (by decide) (fun K hK => ?_)
                 refine goes_ Tryz.func101 (by kernel_rfl) rfl #[.agg #[.slice A0_0 l0_0.length c0_0, .slice A0_1 l0_1.length c0_1, .slice A0_2 l0_2.length c0_2, .slice A0_3 l0_3.length c0_3, .int .i64 a0_4, .int .i64 a0_5, .slice A0_6 l0_6.length c0_6, .slice A0_7 l0_7.length c0_7, .slice A0_8 l0_8.length c0_8, .slice A0_9 l0_9.length c0_9], .int .i64 x6_1, .agg #[.int .i64 ((rd_T49 (rd_L2 t106 x6_1) x7_2).f0), .int .i64 ((rd_T49 (rd_L2 t106 x6_1) x7_2).f1), .int .i64 ((rd_T49 (rd_L2 t106 x6_1) x7_2).f2), .int .i64 ((rd_T49 (rd_L2 t106 x6_1) x7_2).f3), .int .i64 ((rd_T49 (rd_L2 t106 x6_1) x7_2).f4), .int .i64 ((rd_T49 (rd_L2 t106 x6_1) x7_2).f5)], .int .i64 (wrap64 ((wrap64 (((rd_L2 t106 x6_1).length : Int) - x7_2)) - 1))] (by rfl) rfl rfl (by (try simp only [List.map_toArray, List.map_cons, List.map_nil]); first | done | rfl | (simp only [List.length_drop, List.length_take]; rfl)) ?_
                 with_reducible refine (astrolaberef17_One.calls _ _ l0_0 _ _ l0_1 _ _ l0_2 _ _ l0_3 a0_4 a0_5 _ _ l0_6 _ _ l0_7 _ _ l0_8 _ _ l0_9 x6_1 ((rd_T49 (rd_L2 t106 x6_1) x7_2).f0) ((rd_T49 (rd_L2 t106 x6_1) x7_2).f1) ((rd_T49 (rd_L2 t106 x6_1) x7_2).f2) ((rd_T49 (rd_L2 t106 x6_1) x7_2).f3) ((rd_T49 (rd_L2 t106 x6_1) x7_2).f4) ((rd_T49 (rd_L2 t106 x6_1) x7_2).f5) (wrap64 ((wrap64 (((rd_L2 t106 x6_1).length : Int) - x7_2)) - 1)) true _ ?side1 ?side2 ?side3 ?side4 ?side5 ?side6 ?side7 ?side8 ?side9 ?side10 ?side11 ?side12 ?side13 ?side14 ?side15 ?side16 A11.out).mono ?_
                 (case side1 => repeat (first | exact (Kd.C_below HR0_0.out HB.out) | (with_reducible refine Kd.C_alloc ?_ _) | (with_reducible refine Kd.C_drewN ?_ _) | (with_reducible refine Kd.C_drew ?_)))
                 (case side2 => exact HC0_0.out)
                 (case side3 => repeat (first | exact (Kd.C_below HR0_1.out HB.out) | (with_reducible refine Kd.C_alloc ?_ _) | (with_reducible refine Kd.C_drewN ?_ _) | (with_reducible refine Kd.C_drew ?_)))
                 (case side4 => exact HC0_1.out)
                 (case side5 => repeat (first | exact (Kd.C_below HR0_2.out HB.out) | (with_reducible refine Kd.C_alloc ?_ _) | (with_reducible refine Kd.C_drewN ?_ _) | (with_reducible refine Kd.C_drew ?_)))
                 (case side6 => exact HC0_2.out)
                 (case side7 => repeat (first | exact (Kd.C_below HR0_3.out HB.out) | (with_reducible refine Kd.C_alloc ?_ _) | (with_reducible refine Kd.C_drewN ?_ _) | (with_reducible refine Kd.C_drew ?_)))
                 (case side8 => exact HC0_3.out)
                 (case side9 => repeat (first | exact (Kd.C_below HR0_6.out HB.out) | (with_reducible refine Kd.C_alloc ?_ _) | (with_reducible refine Kd.C_drewN ?_ _) | (with_reducible refine Kd.C_drew ?_)))
                 (case side10 => exact HC0_6.out)
                 (case side11 => repeat (first | exact (Kd.C_below HR0_7.out HB.out) | (with_reducible refine Kd.C_alloc ?_ _) | (with_reducible refine Kd.C_drewN ?_ _) | (with_reducible refine Kd.C_drew ?_)))
                 (case side12 => exact HC0_7.out)
                 (case side13 => repeat (first | exact (Kd.C_below HR0_8.out HB.out) | (with_reducible refine Kd.C_alloc ?_ _) | (with_reducible refine Kd.C_drewN ?_ _) | (with_reducible refine Kd.C_drew ?_)))
                 (case side14 => exact HC0_8.out)
                 (case side15 => repeat (first | exact (Kd.C_below HR0_9.out HB.out) | (with_reducible refine Kd.C_alloc ?_ _) | (with_reducible refine Kd.C_drewN ?_ _) | (with_reducible refine Kd.C_drew ?_)))
                 (case side16 => exact HC0_9.out)
                 rintro e w15 ⟨rfl, hb⟩
                 have HS10_ := (hb.cell (World.block_lt_of_cell? _ _ (hHeld.2.2.2.2.2.2.2.2.2.2.1))).trans (hHeld.2.2.2.2.2.2.2.2.2.2.1)
                 have HS11_ := (hb.cell (World.block_lt_of_cell? _ _ (hHeld.2.2.2.2.2.2.2.2.2.2.2.1))).trans (hHeld.2.2.2.2.2.2.2.2.2.2.2.1)
                 have HS12_ := (hb.cell (World.block_lt_of_cell? _ _ (hHeld.2.2.2.2.2.2.2.2.2.2.2.2.1))).trans (hHeld.2.2.2.2.2.2.2.2.2.2.2.2.1)
                 have HS13_ := (hb.cell (World.block_lt_of_cell? _ _ (hHeld.2.2.2.2.2.2.2.2.2.2.2.2.2.1))).trans (hHeld.2.2.2.2.2.2.2.2.2.2.2.2.2.1)
                 have HS14_ := (hb.cell (World.block_lt_of_cell? _ _ (hHeld.2.2.2.2.2.2.2.2.2.2.2.2.2.2.1))).trans (hHeld.2.2.2.2.2.2.2.2.2.2.2.2.2.2.1)
                 have HS15_ := (hb.cell (World.block_lt_of_cell? _ _ (hHeld.2.2.2.2.2.2.2.2.2.2.2.2.2.2.2.1))).trans (hHeld.2.2.2.2.2.2.2.2.2.2.2.2.2.2.2.1)
                 have HS16_ := (hb.cell (World.block_lt_of_cell? _ _ (hHeld.2.2.2.2.2.2.2.2.2.2.2.2.2.2.2.2.1))).trans (hHeld.2.2.2.2.2.2.2.2.2.2.2.2.2.2.2.2.1)
                 have HS17_ := (hb.cell (World.block_lt_of_cell? _ _ (hHeld.2.2.2.2.2.2.2.2.2.2.2.2.2.2.2.2.2))).trans (hHeld.2.2.2.2.2.2.2.2.2.2.2.2.2.2.2.2.2)
                 refine ⟨_, rfl, ?_⟩
                 have n0_ := Aside0.mk (Kd.N_below (by (with_reducible repeat (first | apply Kd.N_alloc | apply Kd.N_drewN | apply Kd.N_drew)); exact HO_5.out) hb)
                 have n1_ := Aside0.mk (Kd.V_below (by (with_reducible repeat (first | apply Kd.V_alloc | apply Kd.V_drewN | apply Kd.V_drew)); exact HL109_0.out) hb)
                 have n2_ := Aside0.mk (Kd.V_below (by (with_reducible repeat (first | apply Kd.V_alloc | apply Kd.V_drewN | apply Kd.V_drew)); exact HL110_0.out) hb)
                 have n3_ := Aside0.mk (Kd.V_below (by (with_reducible repeat (first | apply Kd.V_alloc | apply Kd.V_drewN | apply Kd.V_drew)); exact HL112_0.out) hb)
                 have n4_ := Aside0.mk (blk_below (g := gb105) (o := .cells #[.slice A0_0 l0_0.length c0_0, .slice A0_1 l0_1.length c0_1, .slice A0_2 l0_2.length c0_2, .slice A0_3 l0_3.length c0_3, .int .i64 a0_4, .int .i64 a0_5, .slice A0_6 l0_6.length c0_6, .slice A0_7 l0_7.length c0_7, .slice A0_8 l0_8.length c0_8, .slice A0_9 l0_9.length c0_9] 26 (0, 0)) (by (with_reducible repeat (first | refine blk_drewN ?_ _ | refine blk_drew ?_ | refine blk_alloc ?_ _)); exact BK105.out) hb)
                 have n5_ := Aside0.mk (Kd.C_below (by repeat (first | (with_reducible exact HR109_0.out) | (with_reducible refine Kd.C_alloc ?_ _) | (with_reducible refine Kd.C_drewN ?_ _) | (with_reducible refine Kd.C_drew ?_) | exact HR109_0.out)) hb)
                 have n6_ := Aside0.mk (Kd.C_below (by repeat (first | (with_reducible exact HR110_0.out) | (with_reducible refine Kd.C_alloc ?_ _) | (with_reducible refine Kd.C_drewN ?_ _) | (with_reducible refine Kd.C_drew ?_) | exact HR110_0.out)) hb)
                 have n7_ := Aside0.mk (Kd.C_below (by repeat (first | (with_reducible exact HR112_0.out) | (with_reducible refine Kd.C_alloc ?_ _) | (with_reducible refine Kd.C_drewN ?_ _) | (with_reducible refine Kd.C_drew ?_) | exact HR112_0.out)) hb)
                 have n8_ := Aside0.mk (below_step (by repeat (first | (with_reducible first | exact HB.out | apply below_alloc | apply pw_below_drewN | apply below_drew1 | refine below_set ?_ GE105.out) | exact HB.out)) hb)
                 clear HO_5
                 clear HL109_0
                 clear HL110_0
                 clear HL112_0
                 clear BK105
                 clear HR109_0
                 clear HR110_0
                 clear HR112_0
                 clear HB
                 have HO_5 := n0_
                 have HL109_0 := n1_
                 have HL110_0 := n2_
                 have HL112_0 := n3_
                 have BK105 := n4_
                 have HR109_0 := n5_
                 have HR110_0 := n6_
                 have HR112_0 := n7_
                 have HB := n8_
                 clear n0_ n1_ n2_ n3_ n4_ n5_ n6_ n7_ n8_
                 (try clear hb)
                 (try clear hb2)
                 (try clear hk)
                 (try clear hi)
                 refine hK.out _ _ ⟨(blk_cell BK105.out 0).trans rfl, (blk_cell BK105.out 1).trans rfl, (blk_cell BK105.out 2).trans rfl, (blk_cell BK105.out 3).trans rfl, (blk_cell BK105.out 4).trans rfl, (blk_cell BK105.out 5).trans rfl, (blk_cell BK105.out 6).trans rfl, (blk_cell BK105.out 7).trans rfl, (blk_cell BK105.out 8).trans rfl, (blk_cell BK105.out 9).trans rfl, HS10_, HS11_, HS12_, HS13_, HS14_, HS15_, HS16_, HS17_⟩ (fun hHeld => ?_)
                 clear hK K
                 refine norm_ (by show Act.put _ (some 40) _ = _; simp only [Act.put, sA, sB, sC, i64_w, i32_w]; rfl) ?_
                 refine pu HT_ 18 41 rfl rfl (by kernel_rfl) (fun _ _ _ h => h) (by rfl) (by intro w'; go_simp; with_reducible rfl) (by simp only [Act.put, sA, sB, sC, i64_w, i32_w]; rfl) ?_
                 refine done_ (done_of HT_.out (by kernel_rfl)) ?_
                 try go_wp2
                 go_roundg k2
                 case measure => have := HK1.out; have := HK2.out; omega
                 case rel => exact ⟨(wrap64 (x7_2 + 1)), (by first | rfl | (simp; done) | (simp [*]; done)), H', ⟨by have := HK1.out; have := HK2.out; omega⟩, ⟨by (with_reducible repeat (first | apply Kd.N_alloc | apply Kd.N_drewN | apply Kd.N_drew)); exact HO_5.out⟩, ⟨by (with_reducible repeat (first | refine blk_drewN ?_ _ | refine blk_drew ?_ | refine blk_alloc ?_ _)); exact BK105.out⟩, ⟨by repeat (first | (with_reducible first | exact HB.out | apply below_alloc | apply pw_below_drewN | apply below_drew1 | refine below_set ?_ GE105.out) | exact HB.out)⟩⟩
               · replace c12 := Bool.eq_false_iff.mpr c12
                 subst c12
                 have H1 : (some (x6_1, x7_2, true)) = some (r1, r2, r3) := by rw [if_neg (show ¬ (false = true) by decide)] at H; exact H
                 clear H
                 have H := H1
                 clear H1
                 simp only [Option.some.injEq, Prod.mk.injEq] at H
                 obtain ⟨rfl, rfl, rfl⟩ := H
                 obtain ⟨Ao16, co16, eo16⟩ := Kd.N_slice HO_5.out
                 subst eo16
                 have p109 : 0 ≤ (x6_1 : Int) := of_decide_eq_true (by assumption)
                 have q109 : x6_1 < (t106.length : Int) := of_decide_eq_true (by assumption)
                 obtain ⟨ad109, A109_0, c109_0, e109, hx109_0, hl109_0, hi109_0⟩ := at_L2 (Kd.N_reads' HO_5.out).2.2 x6_1 p109 q109
                 cases e109
                 obtain ⟨ce109, hce109, hMe109, hcc109⟩ := Kd.N_get HO_5.out [] x6_1 p109 (by first | exact q109 | exact of_decide_eq_true (by assumption) | (have e_ := (Kd.N_reads' HO_5.out).1; omega))
                 obtain ⟨ua109_0, uc109_0, rfl, ul109_0, ge109_0⟩ := Kd.FK_slice_open hMe109
                 have hv109_0 := hcc109 0 _ rfl
                 rw [Nat.add_zero, show ((Kd.slice 49 k49)).sz = 1 from rfl, Nat.mul_one] at hv109_0
                 replace hv109_0 := Option.some.inj (hv109_0.symm.trans hx109_0)
                 injection hv109_0 with hva_ hvn_ hvc_
                 rw [hva_] at ge109_0
                 rw [hvc_] at ul109_0
                 have HL109_0 := Aside0.mk (show Kd.V k49 49 _ w.heap.size _ _ (rd_L2 t106 x6_1) from Kd.V_mk ul109_0 ge109_0)
                 clear hva_ hvn_ hvc_ ge109_0 ul109_0
                 clear hcc109 hce109
                 have HR109_0 := Aside0.mk hi109_0
                 have HC109_0 := Aside0.mk hl109_0
                 clear hi109_0 hl109_0
                 replace p109 := eq_true p109
                 replace q109 := eq_true q109
                 try go_wp2
                 have n0_ := Aside0.mk (Kd.N_drew HO_5.out)
                 have n1_ := Aside0.mk (Kd.V_drew HL109_0.out)
                 have n2_ := Aside0.mk (blk_drew BK105.out)
                 have n3_ := Aside0.mk (Kd.C_drew HR109_0.out)
                 have n4_ := Aside0.mk (below_drew1 HB.out)
                 clear HO_5
                 clear HL109_0
                 clear BK105
                 clear HR109_0
                 clear HB
                 have HO_5 := n0_
                 have HL109_0 := n1_
                 have BK105 := n2_
                 have HR109_0 := n3_
                 have HB := n4_
                 clear n0_ n1_ n2_ n3_ n4_
                 have p110 : 0 ≤ (x6_1 : Int) := of_decide_eq_true (by assumption)
                 have q110 : x6_1 < (t106.length : Int) := of_decide_eq_true (by assumption)
                 obtain ⟨ad110, A110_0, c110_0, e110, hx110_0, hl110_0, hi110_0⟩ := at_L2 (Kd.N_reads' HO_5.out).2.2 x6_1 p110 q110
                 obtain rfl : ad109 = ad110 := (by injection e110)
                 obtain ⟨ce110, hce110, hMe110, hcc110⟩ := Kd.N_get HO_5.out [] x6_1 p110 (by first | exact q110 | exact of_decide_eq_true (by assumption) | (have e_ := (Kd.N_reads' HO_5.out).1; omega))
                 obtain ⟨ua110_0, uc110_0, rfl, ul110_0, ge110_0⟩ := Kd.FK_slice_open hMe110
                 have hv110_0 := hcc110 0 _ rfl
                 rw [Nat.add_zero, show ((Kd.slice 49 k49)).sz = 1 from rfl, Nat.mul_one] at hv110_0
                 replace hv110_0 := Option.some.inj (hv110_0.symm.trans hx110_0)
                 injection hv110_0 with hva_ hvn_ hvc_
                 rw [hva_] at ge110_0
                 rw [hvc_] at ul110_0
                 have HL110_0 := Aside0.mk (show Kd.V k49 49 _ w.heap.size _ _ (rd_L2 t106 x6_1) from Kd.V_mk ul110_0 ge110_0)
                 clear hva_ hvn_ hvc_ ge110_0 ul110_0
                 clear hcc110 hce110
                 have HR110_0 := Aside0.mk hi110_0
                 have HC110_0 := Aside0.mk hl110_0
                 clear hi110_0 hl110_0
                 replace p110 := eq_true p110
                 replace q110 := eq_true q110
                 have p111 : 0 ≤ (x7_2 : Int) := of_decide_eq_true (by assumption)
                 have q111 : x7_2 < ((rd_L2 t106 x6_1).length : Int) := of_decide_eq_true (by assumption)
                 obtain ⟨ad111, e111, hx111_0, hx111_1, hx111_2, hx111_3, hx111_4, hx111_5⟩ := at_T49 (by repeat (first | (with_reducible exact HR110_0.out) | (with_reducible refine Kd.C_alloc ?_ _) | (with_reducible refine Kd.C_drewN ?_ _) | (with_reducible refine Kd.C_drew ?_) | exact HR110_0.out)) x7_2 p111 q111
                 cases e111
                 replace p111 := eq_true p111
                 replace q111 := eq_true q111
                 have p112 : 0 ≤ (x6_1 : Int) := of_decide_eq_true (by assumption)
                 have q112 : x6_1 < (t106.length : Int) := of_decide_eq_true (by assumption)
                 obtain ⟨ad112, A112_0, c112_0, e112, hx112_0, hl112_0, hi112_0⟩ := at_L2 (Kd.N_reads' HO_5.out).2.2 x6_1 p112 q112
                 obtain rfl : ad109 = ad112 := (by injection e112)
                 obtain ⟨ce112, hce112, hMe112, hcc112⟩ := Kd.N_get HO_5.out [] x6_1 p112 (by first | exact q112 | exact of_decide_eq_true (by assumption) | (have e_ := (Kd.N_reads' HO_5.out).1; omega))
                 obtain ⟨ua112_0, uc112_0, rfl, ul112_0, ge112_0⟩ := Kd.FK_slice_open hMe112
                 have hv112_0 := hcc112 0 _ rfl
                 rw [Nat.add_zero, show ((Kd.slice 49 k49)).sz = 1 from rfl, Nat.mul_one] at hv112_0
                 replace hv112_0 := Option.some.inj (hv112_0.symm.trans hx112_0)
                 injection hv112_0 with hva_ hvn_ hvc_
                 rw [hva_] at ge112_0
                 rw [hvc_] at ul112_0
                 have HL112_0 := Aside0.mk (show Kd.V k49 49 _ w.heap.size _ _ (rd_L2 t106 x6_1) from Kd.V_mk ul112_0 ge112_0)
                 clear hva_ hvn_ hvc_ ge112_0 ul112_0
                 clear hcc112 hce112
                 have HR112_0 := Aside0.mk hi112_0
                 have HC112_0 := Aside0.mk hl112_0
                 clear hi112_0 hl112_0
                 replace p112 := eq_true p112
                 replace q112 := eq_true q112
                 have ea_ := Option.some.inj (hx110_0.symm.trans hx112_0)
                 injection ea_ with ea_ en_ ec_
                 subst ea_
                 subst ec_
                 clear en_
                 refine start_ (n := 19) (S := fun w' => w'.cell? ⟨gb105, 0, none⟩ = some (.slice A0_0 l0_0.length c0_0) ∧ w'.cell? ⟨gb105, 1, none⟩ = some (.slice A0_1 l0_1.length c0_1) ∧ w'.cell? ⟨gb105, 2, none⟩ = some (.slice A0_2 l0_2.length c0_2) ∧ w'.cell? ⟨gb105, 3, none⟩ = some (.slice A0_3 l0_3.length c0_3) ∧ w'.cell? ⟨gb105, 4, none⟩ = some (.int .i64 a0_4) ∧ w'.cell? ⟨gb105, 5, none⟩ = some (.int .i64 a0_5) ∧ w'.cell? ⟨gb105, 6, none⟩ = some (.slice A0_6 l0_6.length c0_6) ∧ w'.cell? ⟨gb105, 7, none⟩ = some (.slice A0_7 l0_7.length c0_7) ∧ w'.cell? ⟨gb105, 8, none⟩ = some (.slice A0_8 l0_8.length c0_8) ∧ w'.cell? ⟨gb105, 9, none⟩ = some (.slice A0_9 l0_9.length c0_9) ∧ w'.cell? (ad109.add (x6_1).toNat) = some (.slice (some ad111) (rd_L2 t106 x6_1).length c110_0) ∧ w'.cell? (ad111.add ((x7_2).toNat * 6)) = some (.int .i64 ((rd_T49 (rd_L2 t106 x6_1) x7_2).f0)) ∧ w'.cell? ⟨(ad111.add ((x7_2).toNat * 6)).block, (ad111.add ((x7_2).toNat * 6)).off + 1, none⟩ = some (.int .i64 ((rd_T49 (rd_L2 t106 x6_1) x7_2).f1)) ∧ w'.cell? ⟨(ad111.add ((x7_2).toNat * 6)).block, (ad111.add ((x7_2).toNat * 6)).off + 2, none⟩ = some (.int .i64 ((rd_T49 (rd_L2 t106 x6_1) x7_2).f2)) ∧ w'.cell? ⟨(ad111.add ((x7_2).toNat * 6)).block, (ad111.add ((x7_2).toNat * 6)).off + 3, none⟩ = some (.int .i64 ((rd_T49 (rd_L2 t106 x6_1) x7_2).f3)) ∧ w'.cell? ⟨(ad111.add ((x7_2).toNat * 6)).block, (ad111.add ((x7_2).toNat * 6)).off + 4, none⟩ = some (.int .i64 ((rd_T49 (rd_L2 t106 x6_1) x7_2).f4)) ∧ w'.cell? ⟨(ad111.add ((x7_2).toNat * 6)).block, (ad111.add ((x7_2).toNat * 6)).off + 5, none⟩ = some (.int .i64 ((rd_T49 (rd_L2 t106 x6_1) x7_2).f5)) ∧ w'.cell? (ad109.add (x6_1).toNat) = some (.slice (some ad111) (rd_L2 t106 x6_1).length c110_0)) (ds := []) (Array.replicate 19 false) (by kernel_rfl) rfl rfl ⟨(blk_cell BK105.out 0).trans rfl, (blk_cell BK105.out 1).trans rfl, (blk_cell BK105.out 2).trans rfl, (blk_cell BK105.out 3).trans rfl, (blk_cell BK105.out 4).trans rfl, (blk_cell BK105.out 5).trans rfl, (blk_cell BK105.out 6).trans rfl, (blk_cell BK105.out 7).trans rfl, (blk_cell BK105.out 8).trans rfl, (blk_cell BK105.out 9).trans rfl, hx110_0, hx111_0, hx111_1, hx111_2, hx111_3, hx111_4, hx111_5, hx112_0⟩ (fun hHeld => ?_); refine with_tabW astrolaberef17_Wrong.tab8 astrolaberef17_Wrong.bits8 (fun HT_ HW_ => ?_)
                 generalize wr.drew = w17 at HO_5 HL109_0 BK105 HR109_0 HB HL110_0 HL112_0 HR110_0 HR112_0 hx110_0 hx111_0 hx111_1 hx111_2 hx111_3 hx111_4 hx111_5 hx112_0 hHeld ⊢
                 refine pu HT_ 1 24 rfl rfl (by kernel_rfl) (fun _ _ _ h => h) (by rfl) (by intro w'; go_simp; with_reducible rfl) (by simp only [Act.put, sA, sB, sC, i64_w, i32_w]; rfl) ?_
                 refine pu HT_ 2 25 rfl rfl (by kernel_rfl) (fun _ _ _ h => h) (by rfl) (by intro w'; go_simp; with_reducible rfl) (by simp only [Act.put, sA, sB, sC, i64_w, i32_w]; rfl) ?_
                 refine pu HT_ 3 26 rfl rfl (by kernel_rfl) (fun _ _ _ h => h) (by rfl) (by intro w'; go_simp; with_reducible rfl) (by simp only [Act.put, sA, sB, sC, i64_w, i32_w]; rfl) ?_
                 refine pu HT_ 4 27 rfl rfl (by kernel_rfl) (fun _ _ _ h => h) (by rfl) (by intro w'; go_simp; with_reducible rfl) (by simp only [Act.put, sA, sB, sC, i64_w, i32_w]; rfl) ?_
                 refine pu HT_ 6 29 rfl rfl (by kernel_rfl) (fun _ _ _ h => h) (by rfl) (by intro w'; go_simp; with_reducible rfl) (by simp only [Act.put, sA, sB, sC, i64_w, i32_w]; rfl) ?_
                 refine pu HT_ 9 32 rfl rfl (by kernel_rfl) (fun _ _ _ h => h) (by rfl) (by intro w'; go_simp; with_reducible rfl) (by simp only [Act.put, sA, sB, sC, i64_w, i32_w]; rfl) ?_
                 refine pu HT_ 10 33 rfl rfl (by kernel_rfl) (fun _ _ _ h => h) (by rfl) (by intro w'; go_simp; with_reducible rfl) (by simp only [Act.put, sA, sB, sC, i64_w, i32_w]; rfl) ?_
                 refine pu HT_ 11 34 rfl rfl (by kernel_rfl) (fun _ _ _ h => h) (by rfl) (by intro w'; go_simp; with_reducible rfl) (by simp only [Act.put, sA, sB, sC, i64_w, i32_w]; rfl) ?_
                 refine pu HT_ 14 37 rfl rfl (by kernel_rfl) (fun _ _ _ h => h) (by rfl) (by intro w'; go_simp; with_reducible rfl) (by simp only [Act.put, sA, sB, sC, i64_w, i32_w]; rfl) ?_
                 refine tk HT_ HW_ hHeld 0 23 rfl rfl (by kernel_rfl) (fun _ _ _ h => h) (by rfl) (by rintro w' ⟨s0, s1, s2, s3, s4, s5, s6, s7, s8, s9, s10, s11, s12, s13, s14, s15, s16, s17⟩; go_simp; with_reducible rfl) (by simp only [Act.put, sA, sB, sC, i64_w, i32_w]; rfl) ?_
                 refine tk HT_ HW_ hHeld 5 28 rfl rfl (by kernel_rfl) (fun _ _ _ h => h) (by rfl) (by rintro w' ⟨s0, s1, s2, s3, s4, s5, s6, s7, s8, s9, s10, s11, s12, s13, s14, s15, s16, s17⟩; go_simp; with_reducible rfl) (by simp only [Act.put, sA, sB, sC, i64_w, i32_w]; rfl) ?_
                 refine pu HT_ 7 30 rfl rfl (by kernel_rfl) (fun _ _ _ h => h) (by rfl) (by intro w'; go_simp; with_reducible rfl) (by simp only [Act.put, sA, sB, sC, i64_w, i32_w]; rfl) ?_
                 refine tk HT_ HW_ hHeld 8 31 rfl rfl (by kernel_rfl) (fun _ _ _ h => h) (by rfl) (by rintro w' ⟨s0, s1, s2, s3, s4, s5, s6, s7, s8, s9, s10, s11, s12, s13, s14, s15, s16, s17⟩; go_simp; with_reducible rfl) (by simp only [Act.put, sA, sB, sC, i64_w, i32_w]; rfl) ?_
                 refine tk HT_ HW_ hHeld 12 35 rfl rfl (by kernel_rfl) (fun _ _ _ h => h) (by rfl) (by rintro w' ⟨s0, s1, s2, s3, s4, s5, s6, s7, s8, s9, s10, s11, s12, s13, s14, s15, s16, s17⟩; go_simp; with_reducible rfl) (by simp only [Act.put, sA, sB, sC, i64_w, i32_w]; rfl) ?_
                 refine pu HT_ 13 36 rfl rfl (by kernel_rfl) (fun _ _ _ h => h) (by rfl) (by intro w'; go_simp; with_reducible rfl) (by simp only [Act.put, sA, sB, sC, i64_w, i32_w]; rfl) ?_
                 refine pu HT_ 15 38 rfl rfl (by kernel_rfl) (fun _ _ _ h => h) (by rfl) (by intro w'; go_simp; with_reducible rfl) (by simp only [Act.put, sA, sB, sC, i64_w, i32_w]; rfl) ?_
                 refine pu HT_ 16 39 rfl rfl (by kernel_rfl) (fun _ _ _ h => h) (by rfl) (by intro w'; go_simp; with_reducible rfl) (by simp only [Act.put, sA, sB, sC, i64_w, i32_w]; rfl) ?_
                 refine on1 HT_ 17 (some 40) rfl rfl (by kernel_rfl) (by decide) (fun K hK => ?_)
                 refine goes_ Tryz.func101 (by kernel_rfl) rfl #[.agg #[.slice A0_0 l0_0.length c0_0, .slice A0_1 l0_1.length c0_1, .slice A0_2 l0_2.length c0_2, .slice A0_3 l0_3.length c0_3, .int .i64 a0_4, .int .i64 a0_5, .slice A0_6 l0_6.length c0_6, .slice A0_7 l0_7.length c0_7, .slice A0_8 l0_8.length c0_8, .slice A0_9 l0_9.length c0_9], .int .i64 x6_1, .agg #[.int .i64 ((rd_T49 (rd_L2 t106 x6_1) x7_2).f0), .int .i64 ((rd_T49 (rd_L2 t106 x6_1) x7_2).f1), .int .i64 ((rd_T49 (rd_L2 t106 x6_1) x7_2).f2), .int .i64 ((rd_T49 (rd_L2 t106 x6_1) x7_2).f3), .int .i64 ((rd_T49 (rd_L2 t106 x6_1) x7_2).f4), .int .i64 ((rd_T49 (rd_L2 t106 x6_1) x7_2).f5)], .int .i64 (wrap64 ((wrap64 (((rd_L2 t106 x6_1).length : Int) - x7_2)) - 1))] (by rfl) rfl rfl (by (try simp only [List.map_toArray, List.map_cons, List.map_nil]); first | done | rfl | (simp only [List.length_drop, List.length_take]; rfl)) ?_
                 with_reducible refine (astrolaberef17_One.calls _ _ l0_0 _ _ l0_1 _ _ l0_2 _ _ l0_3 a0_4 a0_5 _ _ l0_6 _ _ l0_7 _ _ l0_8 _ _ l0_9 x6_1 ((rd_T49 (rd_L2 t106 x6_1) x7_2).f0) ((rd_T49 (rd_L2 t106 x6_1) x7_2).f1) ((rd_T49 (rd_L2 t106 x6_1) x7_2).f2) ((rd_T49 (rd_L2 t106 x6_1) x7_2).f3) ((rd_T49 (rd_L2 t106 x6_1) x7_2).f4) ((rd_T49 (rd_L2 t106 x6_1) x7_2).f5) (wrap64 ((wrap64 (((rd_L2 t106 x6_1).length : Int) - x7_2)) - 1)) false _ ?side1 ?side2 ?side3 ?side4 ?side5 ?side6 ?side7 ?side8 ?side9 ?side10 ?side11 ?side12 ?side13 ?side14 ?side15 ?side16 A11.out).mono ?_
                 (case side1 => repeat (first | exact (Kd.C_below HR0_0.out HB.out) | (with_reducible refine Kd.C_alloc ?_ _) | (with_reducible refine Kd.C_drewN ?_ _) | (with_reducible refine Kd.C_drew ?_)))
                 (case side2 => exact HC0_0.out)
                 (case side3 => repeat (first | exact (Kd.C_below HR0_1.out HB.out) | (with_reducible refine Kd.C_alloc ?_ _) | (with_reducible refine Kd.C_drewN ?_ _) | (with_reducible refine Kd.C_drew ?_)))
                 (case side4 => exact HC0_1.out)
                 (case side5 => repeat (first | exact (Kd.C_below HR0_2.out HB.out) | (with_reducible refine Kd.C_alloc ?_ _) | (with_reducible refine Kd.C_drewN ?_ _) | (with_reducible refine Kd.C_drew ?_)))
                 (case side6 => exact HC0_2.out)
                 (case side7 => repeat (first | exact (Kd.C_below HR0_3.out HB.out) | (with_reducible refine Kd.C_alloc ?_ _) | (with_reducible refine Kd.C_drewN ?_ _) | (with_reducible refine Kd.C_drew ?_)))
                 (case side8 => exact HC0_3.out)
                 (case side9 => repeat (first | exact (Kd.C_below HR0_6.out HB.out) | (with_reducible refine Kd.C_alloc ?_ _) | (with_reducible refine Kd.C_drewN ?_ _) | (with_reducible refine Kd.C_drew ?_)))
                 (case side10 => exact HC0_6.out)
                 (case side11 => repeat (first | exact (Kd.C_below HR0_7.out HB.out) | (with_reducible refine Kd.C_alloc ?_ _) | (with_reducible refine Kd.C_drewN ?_ _) | (with_reducible refine Kd.C_drew ?_)))
                 (case side12 => exact HC0_7.out)
                 (case side13 => repeat (first | exact (Kd.C_below HR0_8.out HB.out) | (with_reducible refine Kd.C_alloc ?_ _) | (with_reducible refine Kd.C_drewN ?_ _) | (with_reducible refine Kd.C_drew ?_)))
                 (case side14 => exact HC0_8.out)
                 (case side15 => repeat (first | exact (Kd.C_below HR0_9.out HB.out) | (with_reducible refine Kd.C_alloc ?_ _) | (with_reducible refine Kd.C_drewN ?_ _) | (with_reducible refine Kd.C_drew ?_)))
                 (case side16 => exact HC0_9.out)
                 rintro e w18 ⟨rfl, hb⟩
                 have HS10_ := (hb.cell (World.block_lt_of_cell? _ _ (hHeld.2.2.2.2.2.2.2.2.2.2.1))).trans (hHeld.2.2.2.2.2.2.2.2.2.2.1)
                 have HS11_ := (hb.cell (World.block_lt_of_cell? _ _ (hHeld.2.2.2.2.2.2.2.2.2.2.2.1))).trans (hHeld.2.2.2.2.2.2.2.2.2.2.2.1)
                 have HS12_ := (hb.cell (World.block_lt_of_cell? _ _ (hHeld.2.2.2.2.2.2.2.2.2.2.2.2.1))).trans (hHeld.2.2.2.2.2.2.2.2.2.2.2.2.1)
                 have HS13_ := (hb.cell (World.block_lt_of_cell? _ _ (hHeld.2.2.2.2.2.2.2.2.2.2.2.2.2.1))).trans (hHeld.2.2.2.2.2.2.2.2.2.2.2.2.2.1)
                 have HS14_ := (hb.cell (World.block_lt_of_cell? _ _ (hHeld.2.2.2.2.2.2.2.2.2.2.2.2.2.2.1))).trans (hHeld.2.2.2.2.2.2.2.2.2.2.2.2.2.2.1)
                 have HS15_ := (hb.cell (World.block_lt_of_cell? _ _ (hHeld.2.2.2.2.2.2.2.2.2.2.2.2.2.2.2.1))).trans (hHeld.2.2.2.2.2.2.2.2.2.2.2.2.2.2.2.1)
                 have HS16_ := (hb.cell (World.block_lt_of_cell? _ _ (hHeld.2.2.2.2.2.2.2.2.2.2.2.2.2.2.2.2.1))).trans (hHeld.2.2.2.2.2.2.2.2.2.2.2.2.2.2.2.2.1)
                 have HS17_ := (hb.cell (World.block_lt_of_cell? _ _ (hHeld.2.2.2.2.2.2.2.2.2.2.2.2.2.2.2.2.2))).trans (hHeld.2.2.2.2.2.2.2.2.2.2.2.2.2.2.2.2.2)
                 refine ⟨_, rfl, ?_⟩
                 have n0_ := Aside0.mk (Kd.N_below (by (with_reducible repeat (first | apply Kd.N_alloc | apply Kd.N_drewN | apply Kd.N_drew)); exact HO_5.out) hb)
                 have n1_ := Aside0.mk (Kd.V_below (by (with_reducible repeat (first | apply Kd.V_alloc | apply Kd.V_drewN | apply Kd.V_drew)); exact HL109_0.out) hb)
                 have n2_ := Aside0.mk (Kd.V_below (by (with_reducible repeat (first | apply Kd.V_alloc | apply Kd.V_drewN | apply Kd.V_drew)); exact HL110_0.out) hb)
                 have n3_ := Aside0.mk (Kd.V_below (by (with_reducible repeat (first | apply Kd.V_alloc | apply Kd.V_drewN | apply Kd.V_drew)); exact HL112_0.out) hb)
                 have n4_ := Aside0.mk (blk_below (g := gb105) (o := .cells #[.slice A0_0 l0_0.length c0_0, .slice A0_1 l0_1.length c0_1, .slice A0_2 l0_2.length c0_2, .slice A0_3 l0_3.length c0_3, .int .i64 a0_4, .int .i64 a0_5, .slice A0_6 l0_6.length c0_6, .slice A0_7 l0_7.length c0_7, .slice A0_8 l0_8.length c0_8, .slice A0_9 l0_9.length c0_9] 26 (0, 0)) (by (with_reducible repeat (first | refine blk_drewN ?_ _ | refine blk_drew ?_ | refine blk_alloc ?_ _)); exact BK105.out) hb)
                 have n5_ := Aside0.mk (Kd.C_below (by repeat (first | (with_reducible exact HR109_0.out) | (with_reducible refine Kd.C_alloc ?_ _) | (with_reducible refine Kd.C_drewN ?_ _) | (with_reducible refine Kd.C_drew ?_) | exact HR109_0.out)) hb)
                 have n6_ := Aside0.mk (Kd.C_below (by repeat (first | (with_reducible exact HR110_0.out) | (with_reducible refine Kd.C_alloc ?_ _) | (with_reducible refine Kd.C_drewN ?_ _) | (with_reducible refine Kd.C_drew ?_) | exact HR110_0.out)) hb)
                 have n7_ := Aside0.mk (Kd.C_below (by repeat (first | (with_reducible exact HR112_0.out) | (with_reducible refine Kd.C_alloc ?_ _) | (with_reducible refine Kd.C_drewN ?_ _) | (with_reducible refine Kd.C_drew ?_) | exact HR112_0.out)) hb)
                 have n8_ := Aside0.mk (below_step (by repeat (first | (with_reducible first | exact HB.out | apply below_alloc | apply pw_below_drewN | apply below_drew1 | refine below_set ?_ GE105.out) | exact HB.out)) hb)
                 clear HO_5
                 clear HL109_0
                 clear HL110_0
                 clear HL112_0
                 clear BK105
                 clear HR109_0
                 clear HR110_0
                 clear HR112_0
                 clear HB
                 have HO_5 := n0_
                 have HL109_0 := n1_
                 have HL110_0 := n2_
                 have HL112_0 := n3_
                 have BK105 := n4_
                 have HR109_0 := n5_
                 have HR110_0 := n6_
                 have HR112_0 := n7_
                 have HB := n8_
                 clear n0_ n1_ n2_ n3_ n4_ n5_ n6_ n7_ n8_
                 (try clear hb)
                 (try clear hb2)
                 (try clear hk)
                 (try clear hi)
                 refine hK.out _ _ ⟨(blk_cell BK105.out 0).trans rfl, (blk_cell BK105.out 1).trans rfl, (blk_cell BK105.out 2).trans rfl, (blk_cell BK105.out 3).trans rfl, (blk_cell BK105.out 4).trans rfl, (blk_cell BK105.out 5).trans rfl, (blk_cell BK105.out 6).trans rfl, (blk_cell BK105.out 7).trans rfl, (blk_cell BK105.out 8).trans rfl, (blk_cell BK105.out 9).trans rfl, HS10_, HS11_, HS12_, HS13_, HS14_, HS15_, HS16_, HS17_⟩ (fun hHeld => ?_)
                 clear hK K
                 refine norm_ (by show Act.put _ (some 40) _ = _; simp only [Act.put, sA, sB, sC, i64_w, i32_w]; rfl) ?_
                 refine pu HT_ 18 41 rfl rfl (by kernel_rfl) (fun _ _ _ h => h) (by rfl) (by intro w'; go_simp; with_reducible rfl) (by simp only [Act.put, sA, sB, sC, i64_w, i32_w]; rfl) ?_
                 refine done_ (done_of HT_.out (by kernel_rfl)) ?_
                 try go_wp2
                 go_ret3
                 exact ⟨by first | rfl | (simp [errW_none, errW_some] <;> rfl) | (simp [*, errW_none, errW_some] <;> rfl), by repeat (first | (with_reducible first | exact HB.out | apply below_alloc | apply pw_below_drewN | apply below_drew1 | refine below_set ?_ GE105.out) | exact HB.out)⟩
             · rw [if_neg c10] at H
               exact absurd H (by simp)
           · rw [if_neg c9] at H
             have c9b0 : decide (x7_2 < ((rd_L2 t106 x6_1).length : Int)) = false := decide_eq_false c9
             clear c9
             have H' := Aside0.mk H
             clear H
             obtain ⟨Ao19, co19, eo19⟩ := Kd.N_slice HO_5.out
             subst eo19
             have p109 : 0 ≤ (x6_1 : Int) := of_decide_eq_true (by assumption)
             have q109 : x6_1 < (t106.length : Int) := of_decide_eq_true (by assumption)
             obtain ⟨ad109, A109_0, c109_0, e109, hx109_0, hl109_0, hi109_0⟩ := at_L2 (Kd.N_reads' HO_5.out).2.2 x6_1 p109 q109
             cases e109
             obtain ⟨ce109, hce109, hMe109, hcc109⟩ := Kd.N_get HO_5.out [] x6_1 p109 (by first | exact q109 | exact of_decide_eq_true (by assumption) | (have e_ := (Kd.N_reads' HO_5.out).1; omega))
             obtain ⟨ua109_0, uc109_0, rfl, ul109_0, ge109_0⟩ := Kd.FK_slice_open hMe109
             have hv109_0 := hcc109 0 _ rfl
             rw [Nat.add_zero, show ((Kd.slice 49 k49)).sz = 1 from rfl, Nat.mul_one] at hv109_0
             replace hv109_0 := Option.some.inj (hv109_0.symm.trans hx109_0)
             injection hv109_0 with hva_ hvn_ hvc_
             rw [hva_] at ge109_0
             rw [hvc_] at ul109_0
             have HL109_0 := Aside0.mk (show Kd.V k49 49 _ w.heap.size _ _ (rd_L2 t106 x6_1) from Kd.V_mk ul109_0 ge109_0)
             clear hva_ hvn_ hvc_ ge109_0 ul109_0
             clear hcc109 hce109
             have HR109_0 := Aside0.mk hi109_0
             have HC109_0 := Aside0.mk hl109_0
             clear hi109_0 hl109_0
             replace p109 := eq_true p109
             replace q109 := eq_true q109
             go_wp2
             go_roundg k2
             case measure => have := HK1.out; have := HK2.out; omega
             case rel => exact ⟨(wrap64 (x6_1 + 1)), (by first | rfl | (simp; done) | (simp [*]; done)), H', ⟨by have := HK1.out; have := HK2.out; omega⟩, ⟨by (with_reducible repeat (first | apply Kd.N_alloc | apply Kd.N_drewN | apply Kd.N_drew)); exact HO_5.out⟩, ⟨by (with_reducible repeat (first | refine blk_drewN ?_ _ | refine blk_drew ?_ | refine blk_alloc ?_ _)); exact BK105.out⟩, ⟨by repeat (first | (with_reducible first | exact HB.out | apply below_alloc | apply pw_below_drewN | apply below_drew1 | refine below_set ?_ GE105.out) | exact HB.out)⟩⟩
         · rw [if_neg c8] at H
           exact absurd H (by simp)
       · rw [if_neg c7] at H
         exact absurd H (by simp)
   · rw [if_neg c6] at H
     have c6b0 : decide (x6_1 < 4) = false := decide_eq_false c6
     clear c6
     simp only [Option.some.injEq, Prod.mk.injEq] at H
     obtain ⟨rfl, rfl, rfl⟩ := H
     go_wp2
     go_ret3
     exact ⟨by first | rfl | (simp [errW_none, errW_some] <;> rfl) | (simp [*, errW_none, errW_some] <;> rfl), by repeat (first | (with_reducible first | exact HB.out | apply below_alloc | apply pw_below_drewN | apply below_drew1 | refine below_set ?_ GE105.out) | exact HB.out)⟩

end Go.Proofs.YtgalkkolbobmbaaGreat.V
