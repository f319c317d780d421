/- The document's Ints, Same, Numbers and Equal, over lists that hold the same. -/
import Derived.Test.YtgalkkolbobmbaaGreatVLaw
import Derived.Test.YtgalkkolbobmbaaGreatVClone
import Derived.Test.YtgalkkolbobmbaaGreatVPiece

namespace Go.Proofs.YtgalkkolbobmbaaGreat.V
open Go.RowKit Go.Proofs.YtgalkkolbobmbaaGreatW.PrintWords Go.Proofs.YtgalkkolbobmbaaGreatW.PrintLast Go.Proofs.YtgalkkolbobmbaaGreatW.PrintMore
set_option linter.unusedVariables false
set_option linter.unusedSimpArgs false
set_option maxHeartbeats 1000000 in
set_option maxRecDepth 100000 in
theorem ints_same (A B : Option Addr) (ca cb : Nat) (l : List Int) (w : World) (hA : Kd.C (Kd.int .i64) w A l.length l) (hB : Kd.C (Kd.int .i64) w B l.length l) (hl : l.length ≤ 140737488355328) :
 Calls Tryz.prog 67 #[.slice A l.length ca, .slice B l.length cb] w fun e w' => e = .returned (.bool true) ∧ Drawn0 w w' := by
 have HA := Aside0.mk hA
 have HB := Aside0.mk hB
 clear hA hB
 go_enter Tryz.func67, Tryz.ntmps67
 go_wp2
 go_loopw [5] (fun i w' => ∃ j : Int, i = .int .i64 j ∧ 0 ≤ j ∧ j ≤ (l.length : Int) ∧ Drawn0 w w') (fun i _ => l.length - (intOf i).toNat)
 case atStart => exact ⟨0, rfl, by omega, by omega, by repeat (first | exact Drawn0.refl _ | apply Drawn0.step)⟩
 case round =>
  obtain ⟨j, rfl, h0, hj, ⟨m, rfl⟩⟩ := hrel
  by_cases c : j < (l.length : Int)
  · have hlt : decide (j < (l.length : Int)) = true := decide_eq_true c
    have p : 0 ≤ j := h0
    have q : j < (l.length : Int) := c
    obtain ⟨ad, e, hx⟩ := Kd.at_int HA.out j p q
    cases e
    obtain ⟨ad2, e2, hy⟩ := Kd.at_int HB.out j p q
    cases e2
    have p' := eq_true p
    have q' := eq_true q
    go_wp2
    repeat (go_quiet (fail); try go_wp2)
    go_roundw
    case rel => exact ⟨j + 1, rfl, by omega, by omega, by repeat (first | exact Drawn0.refl _ | apply Drawn0.step)⟩
    case measure => (show l.length - (j + 1).toNat < l.length - j.toNat); omega
  · obtain rfl : j = (l.length : Int) := by omega
    have hlt : decide ((l.length : Int) < (l.length : Int)) = false := decide_eq_false (by omega)
    go_wp2
    go_ret
    exact ⟨rfl, by repeat (first | exact Drawn0.refl _ | apply Drawn0.step)⟩
set_option maxHeartbeats 1000000 in
set_option maxRecDepth 100000 in
theorem ins_same (A B : Option Addr) (ca cb : Nat) (l : List S49) (w : World) (hA : Kd.C k49 w A l.length l) (hB : Kd.C k49 w B l.length l) (hl : l.length ≤ 140737488355328) :
 Calls Tryz.prog 68 #[.slice A l.length ca, .slice B l.length cb] w fun e w' => e = .returned (.bool true) ∧ Drawn0 w w' := by
 have HA := Aside0.mk hA
 have HB := Aside0.mk hB
 clear hA hB
 go_enter Tryz.func68, Tryz.ntmps68
 go_wp2
 go_loopw [5] (fun i w' => ∃ j : Int, i = .int .i64 j ∧ 0 ≤ j ∧ j ≤ (l.length : Int) ∧ Drawn0 w w') (fun i _ => l.length - (intOf i).toNat)
 case atStart => exact ⟨0, rfl, by omega, by omega, by repeat (first | exact Drawn0.refl _ | apply Drawn0.step)⟩
 case round =>
  obtain ⟨j, rfl, h0, hj, ⟨m, rfl⟩⟩ := hrel
  by_cases c : j < (l.length : Int)
  · have hlt : decide (j < (l.length : Int)) = true := decide_eq_true c
    have p : 0 ≤ j := h0
    have q : j < (l.length : Int) := c
    obtain ⟨ad, e, hx0, hx1, hx2, hx3, hx4, hx5⟩ := at_T49 HA.out j p q
    cases e
    obtain ⟨ad2, e2, hy0, hy1, hy2, hy3, hy4, hy5⟩ := at_T49 HB.out j p q
    cases e2
    have p' := eq_true p
    have q' := eq_true q
    go_wp2
    repeat (go_quiet (fail); try go_wp2)
    go_roundw
    case rel => exact ⟨j + 1, rfl, by omega, by omega, by repeat (first | exact Drawn0.refl _ | apply Drawn0.step)⟩
    case measure => (show l.length - (j + 1).toNat < l.length - j.toNat); omega
  · obtain rfl : j = (l.length : Int) := by omega
    have hlt : decide ((l.length : Int) < (l.length : Int)) = false := decide_eq_false (by omega)
    go_wp2
    go_ret
    exact ⟨rfl, by repeat (first | exact Drawn0.refl _ | apply Drawn0.step)⟩
set_option maxHeartbeats 1000000 in
set_option maxRecDepth 100000 in
theorem nums_same (A B : Option Addr) (ca cb : Nat) (l : List Int) (w : World) (hA : Kd.C (Kd.int .i64) w A l.length l) (hB : Kd.C (Kd.int .i64) w B l.length l) (hl : l.length ≤ 140737488355328) :
 Calls Tryz.prog 29 #[.slice A l.length ca, .slice B l.length cb] w fun e w' => e = .returned (.bool true) ∧ Drawn0 w w' := by
 have HA := Aside0.mk hA
 have HB := Aside0.mk hB
 clear hA hB
 go_enter Tryz.func29, Tryz.ntmps29
 go_wp2
 go_loopw [5] (fun i w' => ∃ j : Int, i = .int .i64 j ∧ 0 ≤ j ∧ j ≤ (l.length : Int) ∧ Drawn0 w w') (fun i _ => l.length - (intOf i).toNat)
 case atStart => exact ⟨0, rfl, by omega, by omega, by repeat (first | exact Drawn0.refl _ | apply Drawn0.step)⟩
 case round =>
  obtain ⟨j, rfl, h0, hj, ⟨m, rfl⟩⟩ := hrel
  by_cases c : j < (l.length : Int)
  · have hlt : decide (j < (l.length : Int)) = true := decide_eq_true c
    have p : 0 ≤ j := h0
    have q : j < (l.length : Int) := c
    obtain ⟨ad, e, hx⟩ := Kd.at_int HA.out j p q
    cases e
    obtain ⟨ad2, e2, hy⟩ := Kd.at_int HB.out j p q
    cases e2
    have p' := eq_true p
    have q' := eq_true q
    go_wp2
    repeat (go_quiet (fail); try go_wp2)
    go_roundw
    case rel => exact ⟨j + 1, rfl, by omega, by omega, by repeat (first | exact Drawn0.refl _ | apply Drawn0.step)⟩
    case measure => (show l.length - (j + 1).toNat < l.length - j.toNat); omega
  · obtain rfl : j = (l.length : Int) := by omega
    have hlt : decide ((l.length : Int) < (l.length : Int)) = false := decide_eq_false (by omega)
    go_wp2
    go_ret
    exact ⟨rfl, by repeat (first | exact Drawn0.refl _ | apply Drawn0.step)⟩
set_option maxHeartbeats 4000000 in
set_option maxRecDepth 100000 in
theorem equal_same (o : S26) (A0 A1 A2 A3 A6 A7 A8 A9 B0 B1 B2 B3 B6 B7 B8 B9 : Option Addr) (c0 c1 c2 c3 c6 c7 c8 c9 d0 d1 d2 d3 d6 d7 d8 d9 : Nat) (w : World) (hA : ObjC w o A0 A1 A2 A3 A6 A7 A8 A9 c0 c1 c2 c3 c6 c7 c8 c9) (hB : ObjC w o B0 B1 B2 B3 B6 B7 B8 B9 d0 d1 d2 d3 d6 d7 d8 d9)
 (hl : o.f0.length ≤ 100000 ∧ o.f1.length ≤ 100000 ∧ o.f2.length ≤ 100000 ∧ o.f3.length ≤ 100000 ∧ o.f6.length ≤ 100000 ∧ o.f7.length ≤ 100000 ∧ o.f8.length ≤ 100000 ∧ o.f9.length ≤ 100000) :
 Calls Tryz.prog 25 #[.agg #[.slice A0 o.f0.length c0, .slice A1 o.f1.length c1, .slice A2 o.f2.length c2, .slice A3 o.f3.length c3, .int .i64 o.f4, .int .i64 o.f5, .slice A6 o.f6.length c6, .slice A7 o.f7.length c7, .slice A8 o.f8.length c8, .slice A9 o.f9.length c9], .agg #[.slice B0 o.f0.length d0, .slice B1 o.f1.length d1, .slice B2 o.f2.length d2, .slice B3 o.f3.length d3, .int .i64 o.f4, .int .i64 o.f5, .slice B6 o.f6.length d6, .slice B7 o.f7.length d7, .slice B8 o.f8.length d8, .slice B9 o.f9.length d9]] w fun e w' => e = .returned (.bool true) ∧ Below w.heap.size w w' := by
 have HL := Aside0.mk hl
 have HA := Aside0.mk hA
 have HB := Aside0.mk hB
 clear hl hA hB
 go_enter Tryz.func25, Tryz.ntmps25
 go_wp2_with fail
 obtain ⟨w1, hw1⟩ : ∃ z, (w.alloc (Obj.cells #[.slice A0 o.f0.length c0, .slice A1 o.f1.length c1, .slice A2 o.f2.length c2, .slice A3 o.f3.length c3, .int .i64 o.f4, .int .i64 o.f5, .slice A6 o.f6.length c6, .slice A7 o.f7.length c7, .slice A8 o.f8.length c8, .slice A9 o.f9.length c9] 26)).alloc (Obj.cells #[.slice B0 o.f0.length d0, .slice B1 o.f1.length d1, .slice B2 o.f2.length d2, .slice B3 o.f3.length d3, .int .i64 o.f4, .int .i64 o.f5, .slice B6 o.f6.length d6, .slice B7 o.f7.length d7, .slice B8 o.f8.length d8, .slice B9 o.f9.length d9] 26) = z := ⟨_, rfl⟩
 have hb1 : Below w.heap.size w w1 := by rw [← hw1]; exact below_alloc (below_alloc (Below.refl _ _) _) _
 have X1 : w1.heap[w.heap.size]? = some (.cells #[.slice A0 o.f0.length c0, .slice A1 o.f1.length c1, .slice A2 o.f2.length c2, .slice A3 o.f3.length c3, .int .i64 o.f4, .int .i64 o.f5, .slice A6 o.f6.length c6, .slice A7 o.f7.length c7, .slice A8 o.f8.length c8, .slice A9 o.f9.length c9] 26 (0, 0)) := by rw [← hw1]; exact blk_alloc (blk_new w _) _
 have Y1 : w1.heap[w.heap.size + 1]? = some (.cells #[.slice B0 o.f0.length d0, .slice B1 o.f1.length d1, .slice B2 o.f2.length d2, .slice B3 o.f3.length d3, .int .i64 o.f4, .int .i64 o.f5, .slice B6 o.f6.length d6, .slice B7 o.f7.length d7, .slice B8 o.f8.length d8, .slice B9 o.f9.length d9] 26 (0, 0)) := by
  rw [← hw1]
  have h9 := blk_new (w.alloc (Obj.cells #[.slice A0 o.f0.length c0, .slice A1 o.f1.length c1, .slice A2 o.f2.length c2, .slice A3 o.f3.length c3, .int .i64 o.f4, .int .i64 o.f5, .slice A6 o.f6.length c6, .slice A7 o.f7.length c7, .slice A8 o.f8.length c8, .slice A9 o.f9.length c9] 26)) (.cells #[.slice B0 o.f0.length d0, .slice B1 o.f1.length d1, .slice B2 o.f2.length d2, .slice B3 o.f3.length d3, .int .i64 o.f4, .int .i64 o.f5, .slice B6 o.f6.length d6, .slice B7 o.f7.length d7, .slice B8 o.f8.length d8, .slice B9 o.f9.length d9] 26 (0, 0))
  simp only [World.size_alloc] at h9
  exact h9
 rw [hw1]
 have n1_ := Aside0.mk (HA.out.below hb1)
 have n2_ := Aside0.mk (HB.out.below hb1)
 have BW := Aside0.mk hb1
 clear hw1 hb1 HA HB
 have HA := n1_
 have HB := n2_
 clear n1_ n2_
 obtain ⟨x0, x1, x2, x3, x4, x5, x6, x7, x8, x9⟩ := cz10 X1
 obtain ⟨y0, y1, y2, y3, y4, y5, y6, y7, y8, y9⟩ := cz10 Y1
 clear X1 Y1
 refine (ints_same A0 B0 c0 d0 o.f0 _ (by repeat (first | (with_reducible exact HA.out.r0) | (with_reducible refine Kd.C_drewN ?_ _))) (by repeat (first | (with_reducible exact HB.out.r0) | (with_reducible refine Kd.C_drewN ?_ _))) (by have := HL.out; omega)).mono ?_
 rintro e _ ⟨rfl, ⟨m0, rfl⟩⟩
 go_wp2_with fail
 refine (ints_same A1 B1 c1 d1 o.f1 _ (by repeat (first | (with_reducible exact HA.out.r1) | (with_reducible refine Kd.C_drewN ?_ _))) (by repeat (first | (with_reducible exact HB.out.r1) | (with_reducible refine Kd.C_drewN ?_ _))) (by have := HL.out; omega)).mono ?_
 rintro e _ ⟨rfl, ⟨m1, rfl⟩⟩
 go_wp2_with fail
 refine (nums_same A2 B2 c2 d2 o.f2 _ (by repeat (first | (with_reducible exact HA.out.r2) | (with_reducible refine Kd.C_drewN ?_ _))) (by repeat (first | (with_reducible exact HB.out.r2) | (with_reducible refine Kd.C_drewN ?_ _))) (by have := HL.out; omega)).mono ?_
 rintro e _ ⟨rfl, ⟨m2, rfl⟩⟩
 go_wp2_with fail
 refine (nums_same A3 B3 c3 d3 o.f3 _ (by repeat (first | (with_reducible exact HA.out.r3) | (with_reducible refine Kd.C_drewN ?_ _))) (by repeat (first | (with_reducible exact HB.out.r3) | (with_reducible refine Kd.C_drewN ?_ _))) (by have := HL.out; omega)).mono ?_
 rintro e _ ⟨rfl, ⟨m3, rfl⟩⟩
 go_wp2_with fail
 refine (ins_same A6 B6 c6 d6 o.f6 _ (by repeat (first | (with_reducible exact HA.out.r6) | (with_reducible refine Kd.C_drewN ?_ _))) (by repeat (first | (with_reducible exact HB.out.r6) | (with_reducible refine Kd.C_drewN ?_ _))) (by have := HL.out; omega)).mono ?_
 rintro e _ ⟨rfl, ⟨m4, rfl⟩⟩
 go_wp2_with fail
 refine (ins_same A7 B7 c7 d7 o.f7 _ (by repeat (first | (with_reducible exact HA.out.r7) | (with_reducible refine Kd.C_drewN ?_ _))) (by repeat (first | (with_reducible exact HB.out.r7) | (with_reducible refine Kd.C_drewN ?_ _))) (by have := HL.out; omega)).mono ?_
 rintro e _ ⟨rfl, ⟨m5, rfl⟩⟩
 go_wp2_with fail
 refine (ins_same A8 B8 c8 d8 o.f8 _ (by repeat (first | (with_reducible exact HA.out.r8) | (with_reducible refine Kd.C_drewN ?_ _))) (by repeat (first | (with_reducible exact HB.out.r8) | (with_reducible refine Kd.C_drewN ?_ _))) (by have := HL.out; omega)).mono ?_
 rintro e _ ⟨rfl, ⟨m6, rfl⟩⟩
 go_wp2_with fail
 refine (ins_same A9 B9 c9 d9 o.f9 _ (by repeat (first | (with_reducible exact HA.out.r9) | (with_reducible refine Kd.C_drewN ?_ _))) (by repeat (first | (with_reducible exact HB.out.r9) | (with_reducible refine Kd.C_drewN ?_ _))) (by have := HL.out; omega)).mono ?_
 rintro e _ ⟨rfl, ⟨m7, rfl⟩⟩
 go_wp2_with fail
 go_ret
 exact ⟨rfl, by repeat (first | exact BW.out | apply pw_below_drewN | apply below_drew1)⟩

theorem ten_set (w : World) (B : Nat) (b0 b1 b2 b3 b4 b5 b6 b7 b8 b9 : Value) : ∃ w', (((((((((w.setCell ⟨B, 0, none⟩ (b0)).setCell ⟨B, 1, none⟩ (b1)).setCell ⟨B, 2, none⟩ (b2)).setCell ⟨B, 3, none⟩ (b3)).setCell ⟨B, 4, none⟩ (b4)).setCell ⟨B, 5, none⟩ (b5)).setCell ⟨B, 6, none⟩ (b6)).setCell ⟨B, 7, none⟩ (b7)).setCell ⟨B, 8, none⟩ (b8)).setCell ⟨B, 9, none⟩ (b9) = w' ∧ Chg (fun i => i = B) w w' ∧ ∀ (a0 a1 a2 a3 a4 a5 a6 a7 a8 a9 : Value) (t : Nat), w.heap[B]? = some (.cells #[a0, a1, a2, a3, a4, a5, a6, a7, a8, a9] t (0, 0)) → w'.heap[B]? = some (.cells #[b0, b1, b2, b3, b4, b5, b6, b7, b8, b9] t (0, 0)) := by
 refine ⟨_, rfl, ?_, fun a0 a1 a2 a3 a4 a5 a6 a7 a8 a9 t h => ?_⟩
 · have c0 := Chg.setCell (S := fun i => i = B) (p := ⟨B, 0, none⟩) (Chg.refl _ w) (.inl rfl) b0
   have c1 := Chg.setCell (S := fun i => i = B) (p := ⟨B, 1, none⟩) c0 (.inl rfl) b1
   have c2 := Chg.setCell (S := fun i => i = B) (p := ⟨B, 2, none⟩) c1 (.inl rfl) b2
   have c3 := Chg.setCell (S := fun i => i = B) (p := ⟨B, 3, none⟩) c2 (.inl rfl) b3
   have c4 := Chg.setCell (S := fun i => i = B) (p := ⟨B, 4, none⟩) c3 (.inl rfl) b4
   have c5 := Chg.setCell (S := fun i => i = B) (p := ⟨B, 5, none⟩) c4 (.inl rfl) b5
   have c6 := Chg.setCell (S := fun i => i = B) (p := ⟨B, 6, none⟩) c5 (.inl rfl) b6
   have c7 := Chg.setCell (S := fun i => i = B) (p := ⟨B, 7, none⟩) c6 (.inl rfl) b7
   have c8 := Chg.setCell (S := fun i => i = B) (p := ⟨B, 8, none⟩) c7 (.inl rfl) b8
   have c9 := Chg.setCell (S := fun i => i = B) (p := ⟨B, 9, none⟩) c8 (.inl rfl) b9
   exact c9
 · have r0 := heap_setCell_same w B 0 _ t b0 h
   have r1 := heap_setCell_same _ B 1 _ t b1 r0
   have r2 := heap_setCell_same _ B 2 _ t b2 r1
   have r3 := heap_setCell_same _ B 3 _ t b3 r2
   have r4 := heap_setCell_same _ B 4 _ t b4 r3
   have r5 := heap_setCell_same _ B 5 _ t b5 r4
   have r6 := heap_setCell_same _ B 6 _ t b6 r5
   have r7 := heap_setCell_same _ B 7 _ t b7 r6
   have r8 := heap_setCell_same _ B 8 _ t b8 r7
   have r9 := heap_setCell_same _ B 9 _ t b9 r8
   simp only [sA, sB, sC] at r9
   exact r9
set_option maxHeartbeats 4000000 in
set_option maxRecDepth 100000 in
theorem object_o {n Bm : Nat} {o : S26} {dn : Int} {w : World} (h : MachO n Bm o dn w) (hl : o.f0.length ≤ 100000 ∧ o.f1.length ≤ 100000 ∧ o.f2.length ≤ 100000 ∧ o.f3.length ≤ 100000 ∧ o.f6.length ≤ 100000 ∧ o.f7.length ≤ 100000 ∧ o.f8.length ≤ 100000 ∧ o.f9.length ≤ 100000) :
 Calls Tryz.prog 26 #[.pointer (some ⟨Bm, 0, none⟩)] w fun e w' => ∃ B0 B1 B2 B3 B6 B7 B8 B9 d0 d1 d2 d3 d6 d7 d8 d9, e = .returned (.agg #[.slice B0 o.f0.length d0, .slice B1 o.f1.length d1, .slice B2 o.f2.length d2, .slice B3 o.f3.length d3, .int .i64 o.f4, .int .i64 o.f5, .slice B6 o.f6.length d6, .slice B7 o.f7.length d7, .slice B8 o.f8.length d8, .slice B9 o.f9.length d9]) ∧ ObjC w' o B0 B1 B2 B3 B6 B7 B8 B9 d0 d1 d2 d3 d6 d7 d8 d9 ∧ Below w.heap.size w w' := by
 obtain ⟨cs, v0, v1, v2, v3, v6, v7, v8, v9, hM⟩ := h
 obtain ⟨A0, c0, e0, g0, C0, -⟩ := R_list hM.r0
 obtain ⟨A1, c1, e1, g1, C1, -⟩ := R_list hM.r1
 obtain ⟨A2, c2, e2, g2, C2, -⟩ := R_list hM.r2
 obtain ⟨A3, c3, e3, g3, C3, -⟩ := R_list hM.r3
 obtain ⟨A6, c6, e6, g6, C6, -⟩ := R_list hM.r6
 obtain ⟨A7, c7, e7, g7, C7, -⟩ := R_list hM.r7
 obtain ⟨A8, c8, e8, g8, C8, -⟩ := R_list hM.r8
 obtain ⟨A9, c9, e9, g9, C9, -⟩ := R_list hM.r9
 subst e0
 subst e1
 subst e2
 subst e3
 subst e6
 subst e7
 subst e8
 subst e9
 have k0 : ∀ x, (w.alloc x).cell? ⟨Bm, 0, none⟩ = some (.slice A0 o.f0.length c0) := fun x => (hM.below (below_alloc (Below.refl _ _) x)).cell (by decide) hM.o0
 have k1 : ∀ x, (w.alloc x).cell? ⟨Bm, 1, none⟩ = some (.slice A1 o.f1.length c1) := fun x => (hM.below (below_alloc (Below.refl _ _) x)).cell (by decide) hM.o1
 have k2 : ∀ x, (w.alloc x).cell? ⟨Bm, 2, none⟩ = some (.slice A2 o.f2.length c2) := fun x => (hM.below (below_alloc (Below.refl _ _) x)).cell (by decide) hM.o2
 have k3 : ∀ x, (w.alloc x).cell? ⟨Bm, 3, none⟩ = some (.slice A3 o.f3.length c3) := fun x => (hM.below (below_alloc (Below.refl _ _) x)).cell (by decide) hM.o3
 have k4 : ∀ x, (w.alloc x).cell? ⟨Bm, 4, none⟩ = some (.int .i64 o.f4) := fun x => (hM.below (below_alloc (Below.refl _ _) x)).cell (by decide) hM.o4
 have k5 : ∀ x, (w.alloc x).cell? ⟨Bm, 5, none⟩ = some (.int .i64 o.f5) := fun x => (hM.below (below_alloc (Below.refl _ _) x)).cell (by decide) hM.o5
 have k6 : ∀ x, (w.alloc x).cell? ⟨Bm, 6, none⟩ = some (.slice A6 o.f6.length c6) := fun x => (hM.below (below_alloc (Below.refl _ _) x)).cell (by decide) hM.o6
 have k7 : ∀ x, (w.alloc x).cell? ⟨Bm, 7, none⟩ = some (.slice A7 o.f7.length c7) := fun x => (hM.below (below_alloc (Below.refl _ _) x)).cell (by decide) hM.o7
 have k8 : ∀ x, (w.alloc x).cell? ⟨Bm, 8, none⟩ = some (.slice A8 o.f8.length c8) := fun x => (hM.below (below_alloc (Below.refl _ _) x)).cell (by decide) hM.o8
 have k9 : ∀ x, (w.alloc x).cell? ⟨Bm, 9, none⟩ = some (.slice A9 o.f9.length c9) := fun x => (hM.below (below_alloc (Below.refl _ _) x)).cell (by decide) hM.o9
 have HC := Aside0.mk (And.intro C0 (And.intro C1 (And.intro C2 (And.intro C3 (And.intro C6 (And.intro C7 (And.intro C8 C9)))))))
 clear C0 g0 C1 g1 C2 g2 C3 g3 C6 g6 C7 g7 C8 g8 C9 g9 hM
 go_enter Tryz.func26, Tryz.ntmps26
 go_wp2_with fail
 obtain ⟨w1, hw1⟩ : ∃ z, w.alloc (Obj.cells #[.slice none 0 0, .slice none 0 0, .slice none 0 0, .slice none 0 0, .int .i64 0, .int .i64 0, .slice none 0 0, .slice none 0 0, .slice none 0 0, .slice none 0 0] 26) = z := ⟨_, rfl⟩
 have hb1 : Below w.heap.size w w1 := by rw [← hw1]; exact below_alloc (Below.refl _ _) _
 have X1 := Aside0.mk (show w1.heap[w.heap.size]? = some (.cells #[.slice none 0 0, .slice none 0 0, .slice none 0 0, .slice none 0 0, .int .i64 0, .int .i64 0, .slice none 0 0, .slice none 0 0, .slice none 0 0, .slice none 0 0] 26 (0, 0)) by rw [← hw1]; exact blk_new w _)
 rw [hw1]
 clear hw1 k0 k1 k2 k3 k4 k5 k6 k7 k8 k9
 have HL := Aside0.mk hl
 have WB1 := Aside0.mk hb1
 clear hl hb1
 refine (copied_any A0 A1 A2 A3 A6 A7 A8 A9 c0 c1 c2 c3 c6 c7 c8 c9 o.f0 o.f1 o.f2 o.f3 o.f4 o.f5 o.f6 o.f7 o.f8 o.f9 w1 (Kd.C_below HC.out.1 WB1.out) (by have := HL.out; omega) (Kd.C_below HC.out.2.1 WB1.out) (by have := HL.out; omega) (Kd.C_below HC.out.2.2.1 WB1.out) (by have := HL.out; omega) (Kd.C_below HC.out.2.2.2.1 WB1.out) (by have := HL.out; omega) (Kd.C_below HC.out.2.2.2.2.1 WB1.out) (by have := HL.out; omega) (Kd.C_below HC.out.2.2.2.2.2.1 WB1.out) (by have := HL.out; omega) (Kd.C_below HC.out.2.2.2.2.2.2.1 WB1.out) (by have := HL.out; omega) (Kd.C_below HC.out.2.2.2.2.2.2.2 WB1.out) (by have := HL.out; omega)).mono ?_
 rintro e w2 ⟨v0, v1, v2, v3, v6, v7, v8, v9, rfl, R0, R1, R2, R3, R6, R7, R8, R9, hb2⟩
 obtain ⟨B0, d0, e0, g0, C0, N0⟩ := R_list (Kd.R_mono (Kd.R_bound R0) (ok' := fun k => w1.heap.size ≤ k) (fun _ hk => hk.2.1))
 obtain ⟨B1, d1, e1, g1, C1, N1⟩ := R_list (Kd.R_mono (Kd.R_bound R1) (ok' := fun k => w1.heap.size ≤ k) (fun _ hk => hk.2.1))
 obtain ⟨B2, d2, e2, g2, C2, N2⟩ := R_list (Kd.R_mono (Kd.R_bound R2) (ok' := fun k => w1.heap.size ≤ k) (fun _ hk => hk.2.1))
 obtain ⟨B3, d3, e3, g3, C3, N3⟩ := R_list (Kd.R_mono (Kd.R_bound R3) (ok' := fun k => w1.heap.size ≤ k) (fun _ hk => hk.2.1))
 obtain ⟨B6, d6, e6, g6, C6, N6⟩ := R_list (Kd.R_mono (Kd.R_bound R6) (ok' := fun k => w1.heap.size ≤ k) (fun _ hk => hk.2.1))
 obtain ⟨B7, d7, e7, g7, C7, N7⟩ := R_list (Kd.R_mono (Kd.R_bound R7) (ok' := fun k => w1.heap.size ≤ k) (fun _ hk => hk.2.1))
 obtain ⟨B8, d8, e8, g8, C8, N8⟩ := R_list (Kd.R_mono (Kd.R_bound R8) (ok' := fun k => w1.heap.size ≤ k) (fun _ hk => hk.2.1))
 obtain ⟨B9, d9, e9, g9, C9, N9⟩ := R_list (Kd.R_mono (Kd.R_bound R9) (ok' := fun k => w1.heap.size ≤ k) (fun _ hk => hk.2.1))
 subst e0
 subst e1
 subst e2
 subst e3
 subst e6
 subst e7
 subst e8
 subst e9
 have X2 := Aside0.mk ((hb2.block _ (lt_of_block X1.out)).trans X1.out)
 have WB2 := Aside0.mk (below_step WB1.out hb2)
 have hz := lt_of_block X1.out
 have E0 := Aside0.mk (And.intro C0 (And.intro g0 N0))
 have E1 := Aside0.mk (And.intro C1 (And.intro g1 N1))
 have E2 := Aside0.mk (And.intro C2 (And.intro g2 N2))
 have E3 := Aside0.mk (And.intro C3 (And.intro g3 N3))
 have E6 := Aside0.mk (And.intro C6 (And.intro g6 N6))
 have E7 := Aside0.mk (And.intro C7 (And.intro g7 N7))
 have E8 := Aside0.mk (And.intro C8 (And.intro g8 N8))
 have E9 := Aside0.mk (And.intro C9 (And.intro g9 N9))
 clear R0 C0 g0 N0 R1 C1 g1 N1 R2 C2 g2 N2 R3 C3 g3 N3 R6 C6 g6 N6 R7 C7 g7 N7 R8 C8 g8 N8 R9 C9 g9 N9 hb2 X1 HC
 have f0 := blk_frozen X2.out 0
 have q0 := (blk_cell X2.out 0).trans rfl
 have f1 := blk_frozen X2.out 1
 have q1 := (blk_cell X2.out 1).trans rfl
 have f2 := blk_frozen X2.out 2
 have q2 := (blk_cell X2.out 2).trans rfl
 have f3 := blk_frozen X2.out 3
 have q3 := (blk_cell X2.out 3).trans rfl
 have f4 := blk_frozen X2.out 4
 have q4 := (blk_cell X2.out 4).trans rfl
 have f5 := blk_frozen X2.out 5
 have q5 := (blk_cell X2.out 5).trans rfl
 have f6 := blk_frozen X2.out 6
 have q6 := (blk_cell X2.out 6).trans rfl
 have f7 := blk_frozen X2.out 7
 have q7 := (blk_cell X2.out 7).trans rfl
 have f8 := blk_frozen X2.out 8
 have q8 := (blk_cell X2.out 8).trans rfl
 have f9 := blk_frozen X2.out 9
 have q9 := (blk_cell X2.out 9).trans rfl
 go_wp2_with fail
 obtain ⟨w3, hw3, hc3, hr3⟩ := ten_set w2 w.heap.size (.slice B0 o.f0.length d0) (.slice B1 o.f1.length d1) (.slice B2 o.f2.length d2) (.slice B3 o.f3.length d3) (.int .i64 o.f4) (.int .i64 o.f5) (.slice B6 o.f6.length d6) (.slice B7 o.f7.length d7) (.slice B8 o.f8.length d8) (.slice B9 o.f9.length d9)
 rw [hw3]
 have hX3 := hr3 _ _ _ _ _ _ _ _ _ _ _ X2.out
 clear hw3 hr3 f0 q0 f1 q1 f2 q2 f3 q3 f4 q4 f5 q5 f6 q6 f7 q7 f8 q8 f9 q9
 refine bodyPost_ret (results_cell_row rfl _ _ w.heap.size 26 #[.slice B0 o.f0.length d0, .slice B1 o.f1.length d1, .slice B2 o.f2.length d2, .slice B3 o.f3.length d3, .int .i64 o.f4, .int .i64 o.f5, .slice B6 o.f6.length d6, .slice B7 o.f7.length d7, .slice B8 o.f8.length d8, .slice B9 o.f9.length d9] (0, 0) _ rfl hX3 Tryz.underlying26 rfl (by kernel_rfl)) rfl ?_
 have kp : ∀ {α : Type} {d : Kd α} {A : Option Addr} {l : List α} {c : Nat}, (d.C w2 A l.length l ∧ l.length ≤ c ∧ ∀ ad, A = some ad → 0 < l.length → w1.heap.size ≤ ad.block) → (∀ x cs, d.K w2 x cs → d.K w3 x cs) → d.C w3 A l.length l := fun h hK => C_keep h.1 (fun ad ha hp hs => by have h1 := h.2.2 ad ha hp; have h2 : ad.block = w.heap.size := hs; omega) hc3 hK
 exact ⟨B0, B1, B2, B3, B6, B7, B8, B9, d0, d1, d2, d3, d6, d7, d8, d9, rfl, ⟨kp E0.out (fun _ _ hk => hk), kp E1.out (fun _ _ hk => hk), kp E2.out (fun _ _ hk => hk), kp E3.out (fun _ _ hk => hk), kp E6.out (fun _ _ hk => k49_keep hk), kp E7.out (fun _ _ hk => k49_keep hk), kp E8.out (fun _ _ hk => k49_keep hk), kp E9.out (fun _ _ hk => k49_keep hk), E0.out.2.1, E1.out.2.1, E2.out.2.1, E3.out.2.1, E6.out.2.1, E7.out.2.1, E8.out.2.1, E9.out.2.1⟩, hc3.to_below WB2.out.size (fun k hk => by have h2 : k = w.heap.size := hk; omega) WB2.out⟩

/-- A list of truths that is read, beside block Bm. -/
structure LB (Bm : Nat) (w : World) (A : Option Addr) (l : List Bool) : Prop where
 c : Kd.C Kd.bool w A l.length l
 ne : ∀ ad, A = some ad → 0 < l.length → ad.block ≠ Bm
theorem LB.chg {Bm : Nat} {w w' : World} {A : Option Addr} {l : List Bool} (h : LB Bm w A l) (hc : Chg (fun k => k = Bm) w w') : LB Bm w' A l := ⟨C_keep h.c h.ne hc (fun _ _ hk => hk), h.ne⟩
theorem LB.below {Bm : Nat} {w w' : World} {A : Option Addr} {l : List Bool} (h : LB Bm w A l) (hb : Below w.heap.size w w') : LB Bm w' A l := h.chg (Chg.of_below hb _)
theorem R_own {e base : Nat} {w : World} {ok : Nat → Prop} {v : Value} {l : List Int} (h : (Kd.int .i64).R e w base ok v l) : (Kd.int .i64).R e w base (fun k => some k = v.ownBlock) v l := ⟨fun k hk => hk.symm, h.2⟩
def msR_T : Bool × List (List Nat × List Nat) := (true, [([], []), ([0], [0]), ([1], [1]), ([2], [2]), ([], []), ([4], [4]), ([5], [5]), ([6], [6]), ([], []), ([3, 0, 1, 2, 3], [3]), ([7, 9, 0, 1, 2, 3, 4, 5, 6, 7, 9], [7]), ([8, 10, 0, 1, 2, 3, 4, 5, 6, 7, 8, 9, 10], [8]), ([11, 0, 1, 2, 3, 4, 5, 6, 7, 8, 9, 10, 11], [])])
def msR_B : List Nat := [0, 1, 3, 7, 0, 16, 48, 112, 0, 15, 767, 2047, 4095]
theorem msR_tab : rtab .any (opsOf Tryz.f28 8) = msR_T := by kernel_rfl
theorem msR_bits : waitsOk msR_T.2 msR_B = true := by kernel_rfl
set_option maxHeartbeats 2000000 in
set_option maxRecDepth 100000 in
theorem mstep_any {n Bm : Nat} {cs : Array Value} {v0 v1 v2 v3 v6 v7 v8 v9 : Value} {l0 l1 l2 l3 : List Int} {a4 a5 : Int} {l6 l7 l8 l9 : List S49} {dn : Int} {w : World} (h : Mach n Bm cs v0 v1 v2 v3 v6 v7 v8 v9 l0 l1 l2 l3 a4 a5 l6 l7 l8 l9 dn w) (O : Int → Int → Int → Int → Option (Int × Int)) (hO : OpsFor cs O) (k nr : Nat) (Ai As Am Ar : Option Addr) (ci cs' cm cr : Nat) (inn st mem : List Int) (raised : List Bool)
 (hi : LI Bm w Ai inn) (hs : LI Bm w As st) (hm : LI Bm w Am mem) (hrs : LB Bm w Ar raised) (hf : inn.length = l0.length ∧ st.length = l2.length ∧ mem.length = l3.length) (hrl : a4 = (raised.length : Int))
 (hmx : (if regsTo (four l6 l7 l8 l9) 4 < 1 then 1 else regsTo (four l6 l7 l8 l9) 4) = (nr : Int)) (hn0 : 0 < nr) (hn1 : nr ≤ 4000) (hls : st.length ≤ 100000) (hlm : mem.length ≤ 100000) (s' : RS) (dn' : Int)
 (hr : runV O inn st mem raised l8 k 0 dn ⟨List.replicate nr 0, 0, [], st, mem⟩ = some (s', dn')) :
 Calls Tryz.prog 28 #[.pointer (some ⟨Bm, 0, none⟩), .slice Ai inn.length ci, .slice As st.length cs', .slice Am mem.length cm, .slice Ar raised.length cr] w fun e w' => ∃ vS vM, e = .returned (.tuple #[vS, vM, .int .i64 s'.fl, .int .i64 0]) ∧ Kd.R (Kd.int .i64) 2 w' w.heap.size (fun k => k ≠ Bm) vS s'.ns ∧ Kd.R (Kd.int .i64) 2 w' w.heap.size (fun k => k ≠ Bm) vM s'.nm ∧ Mach n Bm cs v0 v1 v2 v3 v6 v7 v8 v9 l0 l1 l2 l3 a4 a5 l6 l7 l8 l9 dn' w' ∧ Chg (fun k => k = Bm) w w' := by
 obtain ⟨AL, cl, hvL, hLc, hLC, hLn⟩ := R_list h.r8
 subst hvL
 have H := Aside0.mk h
 have HO := Aside0.mk hO
 have HL := Aside0.mk (And.intro hLC hLn)
 have HI := Aside0.mk hi
 have HS := Aside0.mk hs
 have HM := Aside0.mk hm
 have HB := Aside0.mk hrs
 have HR := Aside0.mk hr
 have HF := Aside0.mk hf
 have hlt : Bm < w.heap.size := lt_of_block h.blk
 have k4 := h.cell (by decide) h.o4
 have hnb : ((raised.length : Int) != a4) = false := by rw [hrl]; simp
 have hne : decide ((raised.length : Int) = a4) = true := decide_eq_true hrl.symm
 clear h hO hLC hLn hLc hi hs hm hrs hr hf
 go_enter Tryz.func28, Tryz.ntmps28
 go_wp2_with (go_at_call 69; refine (fits_yes H.out Ai As Am inn.length st.length mem.length ci cs' cm HF.out).mono ?_; rintro e w1 ⟨rfl, rfl⟩)
 refine (clone23 As cs' st _ HS.out.c (by omega)).mono ?_
 rintro e w2 ⟨vS, rfl, hRS, hb2⟩
 obtain ⟨AS, cS, rfl⟩ := Kd.R_slice hRS
 have hbS := (Kd.R_bound hRS).1
 have RS2 := Aside0.mk (R_own hRS)
 have B2 := Aside0.mk hb2
 have hz2 : w1.heap.size ≤ w2.heap.size := hb2.size
 clear hRS hb2
 go_wp2_with fail
 refine (clone23 Am cm mem _ (Kd.C_below HM.out.c B2.out) (by omega)).mono ?_
 rintro e w3 ⟨vM, rfl, hRM, hb3⟩
 obtain ⟨AM, cM, rfl⟩ := Kd.R_slice hRM
 have hbM := (Kd.R_bound hRM).1
 have RS3 := Aside0.mk (Kd.R_below RS2.out hb3)
 have RM3 := Aside0.mk (Kd.R_lower (R_own hRM) hz2)
 have B3 := Aside0.mk (below_step B2.out hb3)
 have hz3 : w2.heap.size ≤ w3.heap.size := hb3.size
 clear hRM hb3 RS2 B2
 have k8 : ∀ x, (w3.alloc x).cell? ⟨Bm, 8, none⟩ = some (.slice AL l8.length cl) := fun x => (H.out.below (below_step B3.out (below_alloc (Below.refl _ _) x))).cell (by decide) H.out.o8
 go_wp2_with fail
 obtain ⟨w4, hw4⟩ : ∃ z, w3.alloc (Obj.cells #[.slice Ai inn.length ci, .slice As st.length cs', .slice Am mem.length cm, .slice Ar raised.length cr, .slice none 0 0, .slice AS st.length cS, .slice AM mem.length cM] 121) = z := ⟨_, rfl⟩
 have hb4 : Below w3.heap.size w3 w4 := by rw [← hw4]; exact below_alloc (Below.refl _ _) _
 have hbk : w4.heap[w3.heap.size]? = some (.cells #[.slice Ai inn.length ci, .slice As st.length cs', .slice Am mem.length cm, .slice Ar raised.length cr, .slice none 0 0, .slice AS st.length cS, .slice AM mem.length cM] 121 (0, 0)) := by rw [← hw4]; exact blk_new w3 _
 have hz4 : w4.heap.size = w3.heap.size + 1 := by rw [← hw4]; simp
 rw [hw4]
 clear hw4 k8 hnb hne
 have RS4 := Aside0.mk (Kd.R_below RS3.out hb4)
 have RM4 := Aside0.mk (Kd.R_below RM3.out hb4)
 have hb14 : Below w1.heap.size w1 w4 := below_step B3.out hb4
 have M4 := H.out.below hb14
 have hC : RunC w4 Bm w3.heap.size AL Ai As Am Ar ci cs' cm cr (.slice none 0 0) (.slice AS st.length cS) (.slice AM mem.length cM) none (Value.slice AS st.length cS).ownBlock (Value.slice AM mem.length cM).ownBlock l8 inn st mem raised := by
  have hSo : ∀ q, S0 Bm none (Value.slice AS st.length cS).ownBlock (Value.slice AM mem.length cM).ownBlock q → q = Bm ∨ (w1.heap.size ≤ q ∧ q < w3.heap.size) := fun q hq => by
   rcases hq with h2 | h2 | h2 | h2
   · exact .inl h2
   · cases h2
   · have := hbS q h2.symm; exact .inr (by omega)
   · have := hbM q h2.symm; exact .inr (by omega)
  have key : ∀ {α : Type} {d : Kd α} {A : Option Addr} {m : Nat} {xs : List α}, d.C w1 A m xs → 0 < d.sz → (∀ ad, A = some ad → 0 < m → ad.block ≠ Bm) → ∀ ad, A = some ad → 0 < m → ¬ S0 Bm none (Value.slice AS st.length cS).ownBlock (Value.slice AM mem.length cM).ownBlock ad.block := fun hc hz hn ad ha hp hS => by
   subst ha
   have hlt := C_lt hc hp hz
   have h1 := hn ad rfl hp
   have h2 := hSo _ hS
   omega
  exact ⟨hbk, Kd.C_below HL.out.1 hb14, (HI.out.below hb14).c, (HS.out.below hb14).c, (HM.out.below hb14).c, (HB.out.below hb14).c,
   (fun hS => by have := hSo _ hS; omega), key HL.out.1 (by decide) HL.out.2, key HI.out.c (by decide) HI.out.ne, key HS.out.c (by decide) HS.out.ne, key HM.out.c (by decide) HM.out.ne, key HB.out.c (by decide) HB.out.ne,
   (fun hh => by cases hh), (fun hh => by have := hbS Bm hh.symm; omega), (fun hh => by have := hbM Bm hh.symm; omega), (fun q hh => by cases hh), (fun q hh => by cases hh), (fun q hh hh2 => by have := hbS q hh.symm; have := hbM q hh2.symm; omega), (fun q hh => by cases hh), (fun q hh => by have := hbS q hh.symm; omega), (fun q hh => by have := hbM q hh.symm; omega), by omega⟩
 have hO4 : OpsOk w4 (S0 Bm none (Value.slice AS st.length cS).ownBlock (Value.slice AM mem.length cM).ownBlock) cs O := HO.out w4 _ (fun op ho => by
  obtain ⟨b, h1, h2, h3, h4⟩ := H.out.ops op ho
  have hltb := lt_of_block h4
  refine ⟨b, fun hS => ?_, h3, (hb14.block b hltb).trans h4⟩
  rcases hS with h5 | h5 | h5 | h5
  · exact h2 h5
  · cases h5
  · have := hbS b h5.symm; omega
  · have := hbM b h5.symm; omega) H.out.pick
 refine (run_any O k w4 Bm w3.heap.size cs AL Ai As Am Ar cl ci cs' cm cr _ _ _ none _ _ w1.heap.size nr _ dn l8 inn st mem raised [] st mem hC M4.blk M4.sz M4.rg hmx hn0 hn1 (Kd.R_nil _ _ _ _ _) RS4.out RM4.out hO4 s' dn' HR.out).mono ?_
 rintro e w5 ⟨rfl, hc, hmach, -, hns, hnm⟩
 have hnb : ¬ S0 Bm none (Value.slice AS st.length cS).ownBlock (Value.slice AM mem.length cM).ownBlock w3.heap.size := hC.nBk
 have KB := Aside0.mk ((hc.block _ (blk_lt hbk) hnb).trans hbk)
 have HCH := Aside0.mk (show Chg (fun k => k = Bm) w1 w5 from ((Chg.of_below hb14 (fun k => k = Bm)).then_ hc (fun i hi => by
  rcases hi with h5 | h5 | h5 | h5
  · exact .inl h5
  · cases h5
  · have := hbS i h5.symm; exact .inr (by omega)
  · have := hbM i h5.symm; exact .inr (by omega))))
 have HMA := Aside0.mk hmach
 have HNS := Aside0.mk (Kd.R_mono hns (ok' := fun k => k ≠ Bm) (fun q hq e => by have := hbS q hq.symm; omega))
 have HNM := Aside0.mk (Kd.R_mono hnm (ok' := fun k => k ≠ Bm) (fun q hq e => by have := hbM q hq.symm; omega))
 clear hbk hb4 hb14 hC hO4 hc hmach hns hnm hnb M4 hbS hbM RS3 RM3 RS4 RM4
 go_wp2_with fail
 refine start_ (n := 13) (S := fun w' => w'.cell? ⟨w3.heap.size, 5, none⟩ = some (.slice AS st.length cS) ∧ w'.cell? ⟨w3.heap.size, 6, none⟩ = some (.slice AM mem.length cM)) (ds := []) (Array.replicate 13 false) (by kernel_rfl) rfl rfl ⟨(blk_cell KB.out 5).trans rfl, (blk_cell KB.out 6).trans rfl⟩ (fun hHeld => ?_); refine with_tabW msR_tab msR_bits (fun HT_ HW_ => ?_)
 refine pu HT_ 0 57 rfl rfl (by kernel_rfl) (fun _ _ _ h => h) (by rfl) (by intro w'; go_simp; with_reducible rfl) (by simp only [Act.put, sA, sB, sC, i64_w, i32_w]; rfl) ?_
 refine pu HT_ 1 58 rfl rfl (by kernel_rfl) (fun _ _ _ h => h) (by rfl) (by intro w'; go_simp; with_reducible rfl) (by simp only [Act.put, sA, sB, sC, i64_w, i32_w]; rfl) ?_
 refine pu HT_ 2 59 rfl rfl (by kernel_rfl) (fun _ _ _ h => h) (by rfl) (by intro w'; go_simp; with_reducible rfl) (by simp only [Act.put, sA, sB, sC, i64_w, i32_w]; rfl) ?_
 refine pu HT_ 4 61 rfl rfl (by kernel_rfl) (fun _ _ _ h => h) (by rfl) (by intro w'; go_simp; with_reducible rfl) (by simp only [Act.put, sA, sB, sC, i64_w, i32_w]; rfl) ?_
 refine pu HT_ 5 62 rfl rfl (by kernel_rfl) (fun _ _ _ h => h) (by rfl) (by intro w'; go_simp; with_reducible rfl) (by simp only [Act.put, sA, sB, sC, i64_w, i32_w]; rfl) ?_
 refine pu HT_ 6 63 rfl rfl (by kernel_rfl) (fun _ _ _ h => h) (by rfl) (by intro w'; go_simp; with_reducible rfl) (by simp only [Act.put, sA, sB, sC, i64_w, i32_w]; rfl) ?_
 refine pu HT_ 8 65 rfl rfl (by kernel_rfl) (fun _ _ _ h => h) (by rfl) (by intro w'; go_simp; with_reducible rfl) (by simp only [Act.put, sA, sB, sC, i64_w, i32_w]; rfl) ?_
 refine tk HT_ HW_ hHeld 3 60 rfl rfl (by kernel_rfl) (fun _ _ _ h => h) (by rfl) (by rintro w' ⟨s0, s1⟩; go_simp; with_reducible rfl) (by simp only [Act.put, sA, sB, sC, i64_w, i32_w]; rfl) ?_
 refine tk HT_ HW_ hHeld 7 64 rfl rfl (by kernel_rfl) (fun _ _ _ h => h) (by rfl) (by rintro w' ⟨s0, s1⟩; go_simp; with_reducible rfl) (by simp only [Act.put, sA, sB, sC, i64_w, i32_w]; rfl) ?_
 refine pu HT_ 9 10 rfl rfl (by kernel_rfl) (fun _ _ _ h => h) (by rfl) (by intro w'; go_simp; with_reducible rfl) (by simp only [Act.put, sA, sB, sC, i64_w, i32_w]; rfl) ?_
 refine pu HT_ 10 11 rfl rfl (by kernel_rfl) (fun _ _ _ h => h) (by rfl) (by intro w'; go_simp; with_reducible rfl) (by simp only [Act.put, sA, sB, sC, i64_w, i32_w]; rfl) ?_
 refine pu HT_ 11 12 rfl rfl (by kernel_rfl) (fun _ _ _ h => h) (by rfl) (by intro w'; go_simp; with_reducible rfl) (by simp only [Act.put, sA, sB, sC, i64_w, i32_w]; rfl) ?_
 refine pu HT_ 12 13 rfl rfl (by kernel_rfl) (fun _ _ _ h => h) (by rfl) (by intro w'; go_simp; with_reducible rfl) (by simp only [Act.put, sA, sB, sC, i64_w, i32_w]; rfl) ?_
 refine done_ (done_of HT_.out (by kernel_rfl)) ?_
 try go_wp2
 refine bodyPost_ret (results_list (rs := [.tmp 10, .tmp 11, .tmp 12, .tmp 13]) rfl (by simp) (.tmp (.tmp (.tmp (.tmp .nil))))) rfl ?_
 exact ⟨_, _, rfl, Kd.R_drewN HNS.out _, Kd.R_drewN HNM.out _, H.out.chg HCH.out.drew (by exact HMA.out), HCH.out.drew⟩

/-- What a step of an object leaves, and how many instructions are done. -/
def stepRO (o : S26) (inn st mem : List Int) (raised : List Bool) : RS := pieceR o 2 inn st mem raised [] st mem
def stepNO (o : S26) (inn st mem : List Int) (raised : List Bool) : Int := pieceN o 2 inn st mem raised [] st mem
theorem stepRO_run {o : S26} (G : Good o) {inn st mem : List Int} {raised : List Bool} (hf : Fits o inn st mem) (hr : (raised.length : Int) = o.f4) (ai : AllIn inn) (ais : AllIn st) (am : AllIn mem) :
 ((stepRO o inn st mem raised).ns.length = o.f2.length ∧ AllIn (stepRO o inn st mem raised).ns) ∧ ((stepRO o inn st mem raised).nm.length = o.f3.length ∧ AllIn (stepRO o inn st mem raised).nm) ∧ 0 ≤ stepNO o inn st mem raised ∧ stepNO o inn st mem raised ≤ o.f8.length ∧
  ∀ dn : Int, 0 ≤ dn → dn ≤ 100000000000 → runV opV inn st mem raised o.f8 4001 0 dn (rs0 o [] st mem) = some (stepRO o inn st mem raised, dn + stepNO o inn st mem raised) := by
 obtain ⟨h1, h2, h3, -, h4⟩ := piece_run G 2 (by omega) (raised := raised) hf (fun _ => hr) ai ais am (put := []) (fun _ hx => by cases hx) ais am (by simp) (fun _ => hf.2.1) (fun _ => hf.2.2)
 exact ⟨⟨h1.sl.trans hf.2.1, h1.si⟩, ⟨h1.ml.trans hf.2.2, h1.mi⟩, h2, h3, h4⟩
theorem mstep_right {n Bm : Nat} {o : S26} {dn : Int} {w : World} (h : MachO n Bm o dn w) (G : Good o) (Ai As Am Ar : Option Addr) (ci cs' cm cr : Nat) (inn st mem : List Int) (raised : List Bool) (hi : LI Bm w Ai inn) (hs : LI Bm w As st) (hm : LI Bm w Am mem) (hrs : LB Bm w Ar raised)
 (hf : Fits o inn st mem) (hr : (raised.length : Int) = o.f4) (ai : AllIn inn) (ais : AllIn st) (am : AllIn mem) (hd0 : 0 ≤ dn) (hd1 : dn ≤ 100000000000) :
 Calls Tryz.prog 28 #[.pointer (some ⟨Bm, 0, none⟩), .slice Ai inn.length ci, .slice As st.length cs', .slice Am mem.length cm, .slice Ar raised.length cr] w fun e w' => ∃ vS vM, e = .returned (.tuple #[vS, vM, .int .i64 (stepRO o inn st mem raised).fl, .int .i64 0]) ∧
  Kd.R (Kd.int .i64) 2 w' w.heap.size (fun k => k ≠ Bm) vS (stepRO o inn st mem raised).ns ∧ Kd.R (Kd.int .i64) 2 w' w.heap.size (fun k => k ≠ Bm) vM (stepRO o inn st mem raised).nm ∧ MachO n Bm o (dn + stepNO o inn st mem raised) w' ∧ Chg (fun k => k = Bm) w w' := by
 obtain ⟨cs, v0, v1, v2, v3, v6, v7, v8, v9, hM⟩ := h
 obtain ⟨e1, e2, e3⟩ := nr_ready G
 have hb := right_bounds G.right
 obtain ⟨-, -, -, -, hrun⟩ := stepRO_run G hf hr ai ais am
 refine (mstep_any hM opV (opsForV cs) 4001 (nrO o) Ai As Am Ar ci cs' cm cr inn st mem raised hi hs hm hrs hf hr.symm e1 e2 e3 (by have := hf.2.1; omega) (by have := hf.2.2; omega) _ _ (hrun dn hd0 hd1)).mono ?_
 rintro e w' ⟨vS, vM, he, hR1, hR2, hM', hc⟩
 exact ⟨vS, vM, he, hR1, hR2, ⟨cs, v0, v1, v2, v3, v6, v7, v8, v9, hM'⟩, hc⟩
set_option maxHeartbeats 1000000 in
set_option maxRecDepth 100000 in
theorem mstep_no {n Bm : Nat} {o : S26} {dn : Int} {w : World} (h : MachO n Bm o dn w) (Ai As Am Ar : Option Addr) (ci cs' cm cr ni ns nm nr : Nat) (hf : ¬ ((ni = o.f0.length ∧ ns = o.f2.length ∧ nm = o.f3.length) ∧ (nr : Int) = o.f4)) :
 Calls Tryz.prog 28 #[.pointer (some ⟨Bm, 0, none⟩), .slice Ai ni ci, .slice As ns cs', .slice Am nm cm, .slice Ar nr cr] w fun e w' => e = .returned (.tuple #[.slice none 0 0, .slice none 0 0, .int .i64 0, .int .i64 13]) ∧ w' = w := by
 obtain ⟨cs, v0, v1, v2, v3, v6, v7, v8, v9, hM⟩ := h
 have H := Aside0.mk hM
 have k4 := hM.cell (by decide) hM.o4
 clear hM
 by_cases hf1 : ni = o.f0.length ∧ ns = o.f2.length ∧ nm = o.f3.length
 · have hnr : (nr : Int) ≠ o.f4 := fun e => hf ⟨hf1, e⟩
   have hnb : ((nr : Int) != o.f4) = true := by rw [bne_iff_ne]; exact hnr
   have hne : decide ((nr : Int) = o.f4) = false := decide_eq_false hnr
   have HF1 := Aside0.mk hf1
   clear hf hf1 hnr
   go_enter Tryz.func28, Tryz.ntmps28
   go_wp2_with fail
   have hfy := fits_yes H.out Ai As Am ni ns nm ci cs' cm HF1.out
   refine hfy.mono ?_
   rintro e w1 ⟨rfl, rfl⟩
   clear hfy
   go_wp2_with fail
   refine bodyPost_ret (results_list (rs := [.tmp 10, .tmp 11, .tmp 12, .tmp 13]) rfl (by simp) (.tmp (.tmp (.tmp (.tmp .nil))))) rfl ?_
   exact ⟨rfl, rfl⟩
 · have HF1 := Aside0.mk hf1
   clear hf hf1 k4
   go_enter Tryz.func28, Tryz.ntmps28
   go_wp2_with fail
   have hfy := fits_no H.out Ai As Am ni ns nm ci cs' cm HF1.out
   refine hfy.mono ?_
   rintro e w1 ⟨rfl, rfl⟩
   clear hfy
   go_wp2_with fail
   refine bodyPost_ret (results_list (rs := [.tmp 10, .tmp 11, .tmp 12, .tmp 13]) rfl (by simp) (.tmp (.tmp (.tmp (.tmp .nil))))) rfl ?_
   exact ⟨rfl, rfl⟩
end Go.Proofs.YtgalkkolbobmbaaGreat.V
