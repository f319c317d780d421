/- vm.New, of an object that may be. -/
import Derived.Test.YtgalkkolbobmbaaGreatVCopied
import Derived.Test.YtgalkkolbobmbaaGreatVHPlaces
import Derived.Test.YtgalkkolbobmbaaGreatVHRight2
import Derived.Test.YtgalkkolbobmbaaGreatVClone

namespace Go.Proofs.YtgalkkolbobmbaaGreat.V
open Go.RowKit Go.Proofs.YtgalkkolbobmbaaGreatW.PrintWords Go.Proofs.YtgalkkolbobmbaaGreatW.PrintLast Go.Proofs.YtgalkkolbobmbaaGreatW.PrintMore
attribute [local go_sem] max2_int min2_int max_two min_two max_three min_three max_four min_four
set_option linter.unusedVariables false
set_option linter.unusedSimpArgs false
def nw_T : Bool × List (List Nat × List Nat) := (true, [([], []), ([], []), ([1], [1]), ([2], [2]), ([3], [3]), ([], []), ([5], [5]), ([4, 6], [4, 6]), ([0, 0, 1, 2, 3, 4, 5, 6, 7], [0]), ([8, 0, 1, 2, 3, 4, 5, 6, 7], [8]), ([9, 7, 6, 0, 1, 2, 3, 4, 5, 6, 7], [7, 9])])
def nw_B : List Nat := [0, 0, 2, 6, 14, 0, 32, 126, 255, 511, 1023]
theorem nw_tab : rtab .any (opsOf Tryz.f23 7) = nw_T := by kernel_rfl
theorem nw_bits : waitsOk nw_T.2 nw_B = true := by kernel_rfl

theorem array23 (cs : Array Value) (h : cs.size = 23) : ∃ x0 x1 x2 x3 x4 x5 x6 x7 x8 x9 x10 x11 x12 x13 x14 x15 x16 x17 x18 x19 x20 x21 x22, cs = #[x0, x1, x2, x3, x4, x5, x6, x7, x8, x9, x10, x11, x12, x13, x14, x15, x16, x17, x18, x19, x20, x21, x22] := by
 obtain ⟨l⟩ := cs
 match l, h with
 | [x0, x1, x2, x3, x4, x5, x6, x7, x8, x9, x10, x11, x12, x13, x14, x15, x16, x17, x18, x19, x20, x21, x22], _ => exact ⟨_, _, _, _, _, _, _, _, _, _, _, _, _, _, _, _, _, _, _, _, _, _, _, rfl⟩
/-- The registers that the first k pieces ask for. -/
def regsTo (ps : Nat → List S49) : Nat → Int
 | 0 => 0
 | k + 1 => if regsTo ps k < (ps k).foldl regStep 0 then (ps k).foldl regStep 0 else regsTo ps k
theorem right_bounds {l0 l1 l2 l3 : List Int} {a4 a5 : Int} {l6 l7 l8 l9 : List S49} (h : rightO l0 l1 l2 l3 a4 a5 l6 l7 l8 l9 = true) : l0.length ≤ 200 ∧ l1.length ≤ 200 ∧ l2.length ≤ 200 ∧ l3.length ≤ 200 ∧ 0 ≤ a4 ∧ a4 ≤ 200 ∧ l6.length ≤ 4000 ∧ l7.length ≤ 4000 ∧ l8.length ≤ 4000 ∧ l9.length ≤ 4000 := by
 unfold rightO at h
 simp only [Bool.and_eq_true, Bool.not_eq_true'] at h
 obtain ⟨-, -, -, hb, hl, -⟩ := h
 unfold banksB belowB at hb
 unfold longB at hl
 simp only [Bool.and_eq_true, decide_eq_true_eq] at hb hl
 omega
/-- A machine at block Bm: what was made from block n on; it has done dn instructions. -/
structure Mach (n Bm : Nat) (cs : Array Value) (v0 v1 v2 v3 v6 v7 v8 v9 : Value) (l0 l1 l2 l3 : List Int) (a4 a5 : Int) (l6 l7 l8 l9 : List S49) (dn : Int) (w : World) : Prop where
 lo : n ≤ Bm
 blk : w.heap[Bm]? = some (.cells (cs.setIfInBounds 34 (.int .i64 dn)) 112 (0, 0))
 sz : cs.size = 35
 rg : cs[10]? = some (.int .i64 (regsTo (four l6 l7 l8 l9) 4))
 o0 : cs[0]? = some v0
 o1 : cs[1]? = some v1
 o2 : cs[2]? = some v2
 o3 : cs[3]? = some v3
 o4 : cs[4]? = some (.int .i64 a4)
 o5 : cs[5]? = some (.int .i64 a5)
 o6 : cs[6]? = some v6
 o7 : cs[7]? = some v7
 o8 : cs[8]? = some v8
 o9 : cs[9]? = some v9
 r0 : Kd.R (Kd.int .i64) 3 w n (fun k => k ≠ Bm) v0 l0
 r1 : Kd.R (Kd.int .i64) 3 w n (fun k => k ≠ Bm) v1 l1
 r2 : Kd.R (Kd.int .i64) 2 w n (fun k => k ≠ Bm) v2 l2
 r3 : Kd.R (Kd.int .i64) 2 w n (fun k => k ≠ Bm) v3 l3
 r6 : Kd.R k49 49 w n (fun k => k ≠ Bm) v6 l6
 r7 : Kd.R k49 49 w n (fun k => k ≠ Bm) v7 l7
 r8 : Kd.R k49 49 w n (fun k => k ≠ Bm) v8 l8
 r9 : Kd.R k49 49 w n (fun k => k ≠ Bm) v9 l9
 ops : ∀ op, op ∈ [17, 16, 15, 14, 13, 7, 12, 11, 10, 9, 8, 6] → ∃ b, n ≤ b ∧ b ≠ Bm ∧ cs[11 + op]? = some (.func (.func (opOuter op)) #[] #[.pointer (some ⟨b, 0, none⟩)]) ∧ w.heap[b]? = some (.cells #[.func (.func (opInner op)) #[] #[]] (opType op) (0, 0))
 pick : cs[29]? = some (.func (.func 127) #[] #[])
def MachE (n Bm : Nat) (l0 l1 l2 l3 : List Int) (a4 a5 : Int) (l6 l7 l8 l9 : List S49) (dn : Int) (w : World) : Prop := ∃ cs v0 v1 v2 v3 v6 v7 v8 v9, Mach n Bm cs v0 v1 v2 v3 v6 v7 v8 v9 l0 l1 l2 l3 a4 a5 l6 l7 l8 l9 dn w
set_option maxHeartbeats 8000000 in
set_option maxRecDepth 100000 in
theorem new_any (A0 A1 A2 A3 A6 A7 A8 A9 : Option Addr) (c0 c1 c2 c3 c6 c7 c8 c9 : Nat) (l0 l1 l2 l3 : List Int) (a4 a5 : Int) (l6 l7 l8 l9 : List S49) (w : World) (hr0 : Kd.C (Kd.int .i64) w A0 l0.length l0) (hc0 : l0.length ≤ c0) (hr1 : Kd.C (Kd.int .i64) w A1 l1.length l1) (hc1 : l1.length ≤ c1) (hr2 : Kd.C (Kd.int .i64) w A2 l2.length l2) (hc2 : l2.length ≤ c2) (hr3 : Kd.C (Kd.int .i64) w A3 l3.length l3) (hc3 : l3.length ≤ c3) (hr6 : Kd.C k49 w A6 l6.length l6) (hc6 : l6.length ≤ c6) (hr7 : Kd.C k49 w A7 l7.length l7) (hc7 : l7.length ≤ c7) (hr8 : Kd.C k49 w A8 l8.length l8) (hc8 : l8.length ≤ c8) (hr9 : Kd.C k49 w A9 l9.length l9) (hc9 : l9.length ≤ c9) (hright : rightO l0 l1 l2 l3 a4 a5 l6 l7 l8 l9 = true) :
 Calls Tryz.prog 23 #[.agg #[.slice A0 l0.length c0, .slice A1 l1.length c1, .slice A2 l2.length c2, .slice A3 l3.length c3, .int .i64 a4, .int .i64 a5, .slice A6 l6.length c6, .slice A7 l7.length c7, .slice A8 l8.length c8, .slice A9 l9.length c9]] w fun e w' => ∃ Bm : Nat, e = .returned (.tuple #[.pointer (some ⟨Bm, 0, none⟩), .int .i64 0]) ∧ MachE w.heap.size Bm l0 l1 l2 l3 a4 a5 l6 l7 l8 l9 0 w' ∧ Below w.heap.size w w' := by
 obtain ⟨m0, m1, m2, m3, -, -, m6, m7, m8, m9⟩ := right_bounds hright
 have HR0 := Aside0.mk hr0
 have HC0 := Aside0.mk hc0
 have HR1 := Aside0.mk hr1
 have HC1 := Aside0.mk hc1
 have HR2 := Aside0.mk hr2
 have HC2 := Aside0.mk hc2
 have HR3 := Aside0.mk hr3
 have HC3 := Aside0.mk hc3
 have HR6 := Aside0.mk hr6
 have HC6 := Aside0.mk hc6
 have HR7 := Aside0.mk hr7
 have HC7 := Aside0.mk hc7
 have HR8 := Aside0.mk hr8
 have HC8 := Aside0.mk hc8
 have HR9 := Aside0.mk hr9
 have HC9 := Aside0.mk hc9
 have HRT := Aside0.mk hright
 clear hr0 hc0 hr1 hc1 hr2 hc2 hr3 hc3 hr6 hc6 hr7 hc7 hr8 hc8 hr9 hc9 hright
 go_enter Tryz.func23, Tryz.ntmps23
 go_wp2_with (fail)
 obtain ⟨w1, hw1⟩ : ∃ z, (w.alloc (Obj.cells #[.slice A0 l0.length c0, .slice A1 l1.length c1, .slice A2 l2.length c2, .slice A3 l3.length c3, .int .i64 a4, .int .i64 a5, .slice A6 l6.length c6, .slice A7 l7.length c7, .slice A8 l8.length c8, .slice A9 l9.length c9] 26)) = z := ⟨_, rfl⟩
 have HB := Aside0.mk (show Below w.heap.size w w1 by rw [← hw1]; exact (Below.refl _ _).alloc (Nat.le_refl _) _)
 have HG := Aside0.mk (show w1.heap[w.heap.size]? = some (.cells #[.slice A0 l0.length c0, .slice A1 l1.length c1, .slice A2 l2.length c2, .slice A3 l3.length c3, .int .i64 a4, .int .i64 a5, .slice A6 l6.length c6, .slice A7 l7.length c7, .slice A8 l8.length c8, .slice A9 l9.length c9] 26 (0, 0)) by rw [← hw1]; exact blk_new w _)
 rw [hw1]
 clear hw1
 refine (verify_Right.calls A0 c0 l0 A1 c1 l1 A2 c2 l2 A3 c3 l3 a4 a5 A6 c6 l6 A7 c7 l7 A8 c8 l8 A9 c9 l9 true w1 (Kd.C_below HR0.out HB.out) HC0.out (Kd.C_below HR1.out HB.out) HC1.out (Kd.C_below HR2.out HB.out) HC2.out (Kd.C_below HR3.out HB.out) HC3.out (Kd.C_below HR6.out HB.out) HC6.out (Kd.C_below HR7.out HB.out) HC7.out (Kd.C_below HR8.out HB.out) HC8.out (Kd.C_below HR9.out HB.out) HC9.out (congrArg some HRT.out)).mono ?_
 rintro e w2 ⟨rfl, hb⟩
 have HG := Aside0.mk ((hb.block _ (blk_lt HG.out)).trans HG.out)
 have HB := Aside0.mk (below_step HB.out hb)
 clear hb
 go_wp2_with (first | (refine wpList_load_row rfl 26 _ rfl w.heap.size rfl 26 #[.slice A0 l0.length c0, .slice A1 l1.length c1, .slice A2 l2.length c2, .slice A3 l3.length c3, .int .i64 a4, .int .i64 a5, .slice A6 l6.length c6, .slice A7 l7.length c7, .slice A8 l8.length c8, .slice A9 l9.length c9] (0, 0) _ HG.out Tryz.underlying26 rfl (by kernel_rfl) ?_))
 refine (copied_any A0 A1 A2 A3 A6 A7 A8 A9 c0 c1 c2 c3 c6 c7 c8 c9 l0 l1 l2 l3 a4 a5 l6 l7 l8 l9 w2 (Kd.C_below HR0.out HB.out) (by omega) (Kd.C_below HR1.out HB.out) (by omega) (Kd.C_below HR2.out HB.out) (by omega) (Kd.C_below HR3.out HB.out) (by omega) (Kd.C_below HR6.out HB.out) (by omega) (Kd.C_below HR7.out HB.out) (by omega) (Kd.C_below HR8.out HB.out) (by omega) (Kd.C_below HR9.out HB.out) (by omega)).mono ?_
 rintro e w3 ⟨v0, v1, v2, v3, v6, v7, v8, v9, rfl, hR0, hR1, hR2, hR3, hR6, hR7, hR8, hR9, hb⟩
 have R0 := Aside0.mk (Kd.R_lower hR0 HB.out.size)
 have R1 := Aside0.mk (Kd.R_lower hR1 HB.out.size)
 have R2 := Aside0.mk (Kd.R_lower hR2 HB.out.size)
 have R3 := Aside0.mk (Kd.R_lower hR3 HB.out.size)
 have R6 := Aside0.mk (Kd.R_lower hR6 HB.out.size)
 have R7 := Aside0.mk (Kd.R_lower hR7 HB.out.size)
 have R8 := Aside0.mk (Kd.R_lower hR8 HB.out.size)
 have R9 := Aside0.mk (Kd.R_lower hR9 HB.out.size)
 have HG := Aside0.mk ((hb.block _ (blk_lt HG.out)).trans HG.out)
 have HB := Aside0.mk (below_step HB.out hb)
 clear hb hR0 hR1 hR2 hR3 hR6 hR7 hR8 hR9
 go_wp2_with (fail)
 refine (operators_any w3).mono ?_
 rintro e w4 ⟨cs, rfl, hsz, hb, hops, h127⟩
 obtain ⟨x0, x1, x2, x3, x4, x5, x6, x7, x8, x9, x10, x11, x12, x13, x14, x15, x16, x17, x18, x19, x20, x21, x22, rfl⟩ := array23 cs hsz
 have HOP := Aside0.mk (fun op (ho : op ∈ [17, 16, 15, 14, 13, 7, 12, 11, 10, 9, 8, 6]) => (show OpAt w.heap.size w4 _ op from by
  obtain ⟨b, h1, h2, h3⟩ := hops op ho
  exact ⟨b, Nat.le_trans HB.out.size h1, h2, h3⟩))
 have H127 := Aside0.mk h127
 have R0 := Aside0.mk (Kd.R_below R0.out hb)
 have R1 := Aside0.mk (Kd.R_below R1.out hb)
 have R2 := Aside0.mk (Kd.R_below R2.out hb)
 have R3 := Aside0.mk (Kd.R_below R3.out hb)
 have R6 := Aside0.mk (Kd.R_below R6.out hb)
 have R7 := Aside0.mk (Kd.R_below R7.out hb)
 have R8 := Aside0.mk (Kd.R_below R8.out hb)
 have R9 := Aside0.mk (Kd.R_below R9.out hb)
 have HG := Aside0.mk ((hb.block _ (blk_lt HG.out)).trans HG.out)
 have HB := Aside0.mk (below_step HB.out hb)
 clear hb hops h127 hsz
 have kb6 : ∀ o, (w4.alloc o).cell? ⟨w.heap.size, 6, none⟩ = some (.slice A6 l6.length c6) := fun o => (blk_cell (blk_alloc HG.out o) 6).trans rfl
 have kb7 : ∀ o, (w4.alloc o).cell? ⟨w.heap.size, 7, none⟩ = some (.slice A7 l7.length c7) := fun o => (blk_cell (blk_alloc HG.out o) 7).trans rfl
 have kb8 : ∀ o, (w4.alloc o).cell? ⟨w.heap.size, 8, none⟩ = some (.slice A8 l8.length c8) := fun o => (blk_cell (blk_alloc HG.out o) 8).trans rfl
 have kb9 : ∀ o, (w4.alloc o).cell? ⟨w.heap.size, 9, none⟩ = some (.slice A9 l9.length c9) := fun o => (blk_cell (blk_alloc HG.out o) 9).trans rfl
 go_wp2_with (fail)
 clear kb6 kb7 kb8 kb9
 have hxs := Aside0.mk (show w4.heap.size + 1 ≠ w4.heap.size by omega)
 obtain ⟨Bm, hBm⟩ : ∃ b, w4.heap.size = b := ⟨_, rfl⟩
 obtain ⟨w5, hw5⟩ : ∃ z, ((w4.alloc (Obj.cells #[v0, v1, v2, v3, .int .i64 a4, .int .i64 a5, v6, v7, v8, v9, .int .i64 0, x0, x1, x2, x3, x4, x5, x6, x7, x8, x9, x10, x11, x12, x13, x14, x15, x16, x17, x18, x19, x20, x21, x22, .int .i64 0] 112)).alloc (Obj.cells #[.slice A6 l6.length c6, .slice A7 l7.length c7, .slice A8 l8.length c8, .slice A9 l9.length c9] 24)) = z := ⟨_, rfl⟩
 have hb5 : Below w4.heap.size w4 w5 := by rw [← hw5]; exact ((Below.refl _ _).alloc (Nat.le_refl _) _).alloc (by simp) _
 have HM := Aside0.mk (show w5.heap[Bm]? = some (.cells #[v0, v1, v2, v3, .int .i64 a4, .int .i64 a5, v6, v7, v8, v9, .int .i64 (regsTo (four l6 l7 l8 l9) 0), x0, x1, x2, x3, x4, x5, x6, x7, x8, x9, x10, x11, x12, x13, x14, x15, x16, x17, x18, x19, x20, x21, x22, .int .i64 0] 112 (0, 0)) by
  rw [← hw5, ← hBm]
  exact blk_alloc (blk_new w4 _) _)
 have HSL := Aside0.mk (show w5.heap[Bm + 1]? = some (.cells #[.slice A6 l6.length c6, .slice A7 l7.length c7, .slice A8 l8.length c8, .slice A9 l9.length c9] 24 (0, 0)) by
  rw [← hw5, ← hBm]
  have := blk_new (w4.alloc (Obj.cells #[v0, v1, v2, v3, .int .i64 a4, .int .i64 a5, v6, v7, v8, v9, .int .i64 0, x0, x1, x2, x3, x4, x5, x6, x7, x8, x9, x10, x11, x12, x13, x14, x15, x16, x17, x18, x19, x20, x21, x22, .int .i64 0] 112)) (Obj.cells #[.slice A6 l6.length c6, .slice A7 l7.length c7, .slice A8 l8.length c8, .slice A9 l9.length c9] 24)
  simpa using this)
 have R0 := Aside0.mk (Kd.R_below R0.out hb5)
 have R1 := Aside0.mk (Kd.R_below R1.out hb5)
 have R2 := Aside0.mk (Kd.R_below R2.out hb5)
 have R3 := Aside0.mk (Kd.R_below R3.out hb5)
 have R6 := Aside0.mk (Kd.R_below R6.out hb5)
 have R7 := Aside0.mk (Kd.R_below R7.out hb5)
 have R8 := Aside0.mk (Kd.R_below R8.out hb5)
 have R9 := Aside0.mk (Kd.R_below R9.out hb5)
 have HOP := Aside0.mk (fun op (ho : op ∈ [17, 16, 15, 14, 13, 7, 12, 11, 10, 9, 8, 6]) => (show OpAt w.heap.size w5 _ op from by
  obtain ⟨b, h1, h2, h3⟩ := HOP.out op ho
  exact ⟨b, h1, h2, (hb5.block b (lt_of_block h3)).trans h3⟩))
 have HBm := Aside0.mk (show w.heap.size ≤ Bm by rw [← hBm]; exact HB.out.size)
 have HB := Aside0.mk (below_step HB.out hb5)
 have HOL := Aside0.mk (fun op (ho : op ∈ [17, 16, 15, 14, 13, 7, 12, 11, 10, 9, 8, 6]) => (show ∀ b cs t, w5.heap[b]? = some (.cells cs t (0, 0)) → t ≠ 112 → b ≠ Bm from fun b cs t hb ht e => by
  subst e
  rw [HM.out] at hb
  injection hb with hb
  injection hb with _ hb
  exact ht hb.symm))
 rw [hw5, hBm]
 clear hw5 hb5 hBm hxs
 have HM5 := HM
 go_loopw [26] (fun i wr => ∃ k : Nat, k ≤ 4 ∧ i = .int .i64 k ∧ Aside0 (Chg (fun j => j = Bm) w5 wr) ∧ Aside0 (wr.heap[Bm]? = some (.cells #[v0, v1, v2, v3, .int .i64 a4, .int .i64 a5, v6, v7, v8, v9, .int .i64 (regsTo (four l6 l7 l8 l9) k), x0, x1, x2, x3, x4, x5, x6, x7, x8, x9, x10, x11, x12, x13, x14, x15, x16, x17, x18, x19, x20, x21, x22, .int .i64 0] 112 (0, 0)))) (fun i _ => 4 - (intOf i).toNat)
 case atStart => exact ⟨0, by omega, rfl, ⟨Chg.refl _ _⟩, HM⟩
 case round =>
  clear HM
  obtain ⟨k, hk, rfl, HC, HM⟩ := hrel
  by_cases hlt : k < 4
  · have hltb : decide ((k : Int) < 4) = true := decide_eq_true (by omega)
    have hBr := Aside0.mk (show Below w.heap.size w wr from HC.out.to_below HB.out.size (fun j hj => by rw [hj]; exact HBm.out) HB.out)
    have hsl : wr.heap[Bm + 1]? = some (.cells #[.slice A6 l6.length c6, .slice A7 l7.length c7, .slice A8 l8.length c8, .slice A9 l9.length c9] 24 (0, 0)) := (HC.out.block _ (lt_of_block HSL.out) (by omega)).trans HSL.out
    obtain ⟨Ak, ck, lk, hlk, hcell, hCk, hck⟩ : ∃ Ak ck lk, four l6 l7 l8 l9 k = lk ∧ wr.cell? ⟨Bm + 1, k, none⟩ = some (.slice Ak lk.length ck) ∧ Aside0 (∀ W, Below wr.heap.size wr W → Kd.C k49 W Ak lk.length lk) ∧ lk.length ≤ ck := by
     rcases (by omega : k = 0 ∨ k = 1 ∨ k = 2 ∨ k = 3) with rfl | rfl | rfl | rfl
     · exact ⟨A6, c6, l6, rfl, (blk_cell hsl 0).trans rfl, ⟨fun W hW => Kd.C_below (Kd.C_below HR6.out hBr.out) hW⟩, HC6.out⟩
     · exact ⟨A7, c7, l7, rfl, (blk_cell hsl 1).trans rfl, ⟨fun W hW => Kd.C_below (Kd.C_below HR7.out hBr.out) hW⟩, HC7.out⟩
     · exact ⟨A8, c8, l8, rfl, (blk_cell hsl 2).trans rfl, ⟨fun W hW => Kd.C_below (Kd.C_below HR8.out hBr.out) hW⟩, HC8.out⟩
     · exact ⟨A9, c9, l9, rfl, (blk_cell hsl 3).trans rfl, ⟨fun W hW => Kd.C_below (Kd.C_below HR9.out hBr.out) hW⟩, HC9.out⟩
    have HCK := Aside0.mk hck
    have HN := Aside0.mk (show regsTo (four l6 l7 l8 l9) (k + 1) = (if regsTo (four l6 l7 l8 l9) k < lk.foldl regStep 0 then lk.foldl regStep 0 else regsTo (four l6 l7 l8 l9) k) by rw [← hlk]; rfl)
    clear hsl hck hlk
    obtain ⟨cur, hcur⟩ : ∃ z, regsTo (four l6 l7 l8 l9) k = z := ⟨_, rfl⟩
    rw [hcur] at HM HN
    obtain ⟨rk, hrk⟩ : ∃ z, lk.foldl regStep 0 = z := ⟨_, rfl⟩
    rw [hrk] at HN
    have HRK := Aside0.mk hrk
    obtain ⟨nx, hnx⟩ : ∃ z, (if cur < rk then rk else cur) = z := ⟨_, rfl⟩
    rw [hnx] at HN
    clear hcur hrk
    go_wp2
    have HC := Aside0.mk HC.out.drew
    have HM := Aside0.mk (show wr.drew.heap[Bm]? = _ from HM.out)
    refine start_ (n := 11) (S := fun w' => w'.cell? ⟨Bm, 10, none⟩ = some (.int .i64 cur)) (ds := [10]) #[false, false, false, false, false, false, false, false, false, false, false] (by kernel_rfl) rfl rfl ((blk_cell HM.out 10).trans rfl) (fun hHeld => ?_); refine with_tabW nw_tab nw_bits (fun HT_ HW_ => ?_)
    refine pure_ (i := 0) (N := some 30) (v := ?_) (a' := ?_) #[true, false, false, false, false, false, false, false, false, false, false] rfl rfl (any_of HT_.out (by kernel_rfl)) (fun _ _ _ h => h) (Or.inl ⟨by rfl, ?_⟩) ?_ ?_
    rotate_left
    · intro w'
      go_simp
      with_reducible rfl
    rotate_left
    · simp only [Act.put, List.setIfInBounds_toArray, List.set_cons_zero, List.set_cons_succ, i64_w, i32_w]
      rfl
    refine pure_ (i := 1) (N := some 31) (v := ?_) (a' := ?_) #[true, true, false, false, false, false, false, false, false, false, false] rfl rfl (any_of HT_.out (by kernel_rfl)) (fun _ _ _ h => h) (Or.inl ⟨by rfl, ?_⟩) ?_ ?_
    rotate_left
    · intro w'
      go_simp
      with_reducible rfl
    rotate_left
    · simp only [Act.put, List.setIfInBounds_toArray, List.set_cons_zero, List.set_cons_succ, i64_w, i32_w]
      rfl
    refine pure_ (i := 2) (N := some 32) (v := ?_) (a' := ?_) #[true, true, true, false, false, false, false, false, false, false, false] rfl rfl (any_of HT_.out (by kernel_rfl)) (fun _ _ _ h => h) (Or.inl ⟨by rfl, ?_⟩) ?_ ?_
    rotate_left
    · intro w'
      go_simp
      with_reducible rfl
    rotate_left
    · simp only [Act.put, List.setIfInBounds_toArray, List.set_cons_zero, List.set_cons_succ, i64_w, i32_w]
      rfl
    refine pure_ (i := 3) (N := some 33) (v := ?_) (a' := ?_) #[true, true, true, true, false, false, false, false, false, false, false] rfl rfl (any_of HT_.out (by kernel_rfl)) (fun _ _ _ h => h) (Or.inl ⟨by rfl, ?_⟩) ?_ ?_
    rotate_left
    · intro w'
      go_simp
      with_reducible rfl
    rotate_left
    · simp only [Act.put, List.setIfInBounds_toArray, List.set_cons_zero, List.set_cons_succ, i64_w, i32_w]
      rfl
    refine pure_ (i := 5) (N := some 35) (v := ?_) (a' := ?_) #[true, true, true, true, false, true, false, false, false, false, false] rfl rfl (any_of HT_.out (by kernel_rfl)) (fun _ _ _ h => h) (Or.inl ⟨by rfl, ?_⟩) ?_ ?_
    rotate_left
    · intro w'
      go_simp
      with_reducible rfl
    rotate_left
    · simp only [Act.put, List.setIfInBounds_toArray, List.set_cons_zero, List.set_cons_succ, i64_w, i32_w]
      rfl
    refine take_ (i := 4) (N := some 34) (v := ?_) (a' := ?_) #[true, true, true, true, true, true, false, false, false, false, false] rfl rfl (take_ofW HT_.out HW_.out (by kernel_rfl)) (fun _ _ _ h => h) (Or.inl ⟨by rfl, ?_⟩) hHeld ?_ ?_
    rotate_left
    · rintro w' s0
      go_simp
      with_reducible rfl
    rotate_left
    · simp only [Act.put, List.setIfInBounds_toArray, List.set_cons_zero, List.set_cons_succ, i64_w, i32_w]
      rfl
    refine one_ (i := 6) (N := some 36) #[true, true, true, true, true, true, true, false, false, false, false] rfl rfl (one_of HT_.out (by kernel_rfl)) (by decide) (fun K hK => ?_)
    refine goes_ Tryz.func66 (by kernel_rfl) rfl #[.slice Ak lk.length ck] (by rfl) rfl rfl (by (try simp only [List.map_toArray, List.map_cons, List.map_nil]); first | done | rfl) ?_
    refine (verify_Registers.calls Ak ck lk rk _ (hCk.out _ (below_drew1 (Below.refl _ _))) HCK.out (congrArg some HRK.out)).mono ?_
    rintro e w6 ⟨rfl, hb⟩
    refine ⟨_, rfl, ?_⟩
    have HC := Aside0.mk (HC.out.below hb)
    have HM := Aside0.mk ((hb.block _ (blk_lt HM.out)).trans HM.out)
    clear hb
    refine hK.out _ _ ((blk_cell HM.out 10).trans rfl) (fun hHeld => ?_)
    clear hK K
    refine norm_ (a' := ?_) ?_ ?_
    rotate_left
    · show Act.put _ (some 36) _ = _
      simp only [Act.put, List.setIfInBounds_toArray, List.set_cons_zero, List.set_cons_succ, i64_w, i32_w]
      rfl
    refine pure_ (i := 7) (N := some 37) (v := ?_) (a' := ?_) #[true, true, true, true, true, true, true, true, false, false, false] rfl rfl (any_of HT_.out (by kernel_rfl)) (fun _ _ _ h => h) (Or.inl ⟨by rfl, ?_⟩) ?_ ?_
    rotate_left
    · intro w'
      go_simp
      with_reducible rfl
    rotate_left
    · simp only [Act.put, List.setIfInBounds_toArray, List.set_cons_zero, List.set_cons_succ, i64_w, i32_w]
      rfl
    refine pure_ (i := 8) (N := some 38) (v := ?_) (a' := ?_) #[true, true, true, true, true, true, true, true, true, false, false] rfl rfl (any_of HT_.out (by kernel_rfl)) (fun _ _ _ h => h) (Or.inl ⟨by rfl, ?_⟩) ?_ ?_
    rotate_left
    · intro w'
      go_simp
      with_reducible rfl
    rotate_left
    · simp only [Act.put, List.setIfInBounds_toArray, List.set_cons_zero, List.set_cons_succ, i64_w, i32_w]
      rfl
    refine pure_ (i := 9) (N := some 39) (v := ?_) (a' := ?_) #[true, true, true, true, true, true, true, true, true, true, false] rfl rfl (any_of HT_.out (by kernel_rfl)) (fun _ _ _ h => h) (Or.inl ⟨by rfl, ?_⟩) ?_ ?_
    rotate_left
    · intro w'
      go_simp
      with_reducible rfl
    rotate_left
    · simp only [Act.put, List.setIfInBounds_toArray, List.set_cons_zero, List.set_cons_succ, i64_w, i32_w]
      rfl
    have hcl : World.cell? _ ⟨Bm, 10, none⟩ = some (.int .i64 cur) := (blk_cell HM.out 10).trans rfl
    have hfr := blk_frozen HM.out 10
    refine last_ (i := 10) (N := none) #[true, true, true, true, true, true, true, true, true, true, true] rfl rfl (one_of HT_.out (by kernel_rfl)) (by decide) (fun K hK => ?_)
    refine skip_ (w1 := ?_) (by rfl) rfl ?_ ?_
    rotate_left
    · go_simp
      rfl
    have HC := Aside0.mk (Chg.setCell (p := ⟨Bm, 10, none⟩) HC.out (.inl rfl) (.int .i64 nx))
    have HM := Aside0.mk (blk_put (cs' := #[v0, v1, v2, v3, .int .i64 a4, .int .i64 a5, v6, v7, v8, v9, .int .i64 nx, x0, x1, x2, x3, x4, x5, x6, x7, x8, x9, x10, x11, x12, x13, x14, x15, x16, x17, x18, x19, x20, x21, x22, .int .i64 0]) HM.out 10 (.int .i64 nx) rfl)
    refine hK.out _ _ ?_
    clear hK K
    refine done_ (done_of HT_.out (by kernel_rfl)) ?_
    go_wp2
    go_roundw
    case rel => exact ⟨k + 1, by omega, by go_num, HC, by rw [HN.out]; exact HM⟩
    case measure => simp [intOf]; omega
  · obtain rfl : k = 4 := by omega
    have hltb : decide (((4 : Nat) : Int) < 4) = false := by decide
    go_wp2
    go_ret2
    have hst : ∀ {α : Type} {d : Kd α} {e : Nat} {v : Value} {xs : List α}, d.R e w5 w.heap.size (fun _ => True) v xs → (∀ q, q ∈ e :: d.E → q ≠ 112) → d.R e wr w.heap.size (fun k => k ≠ Bm) v xs := fun hR ht => by
     have h1 := Kd.R_mono (Kd.R_types hR HM5.out ht) (ok' := fun k => k ≠ Bm) (fun _ hk => hk.2)
     exact Kd.R_step h1 (fun k hk hlt => HC.out.block k hlt hk)
    obtain ⟨cs, hcs⟩ : ∃ z : Array Value, z = #[v0, v1, v2, v3, .int .i64 a4, .int .i64 a5, v6, v7, v8, v9, .int .i64 (regsTo (four l6 l7 l8 l9) 4), x0, x1, x2, x3, x4, x5, x6, x7, x8, x9, x10, x11, x12, x13, x14, x15, x16, x17, x18, x19, x20, x21, x22, .int .i64 0] := ⟨_, rfl⟩
    refine ⟨Bm, rfl, ⟨cs, v0, v1, v2, v3, v6, v7, v8, v9, HBm.out, (by rw [hcs]; exact HM.out), (by rw [hcs]; rfl), (by rw [hcs]; rfl), (by rw [hcs]; rfl), (by rw [hcs]; rfl), (by rw [hcs]; rfl), (by rw [hcs]; rfl), (by rw [hcs]; rfl), (by rw [hcs]; rfl), (by rw [hcs]; rfl), (by rw [hcs]; rfl), (by rw [hcs]; rfl), (by rw [hcs]; rfl), hst R0.out (by decide), hst R1.out (by decide), hst R2.out (by decide), hst R3.out (by decide), hst R6.out (by decide), hst R7.out (by decide), hst R8.out (by decide), hst R9.out (by decide), fun op ho => ?opsC, ?op18⟩, HC.out.to_below HB.out.size (fun j hj => by rw [hj]; exact HBm.out) HB.out⟩
    case opsC =>
     obtain ⟨b, h1, h2, h3⟩ := HOP.out op ho
     have hne : b ≠ Bm := HOL.out op ho b _ _ h3 (by
      unfold opType
      split
      · decide
      · split <;> decide)
     refine ⟨b, h1, hne, ?_, (HC.out.block b (lt_of_block h3) hne).trans h3⟩
     rw [← h2, hcs]
     simp only [List.mem_cons, List.not_mem_nil, or_false] at ho
     rcases ho with rfl | rfl | rfl | rfl | rfl | rfl | rfl | rfl | rfl | rfl | rfl | rfl <;> rfl
    case op18 => rw [hcs]; exact H127.out
end Go.Proofs.YtgalkkolbobmbaaGreat.V

/- A machine's small parts: what a register holds, what an instruction loads. -/
namespace Go.Proofs.YtgalkkolbobmbaaGreat.V
open Go.RowKit Go.Proofs.YtgalkkolbobmbaaGreatW.PrintWords Go.Proofs.YtgalkkolbobmbaaGreatW.PrintLast Go.Proofs.YtgalkkolbobmbaaGreatW.PrintMore
set_option linter.unusedVariables false
set_option linter.unusedSimpArgs false
attribute [local go_sem] max2_int min2_int max_two min_two max_three min_three max_four min_four

/-- The number that a register holds; a high one: the last. -/
def atV (regs : List Int) (n : Int) : Option Int := if 0 ≤ n then some (rd regs (if (regs.length : Int) - 1 < n then (regs.length : Int) - 1 else n)) else none
set_option maxHeartbeats 1000000 in
set_option maxRecDepth 100000 in
theorem at_any (Gr : Nat) (A : Option Addr) (c : Nat) (regs : List Int) (n r : Int) (w : World) (h : atV regs n = some r) (h0 : 0 < regs.length) (hm : regs.length ≤ 281474976710656)
 (hb : w.heap[Gr]? = some (.cells #[.slice A regs.length c] 23 (0, 0))) (hc : Kd.C (Kd.int .i64) w A regs.length regs) :
 Calls Tryz.prog 129 #[.int .i64 n, .pointer (some ⟨Gr, 0, none⟩)] w fun e w' => e = .returned (.int .i64 r) ∧ w' = w := by
 unfold atV at h
 by_cases hn : 0 ≤ n
 · rw [if_pos hn] at h
   obtain rfl := Option.some.inj h
   clear h
   have hcb := cell_of_one hb
   clear hb
   by_cases hlt : (regs.length : Int) - 1 < n
   · rw [if_pos hlt]
     obtain ⟨ad, rfl, hcell⟩ := Kd.at_int hc ((regs.length : Int) - 1) (by omega) (by omega)
     have e1 : ((regs.length : Int) - 1).toNat = regs.length - 1 := by omega
     rw [e1] at hcell
     go_enter Tryz.func129, Tryz.ntmps129
     go_wp2
     go_ret
     exact ⟨rfl, rfl⟩
   · rw [if_neg hlt]
     obtain ⟨ad, rfl, hcell⟩ := Kd.at_int hc n (by omega) (by omega)
     go_enter Tryz.func129, Tryz.ntmps129
     go_wp2
     go_ret
     exact ⟨rfl, rfl⟩
 · rw [if_neg hn] at h
   exact absurd h (by simp)
def truthV (b : Bool) : Int := if b = true then 1 else 0
theorem truth_any (b : Bool) (w : World) : Calls Tryz.prog 115 #[.bool b] w fun e w' => e = .returned (.int .i64 (truthV b)) ∧ w' = w := by
 cases b with
 | true =>
  go_enter Tryz.func115, Tryz.ntmps115
  go_wp2
  go_ret
  exact ⟨rfl, rfl⟩
 | false =>
  go_enter Tryz.func115, Tryz.ntmps115
  go_wp2
  go_ret
  exact ⟨rfl, rfl⟩
/-- What an instruction makes that isn't of registers; false: it is. -/
def loadV (inn st mem : List Int) (raised : List Bool) (x : S49) : Option (Int × Bool) :=
 if x.f0 = 1 then some (x.f5, true) else if x.f0 = 2 then (if 0 ≤ x.f2 ∧ x.f2 < (inn.length : Int) then some (rd inn x.f2, true) else none)
 else if x.f0 = 3 then (if 0 ≤ x.f2 ∧ x.f2 < (st.length : Int) then some (rd st x.f2, true) else none)
 else if x.f0 = 4 then (if 0 ≤ x.f2 ∧ x.f2 < (mem.length : Int) then some (rd mem x.f2, true) else none)
 else if x.f0 = 5 then (if 0 ≤ x.f2 ∧ x.f2 < (raised.length : Int) then some (truthV (rdOf false raised x.f2), true) else none)
 else some (0, false)
def ld_T : Bool × List (List Nat × List Nat) := (true, [([], []), ([0], [0]), ([1], [1]), ([2], [2]), ([], []), ([4], [4]), ([3, 5], [3, 5]), ([6], [6]), ([7], [7]), ([8, 8, 0, 1, 2, 3, 4, 5, 6, 7, 8], [8]), ([9, 0, 1, 2, 3, 4, 5, 6, 7, 8, 9], [])])
def ld_B : List Nat := [0, 1, 3, 7, 0, 16, 63, 127, 255, 511, 1023]
theorem ld_tab : rtab .any (opsOf Tryz.f130 11) = ld_T := by kernel_rfl
theorem ld_bits : waitsOk ld_T.2 ld_B = true := by kernel_rfl
set_option maxHeartbeats 4000000 in
set_option maxRecDepth 100000 in
theorem load_any (g : Nat) (A0 A1 A2 A3 : Option Addr) (c0 c1 c2 c3 : Nat) (v4 v5 v6 : Value) (inn st mem : List Int) (raised : List Bool) (op d a b c v r1 : Int) (r2 : Bool) (w : World) (h : loadV inn st mem raised ⟨op, d, a, b, c, v⟩ = some (r1, r2))
 (hb : w.heap[g]? = some (.cells #[.slice A0 inn.length c0, .slice A1 st.length c1, .slice A2 mem.length c2, .slice A3 raised.length c3, v4, v5, v6] 121 (0, 0)))
 (h0 : Kd.C (Kd.int .i64) w A0 inn.length inn) (h1 : Kd.C (Kd.int .i64) w A1 st.length st) (h2 : Kd.C (Kd.int .i64) w A2 mem.length mem) (h3 : Kd.C Kd.bool w A3 raised.length raised) :
 Calls Tryz.prog 130 #[.pointer (some ⟨g, 0, none⟩), .agg #[.int .i64 op, .int .i64 d, .int .i64 a, .int .i64 b, .int .i64 c, .int .i64 v]] w fun e w' => e = .returned (.tuple #[.int .i64 r1, .bool r2]) ∧ Below w.heap.size w w' := by
 have hu49 := Tryz.underlying49
 have HB := Aside0.mk hb
 have H0 := Aside0.mk h0
 have H1 := Aside0.mk h1
 have H2 := Aside0.mk h2
 have H3 := Aside0.mk h3
 clear hb h0 h1 h2 h3
 unfold loadV at h
 dsimp only at h
 by_cases e1 : op = 1
 · subst e1
   simp only [if_true, Option.some.injEq, Prod.mk.injEq] at h
   obtain ⟨rfl, rfl⟩ := h
   go_enter Tryz.func130, Tryz.ntmps130
   go_wp2_with (first | ((with_reducible refine gate_dst (N := 3) rfl ?_); refine box_event ?hg (N := 3) ?hd (cs := #[.int .i64 1, .int .i64 d, .int .i64 a, .int .i64 b, .int .i64 c, .int .i64 v]) (t := 49) ?hr ?_; (case hd => rfl); (case hg => rfl); (case hr => first | (go_simp; done) | (go_simp; rfl)); intro gb hg w4 hbox hb4; have HBX := Aside0.mk hbox; have HB4 := Aside0.mk hb4; clear hb4 hbox hg; have k0 : w4.cell? ⟨gb, 0, none⟩ = some (.int .i64 1) := (blk_cell HBX.out 0).trans rfl; have k2 : w4.cell? ⟨gb, 2, none⟩ = some (.int .i64 a) := (blk_cell HBX.out 2).trans rfl; have k5 : w4.cell? ⟨gb, 5, none⟩ = some (.int .i64 v) := (blk_cell HBX.out 5).trans rfl))
   go_ret2
   exact ⟨rfl, HB4.out⟩
 · by_cases e2 : op = 2
   · subst e2
     rw [if_neg (show ¬ ((2 : Int) = 1) by decide), if_pos rfl] at h
     by_cases cc : 0 ≤ a ∧ a < (inn.length : Int)
     · rw [if_pos cc, Option.some.injEq, Prod.mk.injEq] at h
       obtain ⟨rfl, rfl⟩ := h
       obtain ⟨p, q⟩ := cc
       obtain ⟨ad, e0, hx⟩ := Kd.at_int H0.out a p q
       subst e0
       have HX := Aside0.mk hx
       clear hx
       have p1 := eq_true p
       have q1 := eq_true q
       clear p q
       go_enter Tryz.func130, Tryz.ntmps130
       go_wp2_with (first | ((with_reducible refine gate_dst (N := 3) rfl ?_); refine box_event ?hg (N := 3) ?hd (cs := #[.int .i64 2, .int .i64 d, .int .i64 a, .int .i64 b, .int .i64 c, .int .i64 v]) (t := 49) ?hr ?_; (case hd => rfl); (case hg => rfl); (case hr => first | (go_simp; done) | (go_simp; rfl)); intro gb hg w4 hbox hb4; have HBX := Aside0.mk hbox; have HB4 := Aside0.mk hb4; clear hb4 hbox hg; have k0 : w4.cell? ⟨gb, 0, none⟩ = some (.int .i64 2) := (blk_cell HBX.out 0).trans rfl; have k2 : w4.cell? ⟨gb, 2, none⟩ = some (.int .i64 a) := (blk_cell HBX.out 2).trans rfl; have k5 : w4.cell? ⟨gb, 5, none⟩ = some (.int .i64 v) := (blk_cell HBX.out 5).trans rfl; have kg : w4.cell? ⟨g, 0, none⟩ = some (.slice (some ad) inn.length c0) := (blk_cell ((HB4.out.block g (blk_lt HB.out)).trans HB.out) 0).trans rfl; have kx := (HB4.out.cell (World.block_lt_of_cell? w _ HX.out)).trans HX.out))
       go_quiet (fail)
       go_wp2
       go_ret2
       exact ⟨rfl, pw_below_drewN HB4.out _⟩
     · rw [if_neg cc] at h
       exact absurd h (by simp)
   · by_cases e3 : op = 3
     · subst e3
       rw [if_neg (show ¬ ((3 : Int) = 1) by decide), if_neg (show ¬ ((3 : Int) = 2) by decide), if_pos rfl] at h
       by_cases cc : 0 ≤ a ∧ a < (st.length : Int)
       · rw [if_pos cc, Option.some.injEq, Prod.mk.injEq] at h
         obtain ⟨rfl, rfl⟩ := h
         obtain ⟨p, q⟩ := cc
         obtain ⟨ad, e0, hx⟩ := Kd.at_int H1.out a p q
         subst e0
         have HX := Aside0.mk hx
         clear hx
         have p1 := eq_true p
         have q1 := eq_true q
         clear p q
         go_enter Tryz.func130, Tryz.ntmps130
         go_wp2_with (first | ((with_reducible refine gate_dst (N := 3) rfl ?_); refine box_event ?hg (N := 3) ?hd (cs := #[.int .i64 3, .int .i64 d, .int .i64 a, .int .i64 b, .int .i64 c, .int .i64 v]) (t := 49) ?hr ?_; (case hd => rfl); (case hg => rfl); (case hr => first | (go_simp; done) | (go_simp; rfl)); intro gb hg w4 hbox hb4; have HBX := Aside0.mk hbox; have HB4 := Aside0.mk hb4; clear hb4 hbox hg; have k0 : w4.cell? ⟨gb, 0, none⟩ = some (.int .i64 3) := (blk_cell HBX.out 0).trans rfl; have k2 : w4.cell? ⟨gb, 2, none⟩ = some (.int .i64 a) := (blk_cell HBX.out 2).trans rfl; have k5 : w4.cell? ⟨gb, 5, none⟩ = some (.int .i64 v) := (blk_cell HBX.out 5).trans rfl; have kg : w4.cell? ⟨g, 1, none⟩ = some (.slice (some ad) st.length c1) := (blk_cell ((HB4.out.block g (blk_lt HB.out)).trans HB.out) 1).trans rfl; have kx := (HB4.out.cell (World.block_lt_of_cell? w _ HX.out)).trans HX.out))
         go_quiet (fail)
         go_wp2
         go_ret2
         exact ⟨rfl, pw_below_drewN HB4.out _⟩
       · rw [if_neg cc] at h
         exact absurd h (by simp)
     · by_cases e4 : op = 4
       · subst e4
         rw [if_neg (show ¬ ((4 : Int) = 1) by decide), if_neg (show ¬ ((4 : Int) = 2) by decide), if_neg (show ¬ ((4 : Int) = 3) by decide), if_pos rfl] at h
         by_cases cc : 0 ≤ a ∧ a < (mem.length : Int)
         · rw [if_pos cc, Option.some.injEq, Prod.mk.injEq] at h
           obtain ⟨rfl, rfl⟩ := h
           obtain ⟨p, q⟩ := cc
           obtain ⟨ad, e0, hx⟩ := Kd.at_int H2.out a p q
           subst e0
           have HX := Aside0.mk hx
           clear hx
           have p1 := eq_true p
           have q1 := eq_true q
           clear p q
           go_enter Tryz.func130, Tryz.ntmps130
           go_wp2_with (first | ((with_reducible refine gate_dst (N := 3) rfl ?_); refine box_event ?hg (N := 3) ?hd (cs := #[.int .i64 4, .int .i64 d, .int .i64 a, .int .i64 b, .int .i64 c, .int .i64 v]) (t := 49) ?hr ?_; (case hd => rfl); (case hg => rfl); (case hr => first | (go_simp; done) | (go_simp; rfl)); intro gb hg w4 hbox hb4; have HBX := Aside0.mk hbox; have HB4 := Aside0.mk hb4; clear hb4 hbox hg; have k0 : w4.cell? ⟨gb, 0, none⟩ = some (.int .i64 4) := (blk_cell HBX.out 0).trans rfl; have k2 : w4.cell? ⟨gb, 2, none⟩ = some (.int .i64 a) := (blk_cell HBX.out 2).trans rfl; have k5 : w4.cell? ⟨gb, 5, none⟩ = some (.int .i64 v) := (blk_cell HBX.out 5).trans rfl; have kg : w4.cell? ⟨g, 2, none⟩ = some (.slice (some ad) mem.length c2) := (blk_cell ((HB4.out.block g (blk_lt HB.out)).trans HB.out) 2).trans rfl; have kx := (HB4.out.cell (World.block_lt_of_cell? w _ HX.out)).trans HX.out))
           go_quiet (fail)
           go_wp2
           go_ret2
           exact ⟨rfl, pw_below_drewN HB4.out _⟩
         · rw [if_neg cc] at h
           exact absurd h (by simp)
       · by_cases e5 : op = 5
         · subst e5
           rw [if_neg (show ¬ ((5 : Int) = 1) by decide), if_neg (show ¬ ((5 : Int) = 2) by decide), if_neg (show ¬ ((5 : Int) = 3) by decide), if_neg (show ¬ ((5 : Int) = 4) by decide), if_pos rfl] at h
           by_cases cc : 0 ≤ a ∧ a < (raised.length : Int)
           · rw [if_pos cc, Option.some.injEq, Prod.mk.injEq] at h
             obtain ⟨rfl, rfl⟩ := h
             obtain ⟨p, q⟩ := cc
             obtain ⟨ad, e0, hx⟩ := Kd.at_bool H3.out a p q
             subst e0
             obtain ⟨tb, htb⟩ : ∃ z, rdOf false raised a = z := ⟨_, rfl⟩
             rw [htb] at hx ⊢
             clear htb
             have HX := Aside0.mk hx
             clear hx
             have p1 := eq_true p
             have q1 := eq_true q
             clear p q
             go_enter Tryz.func130, Tryz.ntmps130
             go_wp2_with (first | ((with_reducible refine gate_dst (N := 3) rfl ?_); refine box_event ?hg (N := 3) ?hd (cs := #[.int .i64 5, .int .i64 d, .int .i64 a, .int .i64 b, .int .i64 c, .int .i64 v]) (t := 49) ?hr ?_; (case hd => rfl); (case hg => rfl); (case hr => first | (go_simp; done) | (go_simp; rfl)); intro gb hg w4 hbox hb4; have HBX := Aside0.mk hbox; have HB4 := Aside0.mk hb4; clear hb4 hbox hg; have k0 : w4.cell? ⟨gb, 0, none⟩ = some (.int .i64 5) := (blk_cell HBX.out 0).trans rfl; have k2 : w4.cell? ⟨gb, 2, none⟩ = some (.int .i64 a) := (blk_cell HBX.out 2).trans rfl; have k5 : w4.cell? ⟨gb, 5, none⟩ = some (.int .i64 v) := (blk_cell HBX.out 5).trans rfl; have kg : w4.cell? ⟨g, 3, none⟩ = some (.slice (some ad) raised.length c3) := (blk_cell ((HB4.out.block g (blk_lt HB.out)).trans HB.out) 3).trans rfl; have kx := (HB4.out.cell (World.block_lt_of_cell? w _ HX.out)).trans HX.out))
             refine start_ (n := 11) (S := fun w' => w'.cell? ⟨gb, 2, none⟩ = some (.int .i64 a) ∧ w'.cell? ⟨g, 3, none⟩ = some (.slice (some ad) raised.length c3) ∧ w'.cell? (ad.add a.toNat) = some (.bool tb)) (ds := []) #[false, false, false, false, false, false, false, false, false, false, false] (by kernel_rfl) rfl rfl ⟨k2, kg, kx⟩ (fun hHeld => ?_); refine with_tabW ld_tab ld_bits (fun HT_ HW_ => ?_)
             refine pure_ (i := 0) (N := some 44) (v := ?_) (a' := ?_) #[true, false, false, false, false, false, false, false, false, false, false] rfl rfl (any_of HT_.out (by kernel_rfl)) (fun _ _ _ h => h) (Or.inl ⟨by rfl, ?_⟩) ?_ ?_
             rotate_left
             · intro w'
               go_simp
               with_reducible rfl
             rotate_left
             · simp only [Act.put, List.setIfInBounds_toArray, List.set_cons_zero, List.set_cons_succ, i64_w, i32_w]
               rfl
             refine pure_ (i := 1) (N := some 45) (v := ?_) (a' := ?_) #[true, true, false, false, false, false, false, false, false, false, false] rfl rfl (any_of HT_.out (by kernel_rfl)) (fun _ _ _ h => h) (Or.inl ⟨by rfl, ?_⟩) ?_ ?_
             rotate_left
             · intro w'
               go_simp
               with_reducible rfl
             rotate_left
             · simp only [Act.put, List.setIfInBounds_toArray, List.set_cons_zero, List.set_cons_succ, i64_w, i32_w]
               rfl
             refine pure_ (i := 2) (N := some 46) (v := ?_) (a' := ?_) #[true, true, true, false, false, false, false, false, false, false, false] rfl rfl (any_of HT_.out (by kernel_rfl)) (fun _ _ _ h => h) (Or.inl ⟨by rfl, ?_⟩) ?_ ?_
             rotate_left
             · intro w'
               go_simp
               with_reducible rfl
             rotate_left
             · simp only [Act.put, List.setIfInBounds_toArray, List.set_cons_zero, List.set_cons_succ, i64_w, i32_w]
               rfl
             refine pure_ (i := 4) (N := some 48) (v := ?_) (a' := ?_) #[true, true, true, false, true, false, false, false, false, false, false] rfl rfl (any_of HT_.out (by kernel_rfl)) (fun _ _ _ h => h) (Or.inl ⟨by rfl, ?_⟩) ?_ ?_
             rotate_left
             · intro w'
               go_simp
               with_reducible rfl
             rotate_left
             · simp only [Act.put, List.setIfInBounds_toArray, List.set_cons_zero, List.set_cons_succ, i64_w, i32_w]
               rfl
             refine take_ (i := 3) (N := some 47) (v := ?_) (a' := ?_) #[true, true, true, true, true, false, false, false, false, false, false] rfl rfl (take_ofW HT_.out HW_.out (by kernel_rfl)) (fun _ _ _ h => h) (Or.inl ⟨by rfl, ?_⟩) hHeld ?_ ?_
             rotate_left
             · rintro w' ⟨s0, s1, s2⟩
               go_simp
               with_reducible rfl
             rotate_left
             · simp only [Act.put, List.setIfInBounds_toArray, List.set_cons_zero, List.set_cons_succ, i64_w, i32_w]
               rfl
             refine take_ (i := 5) (N := some 49) (v := ?_) (a' := ?_) #[true, true, true, true, true, true, false, false, false, false, false] rfl rfl (take_ofW HT_.out HW_.out (by kernel_rfl)) (fun _ _ _ h => h) (Or.inl ⟨by rfl, ?_⟩) hHeld ?_ ?_
             rotate_left
             · rintro w' ⟨s0, s1, s2⟩
               go_simp
               with_reducible rfl
             rotate_left
             · simp only [Act.put, List.setIfInBounds_toArray, List.set_cons_zero, List.set_cons_succ, i64_w, i32_w]
               rfl
             refine pure_ (i := 6) (N := some 50) (v := ?_) (a' := ?_) #[true, true, true, true, true, true, true, false, false, false, false] rfl rfl (any_of HT_.out (by kernel_rfl)) (fun _ _ _ h => h) (Or.inl ⟨by rfl, ?_⟩) ?_ ?_
             rotate_left
             · intro w'
               go_simp
               with_reducible rfl
             rotate_left
             · simp only [Act.put, List.setIfInBounds_toArray, List.set_cons_zero, List.set_cons_succ, i64_w, i32_w]
               rfl
             refine take_ (i := 7) (N := some 51) (v := ?_) (a' := ?_) #[true, true, true, true, true, true, true, true, false, false, false] rfl rfl (take_ofW HT_.out HW_.out (by kernel_rfl)) (fun _ _ _ h => h) (Or.inl ⟨by rfl, ?_⟩) hHeld ?_ ?_
             rotate_left
             · rintro w' ⟨s0, s1, s2⟩
               go_simp
               with_reducible rfl
             rotate_left
             · simp only [Act.put, List.setIfInBounds_toArray, List.set_cons_zero, List.set_cons_succ, i64_w, i32_w]
               rfl
             refine one_ (i := 8) (N := some 52) #[true, true, true, true, true, true, true, true, true, false, false] rfl rfl (one_of HT_.out (by kernel_rfl)) (by decide) (fun K hK => ?_)
             refine goes_ Tryz.func115 (by kernel_rfl) rfl #[.bool tb] (by rfl) rfl rfl (by (try simp only [List.map_toArray, List.map_cons, List.map_nil]); first | done | rfl) ?_
             refine (truth_any _ _).mono ?_
             rintro e w5 ⟨rfl, rfl⟩
             refine ⟨_, rfl, ?_⟩
             refine hK.out _ _ hHeld (fun hHeld => ?_)
             clear hK K
             refine norm_ (a' := ?_) ?_ ?_
             rotate_left
             · show Act.put _ (some 52) _ = _
               simp only [Act.put, List.setIfInBounds_toArray, List.set_cons_zero, List.set_cons_succ, i64_w, i32_w]
               rfl
             refine pure_ (i := 9) (N := some 4) (v := ?_) (a' := ?_) #[true, true, true, true, true, true, true, true, true, true, false] rfl rfl (any_of HT_.out (by kernel_rfl)) (fun _ _ _ h => h) (Or.inl ⟨by rfl, ?_⟩) ?_ ?_
             rotate_left
             · intro w'
               go_simp
               with_reducible rfl
             rotate_left
             · simp only [Act.put, List.setIfInBounds_toArray, List.set_cons_zero, List.set_cons_succ, i64_w, i32_w]
               rfl
             refine pure_ (i := 10) (N := some 5) (v := ?_) (a' := ?_) #[true, true, true, true, true, true, true, true, true, true, true] rfl rfl (any_of HT_.out (by kernel_rfl)) (fun _ _ _ h => h) (Or.inl ⟨by rfl, ?_⟩) ?_ ?_
             rotate_left
             · intro w'
               go_simp
               with_reducible rfl
             rotate_left
             · simp only [Act.put, List.setIfInBounds_toArray, List.set_cons_zero, List.set_cons_succ, i64_w, i32_w]
               rfl
             refine done_ (done_of HT_.out (by kernel_rfl)) ?_
             try go_wp2
             go_ret2
             exact ⟨rfl, below_drew1 HB4.out⟩
           · rw [if_neg cc] at h
             exact absurd h (by simp)
         · rw [if_neg e1, if_neg e2, if_neg e3, if_neg e4, if_neg e5, Option.some.injEq, Prod.mk.injEq] at h
           obtain ⟨rfl, rfl⟩ := h
           have b1 : (op == 1) = false := beq_eq_false_iff_ne.mpr e1
           have d1 : decide (op = 1) = false := decide_eq_false e1
           have b2 : (op == 2) = false := beq_eq_false_iff_ne.mpr e2
           have d2 : decide (op = 2) = false := decide_eq_false e2
           have b3 : (op == 3) = false := beq_eq_false_iff_ne.mpr e3
           have d3 : decide (op = 3) = false := decide_eq_false e3
           have b4 : (op == 4) = false := beq_eq_false_iff_ne.mpr e4
           have d4 : decide (op = 4) = false := decide_eq_false e4
           have b5 : (op == 5) = false := beq_eq_false_iff_ne.mpr e5
           have d5 : decide (op = 5) = false := decide_eq_false e5
           go_enter Tryz.func130, Tryz.ntmps130
           go_wp2_with (first | ((with_reducible refine gate_dst (N := 3) rfl ?_); refine box_event ?hg (N := 3) ?hd (cs := #[.int .i64 op, .int .i64 d, .int .i64 a, .int .i64 b, .int .i64 c, .int .i64 v]) (t := 49) ?hr ?_; (case hd => rfl); (case hg => rfl); (case hr => first | (go_simp; done) | (go_simp; rfl)); intro gb hg w4 hbox hb4; have HBX := Aside0.mk hbox; have HB4 := Aside0.mk hb4; clear hb4 hbox hg; have k0 : w4.cell? ⟨gb, 0, none⟩ = some (.int .i64 op) := (blk_cell HBX.out 0).trans rfl; have k2 : w4.cell? ⟨gb, 2, none⟩ = some (.int .i64 a) := (blk_cell HBX.out 2).trans rfl; have k5 : w4.cell? ⟨gb, 5, none⟩ = some (.int .i64 v) := (blk_cell HBX.out 5).trans rfl))
           go_ret2
           exact ⟨rfl, HB4.out⟩
end Go.Proofs.YtgalkkolbobmbaaGreat.V
