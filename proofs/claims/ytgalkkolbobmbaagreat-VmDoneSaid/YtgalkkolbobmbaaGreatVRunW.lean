/- vm.New, of an object that may be. -/
import Derived.Test.YtgalkkolbobmbaaGreatVClone
import Derived.Test.YtgalkkolbobmbaaGreatVOps
import Derived.Test.YtgalkkolbobmbaaGreatVHRight2

namespace Go.Proofs.YtgalkkolbobmbaaGreat.V
open Go.RowKit Go.Proofs.YtgalkkolbobmbaaGreatW.PrintWords Go.Proofs.YtgalkkolbobmbaaGreatW.PrintLast Go.Proofs.YtgalkkolbobmbaaGreatW.PrintMore
attribute [local go_sem] max2_int min2_int max_two min_two max_three min_three max_four min_four
set_option linter.unusedVariables false
set_option linter.unusedSimpArgs false
def nw_T : Bool × List (List Nat × List Nat) := (true, [([], []), ([], []), ([1], [1]), ([2], [2]), ([3], [3]), ([], []), ([5], [5]), ([4, 6], [4, 6]), ([0, 0, 1, 2, 3, 4, 5, 6, 7], [0]), ([8, 0, 1, 2, 3, 4, 5, 6, 7], [8]), ([9, 7, 6, 0, 1, 2, 3, 4, 5, 6, 7], [7, 9])])
def nw_B : List Nat := [0, 0, 2, 6, 14, 0, 32, 126, 255, 511, 1023]
theorem nw_tab : rtab .any (opsOf Tryz.f23 7) = nw_T := by kernel_rfl
theorem nw_bits : waitsOk nw_T.2 nw_B = true := by kernel_rfl

theorem array23 (cs : Array Value) (h : cs.size = 23) : ∃ x0 x1 x2 x3 x4 x5 x6 x7 x8 x9 x10 x11 x12 x13 x14 x15 x16 x17 x18 x19 x20 x21 x22, cs = #[x0, x1, x2, x3, x4, x5, x6, x7, x8, x9, x10, x11, x12, x13, x14, x15, x16, x17, x18, x19, x20, x21, x22] := by
 obtain ⟨l⟩ := cs
 match l, h with
 | [x0, x1, x2, x3, x4, x5, x6, x7, x8, x9, x10, x11, x12, x13, x14, x15, x16, x17, x18, x19, x20, x21, x22], _ => exact ⟨_, _, _, _, _, _, _, _, _, _, _, _, _, _, _, _, _, _, _, _, _, _, _, rfl⟩
/-- The registers that the first k pieces ask for. -/
def regsTo (ps : Nat → List S49) : Nat → Int
 | 0 => 0
 | k + 1 => if regsTo ps k < (ps k).foldl regStep 0 then (ps k).foldl regStep 0 else regsTo ps k
theorem right_bounds {l0 l1 l2 l3 : List Int} {a4 a5 : Int} {l6 l7 l8 l9 : List S49} (h : rightO l0 l1 l2 l3 a4 a5 l6 l7 l8 l9 = true) : l0.length ≤ 200 ∧ l1.length ≤ 200 ∧ l2.length ≤ 200 ∧ l3.length ≤ 200 ∧ 0 ≤ a4 ∧ a4 ≤ 200 ∧ l6.length ≤ 4000 ∧ l7.length ≤ 4000 ∧ l8.length ≤ 4000 ∧ l9.length ≤ 4000 := by
 unfold rightO at h
 simp only [Bool.and_eq_true, Bool.not_eq_true'] at h
 obtain ⟨-, -, -, hb, hl, -⟩ := h
 unfold banksB belowB at hb
 unfold longB at hl
 simp only [Bool.and_eq_true, decide_eq_true_eq] at hb hl
 omega
/-- A machine at block Bm: what was made from block n on; it has done dn instructions. -/
structure Mach (n Bm : Nat) (cs : Array Value) (v0 v1 v2 v3 v6 v7 v8 v9 : Value) (l0 l1 l2 l3 : List Int) (a4 a5 : Int) (l6 l7 l8 l9 : List S49) (dn : Int) (w : World) : Prop where
 lo : n ≤ Bm
 blk : w.heap[Bm]? = some (.cells (cs.setIfInBounds 34 (.int .i64 dn)) 112 (0, 0))
 sz : cs.size = 35
 rg : cs[10]? = some (.int .i64 (regsTo (four l6 l7 l8 l9) 4))
 o0 : cs[0]? = some v0
 o1 : cs[1]? = some v1
 o2 : cs[2]? = some v2
 o3 : cs[3]? = some v3
 o4 : cs[4]? = some (.int .i64 a4)
 o5 : cs[5]? = some (.int .i64 a5)
 o6 : cs[6]? = some v6
 o7 : cs[7]? = some v7
 o8 : cs[8]? = some v8
 o9 : cs[9]? = some v9
 r0 : Kd.R (Kd.int .i64) 3 w n (fun k => k ≠ Bm) v0 l0
 r1 : Kd.R (Kd.int .i64) 3 w n (fun k => k ≠ Bm) v1 l1
 r2 : Kd.R (Kd.int .i64) 2 w n (fun k => k ≠ Bm) v2 l2
 r3 : Kd.R (Kd.int .i64) 2 w n (fun k => k ≠ Bm) v3 l3
 r6 : Kd.R k49 49 w n (fun k => k ≠ Bm) v6 l6
 r7 : Kd.R k49 49 w n (fun k => k ≠ Bm) v7 l7
 r8 : Kd.R k49 49 w n (fun k => k ≠ Bm) v8 l8
 r9 : Kd.R k49 49 w n (fun k => k ≠ Bm) v9 l9
 ops : ∀ op, op ∈ [17, 16, 15, 14, 13, 7, 12, 11, 10, 9, 8, 6] → ∃ b, n ≤ b ∧ b ≠ Bm ∧ cs[11 + op]? = some (.func (.func (opOuter op)) #[] #[.pointer (some ⟨b, 0, none⟩)]) ∧ w.heap[b]? = some (.cells #[.func (.func (opInner op)) #[] #[]] (opType op) (0, 0))
 pick : cs[29]? = some (.func (.func 127) #[] #[])
def MachE (n Bm : Nat) (l0 l1 l2 l3 : List Int) (a4 a5 : Int) (l6 l7 l8 l9 : List S49) (dn : Int) (w : World) : Prop := ∃ cs v0 v1 v2 v3 v6 v7 v8 v9, Mach n Bm cs v0 v1 v2 v3 v6 v7 v8 v9 l0 l1 l2 l3 a4 a5 l6 l7 l8 l9 dn w
set_option maxHeartbeats 8000000 in
set_option maxRecDepth 100000 in
theorem new_any (A0 A1 A2 A3 A6 A7 A8 A9 : Option Addr) (c0 c1 c2 c3 c6 c7 c8 c9 : Nat) (l0 l1 l2 l3 : List Int) (a4 a5 : Int) (l6 l7 l8 l9 : List S49) (w : World) (hr0 : Kd.C (Kd.int .i64) w A0 l0.length l0) (hc0 : l0.length ≤ c0) (hr1 : Kd.C (Kd.int .i64) w A1 l1.length l1) (hc1 : l1.length ≤ c1) (hr2 : Kd.C (Kd.int .i64) w A2 l2.length l2) (hc2 : l2.length ≤ c2) (hr3 : Kd.C (Kd.int .i64) w A3 l3.length l3) (hc3 : l3.length ≤ c3) (hr6 : Kd.C k49 w A6 l6.length l6) (hc6 : l6.length ≤ c6) (hr7 : Kd.C k49 w A7 l7.length l7) (hc7 : l7.length ≤ c7) (hr8 : Kd.C k49 w A8 l8.length l8) (hc8 : l8.length ≤ c8) (hr9 : Kd.C k49 w A9 l9.length l9) (hc9 : l9.length ≤ c9) (hright : rightO l0 l1 l2 l3 a4 a5 l6 l7 l8 l9 = true) :
 Calls Tryz.prog 23 #[.agg #[.slice A0 l0.length c0, .slice A1 l1.length c1, .slice A2 l2.length c2, .slice A3 l3.length c3, .int .i64 a4, .int .i64 a5, .slice A6 l6.length c6, .slice A7 l7.length c7, .slice A8 l8.length c8, .slice A9 l9.length c9]] w fun e w' => ∃ Bm : Nat, e = .returned (.tuple #[.pointer (some ⟨Bm, 0, none⟩), .int .i64 0]) ∧ MachE w.heap.size Bm l0 l1 l2 l3 a4 a5 l6 l7 l8 l9 0 w' ∧ Below w.heap.size w w' := by
 obtain ⟨m0, m1, m2, m3, -, -, m6, m7, m8, m9⟩ := right_bounds hright
 have HR0 := Aside0.mk hr0
 have HC0 := Aside0.mk hc0
 have HR1 := Aside0.mk hr1
 have HC1 := Aside0.mk hc1
 have HR2 := Aside0.mk hr2
 have HC2 := Aside0.mk hc2
 have HR3 := Aside0.mk hr3
 have HC3 := Aside0.mk hc3
 have HR6 := Aside0.mk hr6
 have HC6 := Aside0.mk hc6
 have HR7 := Aside0.mk hr7
 have HC7 := Aside0.mk hc7
 have HR8 := Aside0.mk hr8
 have HC8 := Aside0.mk hc8
 have HR9 := Aside0.mk hr9
 have HC9 := Aside0.mk hc9
 have HRT := Aside0.mk hright
 clear hr0 hc0 hr1 hc1 hr2 hc2 hr3 hc3 hr6 hc6 hr7 hc7 hr8 hc8 hr9 hc9 hright
 go_enter Tryz.func23, Tryz.ntmps23
 go_wp2_with (fail)
 obtain ⟨w1, hw1⟩ : ∃ z, (w.alloc (Obj.cells #[.slice A0 l0.length c0, .slice A1 l1.length c1, .slice A2 l2.length c2, .slice A3 l3.length c3, .int .i64 a4, .int .i64 a5, .slice A6 l6.length c6, .slice A7 l7.length c7, .slice A8 l8.length c8, .slice A9 l9.length c9] 26)) = z := ⟨_, rfl⟩
 have HB := Aside0.mk (show Below w.heap.size w w1 by rw [← hw1]; exact (Below.refl _ _).alloc (Nat.le_refl _) _)
 have HG := Aside0.mk (show w1.heap[w.heap.size]? = some (.cells #[.slice A0 l0.length c0, .slice A1 l1.length c1, .slice A2 l2.length c2, .slice A3 l3.length c3, .int .i64 a4, .int .i64 a5, .slice A6 l6.length c6, .slice A7 l7.length c7, .slice A8 l8.length c8, .slice A9 l9.length c9] 26 (0, 0)) by rw [← hw1]; exact blk_new w _)
 rw [hw1]
 clear hw1
 refine (verify_Right.calls A0 c0 l0 A1 c1 l1 A2 c2 l2 A3 c3 l3 a4 a5 A6 c6 l6 A7 c7 l7 A8 c8 l8 A9 c9 l9 true w1 (Kd.C_below HR0.out HB.out) HC0.out (Kd.C_below HR1.out HB.out) HC1.out (Kd.C_below HR2.out HB.out) HC2.out (Kd.C_below HR3.out HB.out) HC3.out (Kd.C_below HR6.out HB.out) HC6.out (Kd.C_below HR7.out HB.out) HC7.out (Kd.C_below HR8.out HB.out) HC8.out (Kd.C_below HR9.out HB.out) HC9.out (congrArg some HRT.out)).mono ?_
 rintro e w2 ⟨rfl, hb⟩
 have HG := Aside0.mk ((hb.block _ (blk_lt HG.out)).trans HG.out)
 have HB := Aside0.mk (below_step HB.out hb)
 clear hb
 go_wp2_with (first | (refine wpList_load_row rfl 26 _ rfl w.heap.size rfl 26 #[.slice A0 l0.length c0, .slice A1 l1.length c1, .slice A2 l2.length c2, .slice A3 l3.length c3, .int .i64 a4, .int .i64 a5, .slice A6 l6.length c6, .slice A7 l7.length c7, .slice A8 l8.length c8, .slice A9 l9.length c9] (0, 0) _ HG.out Tryz.underlying26 rfl (by kernel_rfl) ?_))
 refine (copied_any A0 A1 A2 A3 A6 A7 A8 A9 c0 c1 c2 c3 c6 c7 c8 c9 l0 l1 l2 l3 a4 a5 l6 l7 l8 l9 w2 (Kd.C_below HR0.out HB.out) (by omega) (Kd.C_below HR1.out HB.out) (by omega) (Kd.C_below HR2.out HB.out) (by omega) (Kd.C_below HR3.out HB.out) (by omega) (Kd.C_below HR6.out HB.out) (by omega) (Kd.C_below HR7.out HB.out) (by omega) (Kd.C_below HR8.out HB.out) (by omega) (Kd.C_below HR9.out HB.out) (by omega)).mono ?_
 rintro e w3 ⟨v0, v1, v2, v3, v6, v7, v8, v9, rfl, hR0, hR1, hR2, hR3, hR6, hR7, hR8, hR9, hb⟩
 have R0 := Aside0.mk (Kd.R_lower hR0 HB.out.size)
 have R1 := Aside0.mk (Kd.R_lower hR1 HB.out.size)
 have R2 := Aside0.mk (Kd.R_lower hR2 HB.out.size)
 have R3 := Aside0.mk (Kd.R_lower hR3 HB.out.size)
 have R6 := Aside0.mk (Kd.R_lower hR6 HB.out.size)
 have R7 := Aside0.mk (Kd.R_lower hR7 HB.out.size)
 have R8 := Aside0.mk (Kd.R_lower hR8 HB.out.size)
 have R9 := Aside0.mk (Kd.R_lower hR9 HB.out.size)
 have HG := Aside0.mk ((hb.block _ (blk_lt HG.out)).trans HG.out)
 have HB := Aside0.mk (below_step HB.out hb)
 clear hb hR0 hR1 hR2 hR3 hR6 hR7 hR8 hR9
 go_wp2_with (fail)
 refine (operators_any w3).mono ?_
 rintro e w4 ⟨cs, rfl, hsz, hb, hops, h127⟩
 obtain ⟨x0, x1, x2, x3, x4, x5, x6, x7, x8, x9, x10, x11, x12, x13, x14, x15, x16, x17, x18, x19, x20, x21, x22, rfl⟩ := array23 cs hsz
 have HOP := Aside0.mk (fun op (ho : op ∈ [17, 16, 15, 14, 13, 7, 12, 11, 10, 9, 8, 6]) => (show OpAt w.heap.size w4 _ op from by
  obtain ⟨b, h1, h2, h3⟩ := hops op ho
  exact ⟨b, Nat.le_trans HB.out.size h1, h2, h3⟩))
 have H127 := Aside0.mk h127
 have R0 := Aside0.mk (Kd.R_below R0.out hb)
 have R1 := Aside0.mk (Kd.R_below R1.out hb)
 have R2 := Aside0.mk (Kd.R_below R2.out hb)
 have R3 := Aside0.mk (Kd.R_below R3.out hb)
 have R6 := Aside0.mk (Kd.R_below R6.out hb)
 have R7 := Aside0.mk (Kd.R_below R7.out hb)
 have R8 := Aside0.mk (Kd.R_below R8.out hb)
 have R9 := Aside0.mk (Kd.R_below R9.out hb)
 have HG := Aside0.mk ((hb.block _ (blk_lt HG.out)).trans HG.out)
 have HB := Aside0.mk (below_step HB.out hb)
 clear hb hops h127 hsz
 have kb6 : ∀ o, (w4.alloc o).cell? ⟨w.heap.size, 6, none⟩ = some (.slice A6 l6.length c6) := fun o => (blk_cell (blk_alloc HG.out o) 6).trans rfl
 have kb7 : ∀ o, (w4.alloc o).cell? ⟨w.heap.size, 7, none⟩ = some (.slice A7 l7.length c7) := fun o => (blk_cell (blk_alloc HG.out o) 7).trans rfl
 have kb8 : ∀ o, (w4.alloc o).cell? ⟨w.heap.size, 8, none⟩ = some (.slice A8 l8.length c8) := fun o => (blk_cell (blk_alloc HG.out o) 8).trans rfl
 have kb9 : ∀ o, (w4.alloc o).cell? ⟨w.heap.size, 9, none⟩ = some (.slice A9 l9.length c9) := fun o => (blk_cell (blk_alloc HG.out o) 9).trans rfl
 go_wp2_with (fail)
 clear kb6 kb7 kb8 kb9
 have hxs := Aside0.mk (show w4.heap.size + 1 ≠ w4.heap.size by omega)
 obtain ⟨Bm, hBm⟩ : ∃ b, w4.heap.size = b := ⟨_, rfl⟩
 obtain ⟨w5, hw5⟩ : ∃ z, ((w4.alloc (Obj.cells #[v0, v1, v2, v3, .int .i64 a4, .int .i64 a5, v6, v7, v8, v9, .int .i64 0, x0, x1, x2, x3, x4, x5, x6, x7, x8, x9, x10, x11, x12, x13, x14, x15, x16, x17, x18, x19, x20, x21, x22, .int .i64 0] 112)).alloc (Obj.cells #[.slice A6 l6.length c6, .slice A7 l7.length c7, .slice A8 l8.length c8, .slice A9 l9.length c9] 24)) = z := ⟨_, rfl⟩
 have hb5 : Below w4.heap.size w4 w5 := by rw [← hw5]; exact ((Below.refl _ _).alloc (Nat.le_refl _) _).alloc (by simp) _
 have HM := Aside0.mk (show w5.heap[Bm]? = some (.cells #[v0, v1, v2, v3, .int .i64 a4, .int .i64 a5, v6, v7, v8, v9, .int .i64 (regsTo (four l6 l7 l8 l9) 0), x0, x1, x2, x3, x4, x5, x6, x7, x8, x9, x10, x11, x12, x13, x14, x15, x16, x17, x18, x19, x20, x21, x22, .int .i64 0] 112 (0, 0)) by
  rw [← hw5, ← hBm]
  exact blk_alloc (blk_new w4 _) _)
 have HSL := Aside0.mk (show w5.heap[Bm + 1]? = some (.cells #[.slice A6 l6.length c6, .slice A7 l7.length c7, .slice A8 l8.length c8, .slice A9 l9.length c9] 24 (0, 0)) by
  rw [← hw5, ← hBm]
  have := blk_new (w4.alloc (Obj.cells #[v0, v1, v2, v3, .int .i64 a4, .int .i64 a5, v6, v7, v8, v9, .int .i64 0, x0, x1, x2, x3, x4, x5, x6, x7, x8, x9, x10, x11, x12, x13, x14, x15, x16, x17, x18, x19, x20, x21, x22, .int .i64 0] 112)) (Obj.cells #[.slice A6 l6.length c6, .slice A7 l7.length c7, .slice A8 l8.length c8, .slice A9 l9.length c9] 24)
  simpa using this)
 have R0 := Aside0.mk (Kd.R_below R0.out hb5)
 have R1 := Aside0.mk (Kd.R_below R1.out hb5)
 have R2 := Aside0.mk (Kd.R_below R2.out hb5)
 have R3 := Aside0.mk (Kd.R_below R3.out hb5)
 have R6 := Aside0.mk (Kd.R_below R6.out hb5)
 have R7 := Aside0.mk (Kd.R_below R7.out hb5)
 have R8 := Aside0.mk (Kd.R_below R8.out hb5)
 have R9 := Aside0.mk (Kd.R_below R9.out hb5)
 have HOP := Aside0.mk (fun op (ho : op ∈ [17, 16, 15, 14, 13, 7, 12, 11, 10, 9, 8, 6]) => (show OpAt w.heap.size w5 _ op from by
  obtain ⟨b, h1, h2, h3⟩ := HOP.out op ho
  exact ⟨b, h1, h2, (hb5.block b (lt_of_block h3)).trans h3⟩))
 have HBm := Aside0.mk (show w.heap.size ≤ Bm by rw [← hBm]; exact HB.out.size)
 have HB := Aside0.mk (below_step HB.out hb5)
 have HOL := Aside0.mk (fun op (ho : op ∈ [17, 16, 15, 14, 13, 7, 12, 11, 10, 9, 8, 6]) => (show ∀ b cs t, w5.heap[b]? = some (.cells cs t (0, 0)) → t ≠ 112 → b ≠ Bm from fun b cs t hb ht e => by
  subst e
  rw [HM.out] at hb
  injection hb with hb
  injection hb with _ hb
  exact ht hb.symm))
 rw [hw5, hBm]
 clear hw5 hb5 hBm hxs
 have HM5 := HM
 go_loopw [26] (fun i wr => ∃ k : Nat, k ≤ 4 ∧ i = .int .i64 k ∧ Aside0 (Chg (fun j => j = Bm) w5 wr) ∧ Aside0 (wr.heap[Bm]? = some (.cells #[v0, v1, v2, v3, .int .i64 a4, .int .i64 a5, v6, v7, v8, v9, .int .i64 (regsTo (four l6 l7 l8 l9) k), x0, x1, x2, x3, x4, x5, x6, x7, x8, x9, x10, x11, x12, x13, x14, x15, x16, x17, x18, x19, x20, x21, x22, .int .i64 0] 112 (0, 0)))) (fun i _ => 4 - (intOf i).toNat)
 case atStart => exact ⟨0, by omega, rfl, ⟨Chg.refl _ _⟩, HM⟩
 case round =>
  clear HM
  obtain ⟨k, hk, rfl, HC, HM⟩ := hrel
  by_cases hlt : k < 4
  · have hltb : decide ((k : Int) < 4) = true := decide_eq_true (by omega)
    have hBr := Aside0.mk (show Below w.heap.size w wr from HC.out.to_below HB.out.size (fun j hj => by rw [hj]; exact HBm.out) HB.out)
    have hsl : wr.heap[Bm + 1]? = some (.cells #[.slice A6 l6.length c6, .slice A7 l7.length c7, .slice A8 l8.length c8, .slice A9 l9.length c9] 24 (0, 0)) := (HC.out.block _ (lt_of_block HSL.out) (by omega)).trans HSL.out
    obtain ⟨Ak, ck, lk, hlk, hcell, hCk, hck⟩ : ∃ Ak ck lk, four l6 l7 l8 l9 k = lk ∧ wr.cell? ⟨Bm + 1, k, none⟩ = some (.slice Ak lk.length ck) ∧ Aside0 (∀ W, Below wr.heap.size wr W → Kd.C k49 W Ak lk.length lk) ∧ lk.length ≤ ck := by
     rcases (by omega : k = 0 ∨ k = 1 ∨ k = 2 ∨ k = 3) with rfl | rfl | rfl | rfl
     · exact ⟨A6, c6, l6, rfl, (blk_cell hsl 0).trans rfl, ⟨fun W hW => Kd.C_below (Kd.C_below HR6.out hBr.out) hW⟩, HC6.out⟩
     · exact ⟨A7, c7, l7, rfl, (blk_cell hsl 1).trans rfl, ⟨fun W hW => Kd.C_below (Kd.C_below HR7.out hBr.out) hW⟩, HC7.out⟩
     · exact ⟨A8, c8, l8, rfl, (blk_cell hsl 2).trans rfl, ⟨fun W hW => Kd.C_below (Kd.C_below HR8.out hBr.out) hW⟩, HC8.out⟩
     · exact ⟨A9, c9, l9, rfl, (blk_cell hsl 3).trans rfl, ⟨fun W hW => Kd.C_below (Kd.C_below HR9.out hBr.out) hW⟩, HC9.out⟩
    have HCK := Aside0.mk hck
    have HN := Aside0.mk (show regsTo (four l6 l7 l8 l9) (k + 1) = (if regsTo (four l6 l7 l8 l9) k < lk.foldl regStep 0 then lk.foldl regStep 0 else regsTo (four l6 l7 l8 l9) k) by rw [← hlk]; rfl)
    clear hsl hck hlk
    obtain ⟨cur, hcur⟩ : ∃ z, regsTo (four l6 l7 l8 l9) k = z := ⟨_, rfl⟩
    rw [hcur] at HM HN
    obtain ⟨rk, hrk⟩ : ∃ z, lk.foldl regStep 0 = z := ⟨_, rfl⟩
    rw [hrk] at HN
    have HRK := Aside0.mk hrk
    obtain ⟨nx, hnx⟩ : ∃ z, (if cur < rk then rk else cur) = z := ⟨_, rfl⟩
    rw [hnx] at HN
    clear hcur hrk
    go_wp2
    have HC := Aside0.mk HC.out.drew
    have HM := Aside0.mk (show wr.drew.heap[Bm]? = _ from HM.out)
    refine start_ (n := 11) (S := fun w' => w'.cell? ⟨Bm, 10, none⟩ = some (.int .i64 cur)) (ds := [10]) (Array.replicate 11 false) (by kernel_rfl) rfl rfl ((blk_cell HM.out 10).trans rfl) (fun hHeld => ?_); refine with_tabW nw_tab nw_bits (fun HT_ HW_ => ?_)
    refine pu HT_ 0 30 rfl rfl (by kernel_rfl) (fun _ _ _ h => h) (by rfl) (by intro w'; go_simp; with_reducible rfl) (by simp only [Act.put, sA, sB, sC, i64_w, i32_w]; rfl) ?_
    refine pu HT_ 1 31 rfl rfl (by kernel_rfl) (fun _ _ _ h => h) (by rfl) (by intro w'; go_simp; with_reducible rfl) (by simp only [Act.put, sA, sB, sC, i64_w, i32_w]; rfl) ?_
    refine pu HT_ 2 32 rfl rfl (by kernel_rfl) (fun _ _ _ h => h) (by rfl) (by intro w'; go_simp; with_reducible rfl) (by simp only [Act.put, sA, sB, sC, i64_w, i32_w]; rfl) ?_
    refine pu HT_ 3 33 rfl rfl (by kernel_rfl) (fun _ _ _ h => h) (by rfl) (by intro w'; go_simp; with_reducible rfl) (by simp only [Act.put, sA, sB, sC, i64_w, i32_w]; rfl) ?_
    refine pu HT_ 5 35 rfl rfl (by kernel_rfl) (fun _ _ _ h => h) (by rfl) (by intro w'; go_simp; with_reducible rfl) (by simp only [Act.put, sA, sB, sC, i64_w, i32_w]; rfl) ?_
    refine tk HT_ HW_ hHeld 4 34 rfl rfl (by kernel_rfl) (fun _ _ _ h => h) (by rfl) (by rintro w' s0; go_simp; with_reducible rfl) (by simp only [Act.put, sA, sB, sC, i64_w, i32_w]; rfl) ?_
    refine on1 HT_ 6 (some 36) rfl rfl (by kernel_rfl) (by decide) (fun K hK => ?_)
    refine goes_ Tryz.func66 (by kernel_rfl) rfl #[.slice Ak lk.length ck] (by rfl) rfl rfl (by (try simp only [List.map_toArray, List.map_cons, List.map_nil]); first | done | rfl) ?_
    refine (verify_Registers.calls Ak ck lk rk _ (hCk.out _ (below_drew1 (Below.refl _ _))) HCK.out (congrArg some HRK.out)).mono ?_
    rintro e w6 ⟨rfl, hb⟩
    refine ⟨_, rfl, ?_⟩
    have HC := Aside0.mk (HC.out.below hb)
    have HM := Aside0.mk ((hb.block _ (blk_lt HM.out)).trans HM.out)
    clear hb
    refine hK.out _ _ ((blk_cell HM.out 10).trans rfl) (fun hHeld => ?_)
    clear hK K
    refine norm_ (by show Act.put _ (some 36) _ = _; simp only [Act.put, sA, sB, sC, i64_w, i32_w]; rfl) ?_
    refine pu HT_ 7 37 rfl rfl (by kernel_rfl) (fun _ _ _ h => h) (by rfl) (by intro w'; go_simp; with_reducible rfl) (by simp only [Act.put, sA, sB, sC, i64_w, i32_w]; rfl) ?_
    refine pu HT_ 8 38 rfl rfl (by kernel_rfl) (fun _ _ _ h => h) (by rfl) (by intro w'; go_simp; with_reducible rfl) (by simp only [Act.put, sA, sB, sC, i64_w, i32_w]; rfl) ?_
    refine pu HT_ 9 39 rfl rfl (by kernel_rfl) (fun _ _ _ h => h) (by rfl) (by intro w'; go_simp; with_reducible rfl) (by simp only [Act.put, sA, sB, sC, i64_w, i32_w]; rfl) ?_
    have hcl : World.cell? _ ⟨Bm, 10, none⟩ = some (.int .i64 cur) := (blk_cell HM.out 10).trans rfl
    have hfr := blk_frozen HM.out 10
    refine la1 HT_ 10 none rfl rfl (by kernel_rfl) (by decide) (fun K hK => ?_)
    refine skip_ (w1 := ?_) (by rfl) rfl ?_ ?_
    rotate_left
    · go_simp
      rfl
    have HC := Aside0.mk (Chg.setCell (p := ⟨Bm, 10, none⟩) HC.out (.inl rfl) (.int .i64 nx))
    have HM := Aside0.mk (blk_put (cs' := #[v0, v1, v2, v3, .int .i64 a4, .int .i64 a5, v6, v7, v8, v9, .int .i64 nx, x0, x1, x2, x3, x4, x5, x6, x7, x8, x9, x10, x11, x12, x13, x14, x15, x16, x17, x18, x19, x20, x21, x22, .int .i64 0]) HM.out 10 (.int .i64 nx) rfl)
    refine hK.out _ _ ?_
    clear hK K
    refine done_ (done_of HT_.out (by kernel_rfl)) ?_
    go_wp2
    go_roundw
    case rel => exact ⟨k + 1, by omega, by go_num, HC, by rw [HN.out]; exact HM⟩
    case measure => simp [intOf]; omega
  · obtain rfl : k = 4 := by omega
    have hltb : decide (((4 : Nat) : Int) < 4) = false := by decide
    go_wp2
    go_ret2
    have hst : ∀ {α : Type} {d : Kd α} {e : Nat} {v : Value} {xs : List α}, d.R e w5 w.heap.size (fun _ => True) v xs → (∀ q, q ∈ e :: d.E → q ≠ 112) → d.R e wr w.heap.size (fun k => k ≠ Bm) v xs := fun hR ht => by
     have h1 := Kd.R_mono (Kd.R_types hR HM5.out ht) (ok' := fun k => k ≠ Bm) (fun _ hk => hk.2)
     exact Kd.R_step h1 (fun k hk hlt => HC.out.block k hlt hk)
    obtain ⟨cs, hcs⟩ : ∃ z : Array Value, z = #[v0, v1, v2, v3, .int .i64 a4, .int .i64 a5, v6, v7, v8, v9, .int .i64 (regsTo (four l6 l7 l8 l9) 4), x0, x1, x2, x3, x4, x5, x6, x7, x8, x9, x10, x11, x12, x13, x14, x15, x16, x17, x18, x19, x20, x21, x22, .int .i64 0] := ⟨_, rfl⟩
    refine ⟨Bm, rfl, ⟨cs, v0, v1, v2, v3, v6, v7, v8, v9, HBm.out, (by rw [hcs]; exact HM.out), (by rw [hcs]; rfl), (by rw [hcs]; rfl), (by rw [hcs]; rfl), (by rw [hcs]; rfl), (by rw [hcs]; rfl), (by rw [hcs]; rfl), (by rw [hcs]; rfl), (by rw [hcs]; rfl), (by rw [hcs]; rfl), (by rw [hcs]; rfl), (by rw [hcs]; rfl), (by rw [hcs]; rfl), hst R0.out (by decide), hst R1.out (by decide), hst R2.out (by decide), hst R3.out (by decide), hst R6.out (by decide), hst R7.out (by decide), hst R8.out (by decide), hst R9.out (by decide), fun op ho => ?opsC, ?op18⟩, HC.out.to_below HB.out.size (fun j hj => by rw [hj]; exact HBm.out) HB.out⟩
    case opsC =>
     obtain ⟨b, h1, h2, h3⟩ := HOP.out op ho
     have hne : b ≠ Bm := HOL.out op ho b _ _ h3 (by
      unfold opType
      split
      · decide
      · split <;> decide)
     refine ⟨b, h1, hne, ?_, (HC.out.block b (lt_of_block h3) hne).trans h3⟩
     rw [← h2, hcs]
     simp only [List.mem_cons, List.not_mem_nil, or_false] at ho
     rcases ho with rfl | rfl | rfl | rfl | rfl | rfl | rfl | rfl | rfl | rfl | rfl | rfl <;> rfl
    case op18 => rw [hcs]; exact H127.out

/-- The number that a register holds; a high one: the last. -/
def atV (regs : List Int) (n : Int) : Option Int := if 0 ≤ n then some (rd regs (if (regs.length : Int) - 1 < n then (regs.length : Int) - 1 else n)) else none
set_option maxHeartbeats 1000000 in
set_option maxRecDepth 100000 in
theorem at_any (Gr : Nat) (A : Option Addr) (c : Nat) (regs : List Int) (n r : Int) (w : World) (h : atV regs n = some r) (h0 : 0 < regs.length) (hm : regs.length ≤ 281474976710656)
 (hb : w.heap[Gr]? = some (.cells #[.slice A regs.length c] 23 (0, 0))) (hc : Kd.C (Kd.int .i64) w A regs.length regs) :
 Calls Tryz.prog 129 #[.int .i64 n, .pointer (some ⟨Gr, 0, none⟩)] w fun e w' => e = .returned (.int .i64 r) ∧ w' = w := by
 unfold atV at h
 by_cases hn : 0 ≤ n
 · rw [if_pos hn] at h
   obtain rfl := Option.some.inj h
   clear h
   have hcb := cell_of_one hb
   clear hb
   by_cases hlt : (regs.length : Int) - 1 < n
   · rw [if_pos hlt]
     obtain ⟨ad, rfl, hcell⟩ := Kd.at_int hc ((regs.length : Int) - 1) (by omega) (by omega)
     have e1 : ((regs.length : Int) - 1).toNat = regs.length - 1 := by omega
     rw [e1] at hcell
     go_enter Tryz.func129, Tryz.ntmps129
     go_wp2
     go_ret
     exact ⟨rfl, rfl⟩
   · rw [if_neg hlt]
     obtain ⟨ad, rfl, hcell⟩ := Kd.at_int hc n (by omega) (by omega)
     go_enter Tryz.func129, Tryz.ntmps129
     go_wp2
     go_ret
     exact ⟨rfl, rfl⟩
 · rw [if_neg hn] at h
   exact absurd h (by simp)
def truthV (b : Bool) : Int := if b = true then 1 else 0
theorem truth_any (b : Bool) (w : World) : Calls Tryz.prog 115 #[.bool b] w fun e w' => e = .returned (.int .i64 (truthV b)) ∧ w' = w := by
 cases b with
 | true =>
  go_enter Tryz.func115, Tryz.ntmps115
  go_wp2
  go_ret
  exact ⟨rfl, rfl⟩
 | false =>
  go_enter Tryz.func115, Tryz.ntmps115
  go_wp2
  go_ret
  exact ⟨rfl, rfl⟩
/-- What an instruction makes that isn't of registers; false: it is. -/
def loadV (inn st mem : List Int) (raised : List Bool) (x : S49) : Option (Int × Bool) :=
 if x.f0 = 1 then some (x.f5, true) else if x.f0 = 2 then (if 0 ≤ x.f2 ∧ x.f2 < (inn.length : Int) then some (rd inn x.f2, true) else none)
 else if x.f0 = 3 then (if 0 ≤ x.f2 ∧ x.f2 < (st.length : Int) then some (rd st x.f2, true) else none)
 else if x.f0 = 4 then (if 0 ≤ x.f2 ∧ x.f2 < (mem.length : Int) then some (rd mem x.f2, true) else none)
 else if x.f0 = 5 then (if 0 ≤ x.f2 ∧ x.f2 < (raised.length : Int) then some (truthV (rdOf false raised x.f2), true) else none)
 else some (0, false)
def ld_T : Bool × List (List Nat × List Nat) := (true, [([], []), ([0], [0]), ([1], [1]), ([2], [2]), ([], []), ([4], [4]), ([3, 5], [3, 5]), ([6], [6]), ([7], [7]), ([8, 8, 0, 1, 2, 3, 4, 5, 6, 7, 8], [8]), ([9, 0, 1, 2, 3, 4, 5, 6, 7, 8, 9], [])])
def ld_B : List Nat := [0, 1, 3, 7, 0, 16, 63, 127, 255, 511, 1023]
theorem ld_tab : rtab .any (opsOf Tryz.f130 11) = ld_T := by kernel_rfl
theorem ld_bits : waitsOk ld_T.2 ld_B = true := by kernel_rfl
set_option maxHeartbeats 4000000 in
set_option maxRecDepth 100000 in
theorem load_any (g : Nat) (A0 A1 A2 A3 : Option Addr) (c0 c1 c2 c3 : Nat) (v4 v5 v6 : Value) (inn st mem : List Int) (raised : List Bool) (op d a b c v r1 : Int) (r2 : Bool) (w : World) (h : loadV inn st mem raised ⟨op, d, a, b, c, v⟩ = some (r1, r2))
 (hb : w.heap[g]? = some (.cells #[.slice A0 inn.length c0, .slice A1 st.length c1, .slice A2 mem.length c2, .slice A3 raised.length c3, v4, v5, v6] 121 (0, 0)))
 (h0 : Kd.C (Kd.int .i64) w A0 inn.length inn) (h1 : Kd.C (Kd.int .i64) w A1 st.length st) (h2 : Kd.C (Kd.int .i64) w A2 mem.length mem) (h3 : Kd.C Kd.bool w A3 raised.length raised) :
 Calls Tryz.prog 130 #[.pointer (some ⟨g, 0, none⟩), .agg #[.int .i64 op, .int .i64 d, .int .i64 a, .int .i64 b, .int .i64 c, .int .i64 v]] w fun e w' => e = .returned (.tuple #[.int .i64 r1, .bool r2]) ∧ Below w.heap.size w w' := by
 have hu49 := Tryz.underlying49
 have HB := Aside0.mk hb
 have H0 := Aside0.mk h0
 have H1 := Aside0.mk h1
 have H2 := Aside0.mk h2
 have H3 := Aside0.mk h3
 clear hb h0 h1 h2 h3
 unfold loadV at h
 dsimp only at h
 by_cases e1 : op = 1
 · subst e1
   simp only [if_true, Option.some.injEq, Prod.mk.injEq] at h
   obtain ⟨rfl, rfl⟩ := h
   go_enter Tryz.func130, Tryz.ntmps130
   go_wp2_with (first | ((with_reducible refine gate_dst (N := 3) rfl ?_); refine box_event ?hg (N := 3) ?hd (cs := #[.int .i64 1, .int .i64 d, .int .i64 a, .int .i64 b, .int .i64 c, .int .i64 v]) (t := 49) ?hr ?_; (case hd => rfl); (case hg => rfl); (case hr => first | (go_simp; done) | (go_simp; rfl)); intro gb hg w4 hbox hb4; have HBX := Aside0.mk hbox; have HB4 := Aside0.mk hb4; clear hb4 hbox hg; have k0 : w4.cell? ⟨gb, 0, none⟩ = some (.int .i64 1) := (blk_cell HBX.out 0).trans rfl; have k2 : w4.cell? ⟨gb, 2, none⟩ = some (.int .i64 a) := (blk_cell HBX.out 2).trans rfl; have k5 : w4.cell? ⟨gb, 5, none⟩ = some (.int .i64 v) := (blk_cell HBX.out 5).trans rfl))
   go_ret2
   exact ⟨rfl, HB4.out⟩
 · by_cases e2 : op = 2
   · subst e2
     rw [if_neg (show ¬ ((2 : Int) = 1) by decide), if_pos rfl] at h
     by_cases cc : 0 ≤ a ∧ a < (inn.length : Int)
     · rw [if_pos cc, Option.some.injEq, Prod.mk.injEq] at h
       obtain ⟨rfl, rfl⟩ := h
       obtain ⟨p, q⟩ := cc
       obtain ⟨ad, e0, hx⟩ := Kd.at_int H0.out a p q
       subst e0
       have HX := Aside0.mk hx
       clear hx
       have p1 := eq_true p
       have q1 := eq_true q
       clear p q
       go_enter Tryz.func130, Tryz.ntmps130
       go_wp2_with (first | ((with_reducible refine gate_dst (N := 3) rfl ?_); refine box_event ?hg (N := 3) ?hd (cs := #[.int .i64 2, .int .i64 d, .int .i64 a, .int .i64 b, .int .i64 c, .int .i64 v]) (t := 49) ?hr ?_; (case hd => rfl); (case hg => rfl); (case hr => first | (go_simp; done) | (go_simp; rfl)); intro gb hg w4 hbox hb4; have HBX := Aside0.mk hbox; have HB4 := Aside0.mk hb4; clear hb4 hbox hg; have k0 : w4.cell? ⟨gb, 0, none⟩ = some (.int .i64 2) := (blk_cell HBX.out 0).trans rfl; have k2 : w4.cell? ⟨gb, 2, none⟩ = some (.int .i64 a) := (blk_cell HBX.out 2).trans rfl; have k5 : w4.cell? ⟨gb, 5, none⟩ = some (.int .i64 v) := (blk_cell HBX.out 5).trans rfl; have kg : w4.cell? ⟨g, 0, none⟩ = some (.slice (some ad) inn.length c0) := (blk_cell ((HB4.out.block g (blk_lt HB.out)).trans HB.out) 0).trans rfl; have kx := (HB4.out.cell (World.block_lt_of_cell? w _ HX.out)).trans HX.out))
       go_quiet (fail)
       go_wp2
       go_ret2
       exact ⟨rfl, pw_below_drewN HB4.out _⟩
     · rw [if_neg cc] at h
       exact absurd h (by simp)
   · by_cases e3 : op = 3
     · subst e3
       rw [if_neg (show ¬ ((3 : Int) = 1) by decide), if_neg (show ¬ ((3 : Int) = 2) by decide), if_pos rfl] at h
       by_cases cc : 0 ≤ a ∧ a < (st.length : Int)
       · rw [if_pos cc, Option.some.injEq, Prod.mk.injEq] at h
         obtain ⟨rfl, rfl⟩ := h
         obtain ⟨p, q⟩ := cc
         obtain ⟨ad, e0, hx⟩ := Kd.at_int H1.out a p q
         subst e0
         have HX := Aside0.mk hx
         clear hx
         have p1 := eq_true p
         have q1 := eq_true q
         clear p q
         go_enter Tryz.func130, Tryz.ntmps130
         go_wp2_with (first | ((with_reducible refine gate_dst (N := 3) rfl ?_); refine box_event ?hg (N := 3) ?hd (cs := #[.int .i64 3, .int .i64 d, .int .i64 a, .int .i64 b, .int .i64 c, .int .i64 v]) (t := 49) ?hr ?_; (case hd => rfl); (case hg => rfl); (case hr => first | (go_simp; done) | (go_simp; rfl)); intro gb hg w4 hbox hb4; have HBX := Aside0.mk hbox; have HB4 := Aside0.mk hb4; clear hb4 hbox hg; have k0 : w4.cell? ⟨gb, 0, none⟩ = some (.int .i64 3) := (blk_cell HBX.out 0).trans rfl; have k2 : w4.cell? ⟨gb, 2, none⟩ = some (.int .i64 a) := (blk_cell HBX.out 2).trans rfl; have k5 : w4.cell? ⟨gb, 5, none⟩ = some (.int .i64 v) := (blk_cell HBX.out 5).trans rfl; have kg : w4.cell? ⟨g, 1, none⟩ = some (.slice (some ad) st.length c1) := (blk_cell ((HB4.out.block g (blk_lt HB.out)).trans HB.out) 1).trans rfl; have kx := (HB4.out.cell (World.block_lt_of_cell? w _ HX.out)).trans HX.out))
         go_quiet (fail)
         go_wp2
         go_ret2
         exact ⟨rfl, pw_below_drewN HB4.out _⟩
       · rw [if_neg cc] at h
         exact absurd h (by simp)
     · by_cases e4 : op = 4
       · subst e4
         rw [if_neg (show ¬ ((4 : Int) = 1) by decide), if_neg (show ¬ ((4 : Int) = 2) by decide), if_neg (show ¬ ((4 : Int) = 3) by decide), if_pos rfl] at h
         by_cases cc : 0 ≤ a ∧ a < (mem.length : Int)
         · rw [if_pos cc, Option.some.injEq, Prod.mk.injEq] at h
           obtain ⟨rfl, rfl⟩ := h
           obtain ⟨p, q⟩ := cc
           obtain ⟨ad, e0, hx⟩ := Kd.at_int H2.out a p q
           subst e0
           have HX := Aside0.mk hx
           clear hx
           have p1 := eq_true p
           have q1 := eq_true q
           clear p q
           go_enter Tryz.func130, Tryz.ntmps130
           go_wp2_with (first | ((with_reducible refine gate_dst (N := 3) rfl ?_); refine box_event ?hg (N := 3) ?hd (cs := #[.int .i64 4, .int .i64 d, .int .i64 a, .int .i64 b, .int .i64 c, .int .i64 v]) (t := 49) ?hr ?_; (case hd => rfl); (case hg => rfl); (case hr => first | (go_simp; done) | (go_simp; rfl)); intro gb hg w4 hbox hb4; have HBX := Aside0.mk hbox; have HB4 := Aside0.mk hb4; clear hb4 hbox hg; have k0 : w4.cell? ⟨gb, 0, none⟩ = some (.int .i64 4) := (blk_cell HBX.out 0).trans rfl; have k2 : w4.cell? ⟨gb, 2, none⟩ = some (.int .i64 a) := (blk_cell HBX.out 2).trans rfl; have k5 : w4.cell? ⟨gb, 5, none⟩ = some (.int .i64 v) := (blk_cell HBX.out 5).trans rfl; have kg : w4.cell? ⟨g, 2, none⟩ = some (.slice (some ad) mem.length c2) := (blk_cell ((HB4.out.block g (blk_lt HB.out)).trans HB.out) 2).trans rfl; have kx := (HB4.out.cell (World.block_lt_of_cell? w _ HX.out)).trans HX.out))
           go_quiet (fail)
           go_wp2
           go_ret2
           exact ⟨rfl, pw_below_drewN HB4.out _⟩
         · rw [if_neg cc] at h
           exact absurd h (by simp)
       · by_cases e5 : op = 5
         · subst e5
           rw [if_neg (show ¬ ((5 : Int) = 1) by decide), if_neg (show ¬ ((5 : Int) = 2) by decide), if_neg (show ¬ ((5 : Int) = 3) by decide), if_neg (show ¬ ((5 : Int) = 4) by decide), if_pos rfl] at h
           by_cases cc : 0 ≤ a ∧ a < (raised.length : Int)
           · rw [if_pos cc, Option.some.injEq, Prod.mk.injEq] at h
             obtain ⟨rfl, rfl⟩ := h
             obtain ⟨p, q⟩ := cc
             obtain ⟨ad, e0, hx⟩ := Kd.at_bool H3.out a p q
             subst e0
             obtain ⟨tb, htb⟩ : ∃ z, rdOf false raised a = z := ⟨_, rfl⟩
             rw [htb] at hx ⊢
             clear htb
             have HX := Aside0.mk hx
             clear hx
             have p1 := eq_true p
             have q1 := eq_true q
             clear p q
             go_enter Tryz.func130, Tryz.ntmps130
             go_wp2_with (first | ((with_reducible refine gate_dst (N := 3) rfl ?_); refine box_event ?hg (N := 3) ?hd (cs := #[.int .i64 5, .int .i64 d, .int .i64 a, .int .i64 b, .int .i64 c, .int .i64 v]) (t := 49) ?hr ?_; (case hd => rfl); (case hg => rfl); (case hr => first | (go_simp; done) | (go_simp; rfl)); intro gb hg w4 hbox hb4; have HBX := Aside0.mk hbox; have HB4 := Aside0.mk hb4; clear hb4 hbox hg; have k0 : w4.cell? ⟨gb, 0, none⟩ = some (.int .i64 5) := (blk_cell HBX.out 0).trans rfl; have k2 : w4.cell? ⟨gb, 2, none⟩ = some (.int .i64 a) := (blk_cell HBX.out 2).trans rfl; have k5 : w4.cell? ⟨gb, 5, none⟩ = some (.int .i64 v) := (blk_cell HBX.out 5).trans rfl; have kg : w4.cell? ⟨g, 3, none⟩ = some (.slice (some ad) raised.length c3) := (blk_cell ((HB4.out.block g (blk_lt HB.out)).trans HB.out) 3).trans rfl; have kx := (HB4.out.cell (World.block_lt_of_cell? w _ HX.out)).trans HX.out))
             refine start_ (n := 11) (S := fun w' => w'.cell? ⟨gb, 2, none⟩ = some (.int .i64 a) ∧ w'.cell? ⟨g, 3, none⟩ = some (.slice (some ad) raised.length c3) ∧ w'.cell? (ad.add a.toNat) = some (.bool tb)) (ds := []) (Array.replicate 11 false) (by kernel_rfl) rfl rfl ⟨k2, kg, kx⟩ (fun hHeld => ?_); refine with_tabW ld_tab ld_bits (fun HT_ HW_ => ?_)
             refine pu HT_ 0 44 rfl rfl (by kernel_rfl) (fun _ _ _ h => h) (by rfl) (by intro w'; go_simp; with_reducible rfl) (by simp only [Act.put, sA, sB, sC, i64_w, i32_w]; rfl) ?_
             refine pu HT_ 1 45 rfl rfl (by kernel_rfl) (fun _ _ _ h => h) (by rfl) (by intro w'; go_simp; with_reducible rfl) (by simp only [Act.put, sA, sB, sC, i64_w, i32_w]; rfl) ?_
             refine pu HT_ 2 46 rfl rfl (by kernel_rfl) (fun _ _ _ h => h) (by rfl) (by intro w'; go_simp; with_reducible rfl) (by simp only [Act.put, sA, sB, sC, i64_w, i32_w]; rfl) ?_
             refine pu HT_ 4 48 rfl rfl (by kernel_rfl) (fun _ _ _ h => h) (by rfl) (by intro w'; go_simp; with_reducible rfl) (by simp only [Act.put, sA, sB, sC, i64_w, i32_w]; rfl) ?_
             refine tk HT_ HW_ hHeld 3 47 rfl rfl (by kernel_rfl) (fun _ _ _ h => h) (by rfl) (by rintro w' ⟨s0, s1, s2⟩; go_simp; with_reducible rfl) (by simp only [Act.put, sA, sB, sC, i64_w, i32_w]; rfl) ?_
             refine tk HT_ HW_ hHeld 5 49 rfl rfl (by kernel_rfl) (fun _ _ _ h => h) (by rfl) (by rintro w' ⟨s0, s1, s2⟩; go_simp; with_reducible rfl) (by simp only [Act.put, sA, sB, sC, i64_w, i32_w]; rfl) ?_
             refine pu HT_ 6 50 rfl rfl (by kernel_rfl) (fun _ _ _ h => h) (by rfl) (by intro w'; go_simp; with_reducible rfl) (by simp only [Act.put, sA, sB, sC, i64_w, i32_w]; rfl) ?_
             refine tk HT_ HW_ hHeld 7 51 rfl rfl (by kernel_rfl) (fun _ _ _ h => h) (by rfl) (by rintro w' ⟨s0, s1, s2⟩; go_simp; with_reducible rfl) (by simp only [Act.put, sA, sB, sC, i64_w, i32_w]; rfl) ?_
             refine on1 HT_ 8 (some 52) rfl rfl (by kernel_rfl) (by decide) (fun K hK => ?_)
             refine goes_ Tryz.func115 (by kernel_rfl) rfl #[.bool tb] (by rfl) rfl rfl (by (try simp only [List.map_toArray, List.map_cons, List.map_nil]); first | done | rfl) ?_
             refine (truth_any _ _).mono ?_
             rintro e w5 ⟨rfl, rfl⟩
             refine ⟨_, rfl, ?_⟩
             refine hK.out _ _ hHeld (fun hHeld => ?_)
             clear hK K
             refine norm_ (by show Act.put _ (some 52) _ = _; simp only [Act.put, sA, sB, sC, i64_w, i32_w]; rfl) ?_
             refine pu HT_ 9 4 rfl rfl (by kernel_rfl) (fun _ _ _ h => h) (by rfl) (by intro w'; go_simp; with_reducible rfl) (by simp only [Act.put, sA, sB, sC, i64_w, i32_w]; rfl) ?_
             refine pu HT_ 10 5 rfl rfl (by kernel_rfl) (fun _ _ _ h => h) (by rfl) (by intro w'; go_simp; with_reducible rfl) (by simp only [Act.put, sA, sB, sC, i64_w, i32_w]; rfl) ?_
             refine done_ (done_of HT_.out (by kernel_rfl)) ?_
             try go_wp2
             go_ret2
             exact ⟨rfl, below_drew1 HB4.out⟩
           · rw [if_neg cc] at h
             exact absurd h (by simp)
         · rw [if_neg e1, if_neg e2, if_neg e3, if_neg e4, if_neg e5, Option.some.injEq, Prod.mk.injEq] at h
           obtain ⟨rfl, rfl⟩ := h
           have b1 : (op == 1) = false := beq_eq_false_iff_ne.mpr e1
           have d1 : decide (op = 1) = false := decide_eq_false e1
           have b2 : (op == 2) = false := beq_eq_false_iff_ne.mpr e2
           have d2 : decide (op = 2) = false := decide_eq_false e2
           have b3 : (op == 3) = false := beq_eq_false_iff_ne.mpr e3
           have d3 : decide (op = 3) = false := decide_eq_false e3
           have b4 : (op == 4) = false := beq_eq_false_iff_ne.mpr e4
           have d4 : decide (op = 4) = false := decide_eq_false e4
           have b5 : (op == 5) = false := beq_eq_false_iff_ne.mpr e5
           have d5 : decide (op = 5) = false := decide_eq_false e5
           go_enter Tryz.func130, Tryz.ntmps130
           go_wp2_with (first | ((with_reducible refine gate_dst (N := 3) rfl ?_); refine box_event ?hg (N := 3) ?hd (cs := #[.int .i64 op, .int .i64 d, .int .i64 a, .int .i64 b, .int .i64 c, .int .i64 v]) (t := 49) ?hr ?_; (case hd => rfl); (case hg => rfl); (case hr => first | (go_simp; done) | (go_simp; rfl)); intro gb hg w4 hbox hb4; have HBX := Aside0.mk hbox; have HB4 := Aside0.mk hb4; clear hb4 hbox hg; have k0 : w4.cell? ⟨gb, 0, none⟩ = some (.int .i64 op) := (blk_cell HBX.out 0).trans rfl; have k2 : w4.cell? ⟨gb, 2, none⟩ = some (.int .i64 a) := (blk_cell HBX.out 2).trans rfl; have k5 : w4.cell? ⟨gb, 5, none⟩ = some (.int .i64 v) := (blk_cell HBX.out 5).trans rfl))
           go_ret2
           exact ⟨rfl, HB4.out⟩

structure RS where
 regs : List Int
 fl : Int
 put : List Int
 ns : List Int
 nm : List Int
def setI (l : List Int) (i v : Int) : Option (List Int) := if 0 ≤ i ∧ i < (l.length : Int) then some (l.set i.toNat v) else none
theorem setI_some {l l' : List Int} {i v : Int} (h : setI l i v = some l') : 0 ≤ i ∧ i < (l.length : Int) ∧ l' = l.set i.toNat v := by
 unfold setI at h
 split at h
 · rename_i hc
   exact ⟨hc.1, hc.2, (Option.some.inj h).symm⟩
 · exact absurd h (by simp)
/-- One instruction: the counter (ahead of its step), and what it leaves. -/
def stepV (O : Int → Int → Int → Int → Option (Int × Int)) (inn st mem : List Int) (raised : List Bool) (x : S49) (pc : Int) (s : RS) : Option (Int × RS) :=
 if x.f0 = 19 then (atV s.regs x.f2).bind fun v => some (if v = 0 then wrap64 (pc + x.f3) else pc, s)
 else if x.f0 = 20 then (atV s.regs x.f2).bind fun v => (setI s.put x.f1 v).bind fun l => some (pc, { s with put := l })
 else if x.f0 = 21 then (atV s.regs x.f2).bind fun v => (setI s.nm x.f1 v).bind fun l => some (pc, { s with nm := l })
 else if x.f0 = 22 then (atV s.regs x.f2).bind fun v => (setI s.ns x.f1 v).bind fun l => some (pc, { s with ns := l })
 else (loadV inn st mem raised x).bind fun r => if r.2 = true then (setI s.regs x.f1 r.1).bind fun l => some (pc, { s with regs := l })
  else (atV s.regs x.f2).bind fun a => (atV s.regs x.f3).bind fun b => (atV s.regs x.f4).bind fun c => (if 0 ≤ x.f0 ∧ x.f0 < 23 then O x.f0 a b c else none).bind fun q =>
   (setI s.regs x.f1 q.1).bind fun l => some (pc, { s with regs := l, fl := Go.bits .or .i64 s.fl q.2 })
/-- The rounds: the counter, how many were done. -/
def runV (O : Int → Int → Int → Int → Option (Int × Int)) (inn st mem : List Int) (raised : List Bool) (l : List S49) : Nat → Int → Int → RS → Option (RS × Int)
 | 0, _, _, _ => none
 | k + 1, pc, dn, s => if pc < (l.length : Int) then (if 0 ≤ pc then (stepV O inn st mem raised (rd_T49 l pc) pc s).bind fun r => runV O inn st mem raised l k (wrap64 (r.1 + 1)) (wrap64 (dn + 1)) r.2 else none) else some (s, dn)

/-- The blocks that a run writes. -/
def S0 (Bm : Nat) (gP gS gM : Option Nat) : Nat → Prop := fun k => k = Bm ∨ some k = gP ∨ some k = gS ∨ some k = gM
theorem addr_block (ad : Addr) (n : Nat) : (ad.add n).block = ad.block := by
 unfold Addr.add
 first
  | rfl
  | (split <;> rfl)
theorem C_keep {α : Type} {d : Kd α} {S : Nat → Prop} {w w1 : World} {A : Option Addr} {n : Nat} {l : List α} (h : d.C w A n l) (hn : ∀ ad, A = some ad → 0 < n → ¬ S ad.block) (hc : Chg S w w1) (hK : ∀ x cs, d.K w x cs → d.K w1 x cs) : d.C w1 A n l :=
 ⟨h.1, h.2.1, fun h0 => by
  obtain ⟨ad, e, hr⟩ := h.2.2 h0
  refine ⟨ad, e, fun j p hj => ?_⟩
  obtain ⟨c, hs, hp, hcell⟩ := hr j p hj
  refine ⟨c, hs, hK _ _ hp, fun i u hu => ?_⟩
  have hx := hcell i u hu
  have hlt := World.block_lt_of_cell? w _ hx
  exact (World.cell?_of_block (w := w) (hc.block (ad.add (j * d.sz + i)).block hlt (fun hs => hn ad e h0 ((addr_block ad _) ▸ hs)))).trans hx⟩
theorem k49_keep {w w1 : World} {x : S49} {cs : List Value} (h : k49.K w x cs) : k49.K w1 x cs := by
 rw [k49_open h]
 exact k49_mk _ x

/-- What stands all through a run, in its first world. -/
structure RunC (w0 : World) (Bm Bk : Nat) (AL A0 A1 A2 A3 : Option Addr) (c0 c1 c2 c3 : Nat) (vP vS vM : Value) (gP gS gM : Option Nat) (l : List S49) (inn st mem : List Int) (raised : List Bool) : Prop where
 bk : w0.heap[Bk]? = some (.cells #[.slice A0 inn.length c0, .slice A1 st.length c1, .slice A2 mem.length c2, .slice A3 raised.length c3, vP, vS, vM] 121 (0, 0))
 code : Kd.C k49 w0 AL l.length l
 r0 : Kd.C (Kd.int .i64) w0 A0 inn.length inn
 r1 : Kd.C (Kd.int .i64) w0 A1 st.length st
 r2 : Kd.C (Kd.int .i64) w0 A2 mem.length mem
 r3 : Kd.C Kd.bool w0 A3 raised.length raised
 nBk : ¬ S0 Bm gP gS gM Bk
 nL : ∀ ad, AL = some ad → 0 < l.length → ¬ S0 Bm gP gS gM ad.block
 n0 : ∀ ad, A0 = some ad → 0 < inn.length → ¬ S0 Bm gP gS gM ad.block
 n1 : ∀ ad, A1 = some ad → 0 < st.length → ¬ S0 Bm gP gS gM ad.block
 n2 : ∀ ad, A2 = some ad → 0 < mem.length → ¬ S0 Bm gP gS gM ad.block
 n3 : ∀ ad, A3 = some ad → 0 < raised.length → ¬ S0 Bm gP gS gM ad.block
 dP : some Bm ≠ gP
 dS : some Bm ≠ gS
 dM : some Bm ≠ gM
 dPS : ∀ k, some k = gP → some k ≠ gS
 dPM : ∀ k, some k = gP → some k ≠ gM
 dSM : ∀ k, some k = gS → some k ≠ gM
 lP : ∀ k, some k = gP → k < w0.heap.size
 lS : ∀ k, some k = gS → k < w0.heap.size
 lM : ∀ k, some k = gM → k < w0.heap.size
 lB : Bm < w0.heap.size

/-- A round's world. -/
structure RunW (w0 : World) (Bm : Nat) (cs : Array Value) (vP vS vM : Value) (gP gS gM : Option Nat) (bP : Nat) (Gr gR : Nat) (A : Option Addr) (cR nr : Nat) (s : RS) (dn : Int) (w : World) : Prop where
 chg : Chg (S0 Bm gP gS gM) w0 w
 mach : w.heap[Bm]? = some (.cells (cs.setIfInBounds 34 (.int .i64 dn)) 112 (0, 0))
 box : w.heap[Gr]? = some (.cells #[.slice A nr cR] 23 (0, 0))
 regs : Kd.R (Kd.int .i64) 2 w w0.heap.size (fun k => k = gR) (.slice A nr cR) s.regs
 rl : s.regs.length = nr
 put : Kd.R (Kd.int .i64) 2 w bP (fun k => some k = gP) vP s.put
 ns : Kd.R (Kd.int .i64) 2 w bP (fun k => some k = gS) vS s.ns
 nm : Kd.R (Kd.int .i64) 2 w bP (fun k => some k = gM) vM s.nm
 hGr : w0.heap.size ≤ Gr
 hgR : w0.heap.size ≤ gR
section
variable {w0 : World} {Bm Bk : Nat} {cs : Array Value} {AL A0 A1 A2 A3 : Option Addr} {c0 c1 c2 c3 : Nat} {vP vS vM : Value} {gP gS gM : Option Nat} {bP Gr gR : Nat} {A : Option Addr} {cR nr : Nat} {s : RS} {dn : Int} {w w' : World} {l : List S49} {inn st mem : List Int} {raised : List Bool}
theorem RunW.below (h : RunW w0 Bm cs vP vS vM gP gS gM bP Gr gR A cR nr s dn w) (hb : Below w.heap.size w w') : RunW w0 Bm cs vP vS vM gP gS gM bP Gr gR A cR nr s dn w' :=
 ⟨h.chg.below hb, (hb.block _ (lt_of_block h.mach)).trans h.mach, (hb.block _ (lt_of_block h.box)).trans h.box, Kd.R_below h.regs hb, h.rl, Kd.R_below h.put hb, Kd.R_below h.ns hb, Kd.R_below h.nm hb, h.hGr, h.hgR⟩
theorem RunW.drew (h : RunW w0 Bm cs vP vS vM gP gS gM bP Gr gR A cR nr s dn w) : RunW w0 Bm cs vP vS vM gP gS gM bP Gr gR A cR nr s dn w.drew := h.below (below_drew1 (Below.refl _ _))
theorem RunW.done (h : RunW w0 Bm cs vP vS vM gP gS gM bP Gr gR A cR nr s dn w) (hC : RunC w0 Bm Bk AL A0 A1 A2 A3 c0 c1 c2 c3 vP vS vM gP gS gM l inn st mem raised) (dn' : Int) :
 RunW w0 Bm cs vP vS vM gP gS gM bP Gr gR A cR nr s dn' (w.setCell ⟨Bm, 34, none⟩ (.int .i64 dn')) := by
 have hne : ∀ k, k ≠ Bm → (w.setCell ⟨Bm, 34, none⟩ (.int .i64 dn')).heap[k]? = w.heap[k]? := fun k hk => heap_setCell_other w ⟨Bm, 34, none⟩ k _ hk
 refine ⟨h.chg.setCell (.inl (.inl rfl)) _, ?_, (hne _ (by have := h.hGr; have := hC.lB; omega)).trans h.box, Kd.R_step h.regs (fun k hk _ => hne k (by have := h.hgR; have := hC.lB; omega)), h.rl,
  Kd.R_step h.put (fun k hk _ => hne k (fun e => hC.dP (by rw [← e]; exact hk))), Kd.R_step h.ns (fun k hk _ => hne k (fun e => hC.dS (by rw [← e]; exact hk))), Kd.R_step h.nm (fun k hk _ => hne k (fun e => hC.dM (by rw [← e]; exact hk))), h.hGr, h.hgR⟩
 rw [heap_setCell_same w Bm 34 _ 112 _ h.mach, Array.setIfInBounds_setIfInBounds]
theorem RunW.setRegs (h : RunW w0 Bm cs vP vS vM gP gS gM bP Gr gR (some ⟨gR, 0, none⟩) cR nr s dn w) (hC : RunC w0 Bm Bk AL A0 A1 A2 A3 c0 c1 c2 c3 vP vS vM gP gS gM l inn st mem raised) (i v : Int) (fl' : Int) :
 RunW w0 Bm cs vP vS vM gP gS gM bP Gr gR (some ⟨gR, 0, none⟩) cR nr { s with regs := s.regs.set i.toNat v, fl := fl' } dn (w.setCell ⟨gR, i.toNat, none⟩ (.int .i64 v)) := by
 have hne : ∀ k, k ≠ gR → (w.setCell ⟨gR, i.toNat, none⟩ (.int .i64 v)).heap[k]? = w.heap[k]? := fun k hk => heap_setCell_other w ⟨gR, i.toNat, none⟩ k _ hk
 have hl := h.rl
 have hr := h.regs
 rw [← hl] at hr
 have hp := (Kd.R_put hr i v).1
 rw [hl] at hp
 have hGg : Gr ≠ gR := fun e => by
  obtain ⟨inner, ho⟩ := Kd.R_own h.regs
  obtain ⟨cells, hc⟩ := own_typed ho gR rfl
  have hb := h.box
  rw [e, hc] at hb
  injection hb with hb
  injection hb with _ hb
  exact absurd hb (by decide)
 refine ⟨h.chg.setCell (.inr h.hgR) _, (hne _ (by have := h.hgR; have := hC.lB; omega)).trans h.mach, (hne _ hGg).trans h.box, hp, by simp [hl],
  Kd.R_step h.put (fun k hk _ => hne k (by have := h.hgR; have := hC.lP k hk; omega)), Kd.R_step h.ns (fun k hk _ => hne k (by have := h.hgR; have := hC.lS k hk; omega)), Kd.R_step h.nm (fun k hk _ => hne k (by have := h.hgR; have := hC.lM k hk; omega)), h.hGr, h.hgR⟩
theorem RunW.setPut {b cb : Nat} (h : RunW w0 Bm cs vP vS vM gP gS gM bP Gr gR A cR nr s dn w) (hC : RunC w0 Bm Bk AL A0 A1 A2 A3 c0 c1 c2 c3 vP vS vM gP gS gM l inn st mem raised) (hv : vP = .slice (some ⟨b, 0, none⟩) s.put.length cb) (i v : Int) :
 RunW w0 Bm cs vP vS vM gP gS gM bP Gr gR A cR nr { s with put := s.put.set i.toNat v } dn (w.setCell ⟨b, i.toNat, none⟩ (.int .i64 v)) := by
 have hne : ∀ k, k ≠ b → (w.setCell ⟨b, i.toNat, none⟩ (.int .i64 v)).heap[k]? = w.heap[k]? := fun k hk => heap_setCell_other w ⟨b, i.toNat, none⟩ k _ hk
 have hr := h.put
 rw [hv] at hr
 have hb : some b = gP := hr.1 b rfl
 have hlt : b < w0.heap.size := hC.lP b hb
 have hp := (Kd.R_put hr i v).1
 rw [← hv] at hp
 refine ⟨h.chg.setCell (.inl (.inr (.inl hb))) _, (hne _ (fun e => hC.dP (by rw [e]; exact hb))).trans h.mach, (hne _ (by have := h.hGr; omega)).trans h.box, Kd.R_step h.regs (fun k hk _ => hne k (by have := h.hgR; omega)), h.rl,
  hp, Kd.R_step h.ns (fun k hk _ => hne k (fun e => by subst e; exact hC.dPS _ hb hk)), Kd.R_step h.nm (fun k hk _ => hne k (fun e => by subst e; exact hC.dPM _ hb hk)), h.hGr, h.hgR⟩
theorem RunW.setNs {b cb : Nat} (h : RunW w0 Bm cs vP vS vM gP gS gM bP Gr gR A cR nr s dn w) (hC : RunC w0 Bm Bk AL A0 A1 A2 A3 c0 c1 c2 c3 vP vS vM gP gS gM l inn st mem raised) (hv : vS = .slice (some ⟨b, 0, none⟩) s.ns.length cb) (i v : Int) :
 RunW w0 Bm cs vP vS vM gP gS gM bP Gr gR A cR nr { s with ns := s.ns.set i.toNat v } dn (w.setCell ⟨b, i.toNat, none⟩ (.int .i64 v)) := by
 have hne : ∀ k, k ≠ b → (w.setCell ⟨b, i.toNat, none⟩ (.int .i64 v)).heap[k]? = w.heap[k]? := fun k hk => heap_setCell_other w ⟨b, i.toNat, none⟩ k _ hk
 have hr := h.ns
 rw [hv] at hr
 have hb : some b = gS := hr.1 b rfl
 have hlt : b < w0.heap.size := hC.lS b hb
 have hp := (Kd.R_put hr i v).1
 rw [← hv] at hp
 refine ⟨h.chg.setCell (.inl (.inr (.inr (.inl hb)))) _, (hne _ (fun e => hC.dS (by rw [e]; exact hb))).trans h.mach, (hne _ (by have := h.hGr; omega)).trans h.box, Kd.R_step h.regs (fun k hk _ => hne k (by have := h.hgR; omega)), h.rl,
  Kd.R_step h.put (fun k hk _ => hne k (fun e => by subst e; exact hC.dPS _ hk hb)), hp, Kd.R_step h.nm (fun k hk _ => hne k (fun e => by subst e; exact hC.dSM _ hb hk)), h.hGr, h.hgR⟩
theorem RunW.setNm {b cb : Nat} (h : RunW w0 Bm cs vP vS vM gP gS gM bP Gr gR A cR nr s dn w) (hC : RunC w0 Bm Bk AL A0 A1 A2 A3 c0 c1 c2 c3 vP vS vM gP gS gM l inn st mem raised) (hv : vM = .slice (some ⟨b, 0, none⟩) s.nm.length cb) (i v : Int) :
 RunW w0 Bm cs vP vS vM gP gS gM bP Gr gR A cR nr { s with nm := s.nm.set i.toNat v } dn (w.setCell ⟨b, i.toNat, none⟩ (.int .i64 v)) := by
 have hne : ∀ k, k ≠ b → (w.setCell ⟨b, i.toNat, none⟩ (.int .i64 v)).heap[k]? = w.heap[k]? := fun k hk => heap_setCell_other w ⟨b, i.toNat, none⟩ k _ hk
 have hr := h.nm
 rw [hv] at hr
 have hb : some b = gM := hr.1 b rfl
 have hlt : b < w0.heap.size := hC.lM b hb
 have hp := (Kd.R_put hr i v).1
 rw [← hv] at hp
 refine ⟨h.chg.setCell (.inl (.inr (.inr (.inr hb)))) _, (hne _ (fun e => hC.dM (by rw [e]; exact hb))).trans h.mach, (hne _ (by have := h.hGr; omega)).trans h.box, Kd.R_step h.regs (fun k hk _ => hne k (by have := h.hgR; omega)), h.rl,
  Kd.R_step h.put (fun k hk _ => hne k (fun e => by subst e; exact hC.dPM _ hk hb)), Kd.R_step h.ns (fun k hk _ => hne k (fun e => by subst e; exact hC.dSM _ hk hb)), hp, h.hGr, h.hgR⟩
/-- The lists, as_ they read in a round. -/
theorem RunC.at_ (hC : RunC w0 Bm Bk AL A0 A1 A2 A3 c0 c1 c2 c3 vP vS vM gP gS gM l inn st mem raised) (h : Chg (S0 Bm gP gS gM) w0 w) :
 w.heap[Bk]? = some (.cells #[.slice A0 inn.length c0, .slice A1 st.length c1, .slice A2 mem.length c2, .slice A3 raised.length c3, vP, vS, vM] 121 (0, 0)) ∧ Kd.C k49 w AL l.length l ∧ Kd.C (Kd.int .i64) w A0 inn.length inn ∧ Kd.C (Kd.int .i64) w A1 st.length st ∧ Kd.C (Kd.int .i64) w A2 mem.length mem ∧ Kd.C Kd.bool w A3 raised.length raised :=
 ⟨(h.block _ (lt_of_block hC.bk) hC.nBk).trans hC.bk, C_keep hC.code hC.nL h (fun _ _ hk => k49_keep hk), C_keep hC.r0 hC.n0 h (fun _ _ hk => hk), C_keep hC.r1 hC.n1 h (fun _ _ hk => hk), C_keep hC.r2 hC.n2 h (fun _ _ hk => hk), C_keep hC.r3 hC.n3 h (fun _ _ hk => hk)⟩
/-- The number of a register, told by the closure. -/
theorem RunW.at_call (h : RunW w0 Bm cs vP vS vM gP gS gM bP Gr gR A cR nr s dn w) (hn : 0 < nr) (hm : nr ≤ 4000) (n r : Int) (hv : atV s.regs n = some r) :
 Calls Tryz.prog 129 #[.int .i64 n, .pointer (some ⟨Gr, 0, none⟩)] w fun e w' => e = .returned (.int .i64 r) ∧ w' = w := by
 have rl := h.rl
 obtain ⟨A', c', e, hc, hr⟩ := Kd.R_reads h.regs
 injection e with e1 e2 e3
 subst e1
 have hb := h.box
 rw [← rl] at hb
 exact at_any Gr A cR s.regs n r w hv (by omega) (by omega) hb hr
/-- A round's world behind its head: the instruction's box too. -/
structure Rnd (w0 : World) (Bm Bk : Nat) (cs : Array Value) (vP vS vM : Value) (gP gS gM : Option Nat) (bP : Nat) (Gr gR : Nat) (A : Option Addr) (cR nr : Nat) (s : RS) (dn : Int) (gx : Nat) (op d a b c v : Int) (w : World) : Prop where
 run : RunW w0 Bm cs vP vS vM gP gS gM bP Gr gR A cR nr s dn w
 box : w.heap[gx]? = some (.cells #[.int .i64 op, .int .i64 d, .int .i64 a, .int .i64 b, .int .i64 c, .int .i64 v] 49 (0, 0))
 new : w0.heap.size ≤ gx
variable {gx : Nat} {op d a b c v : Int}
theorem Rnd.below (h : Rnd w0 Bm Bk cs vP vS vM gP gS gM bP Gr gR A cR nr s dn gx op d a b c v w) (hb : Below w.heap.size w w') : Rnd w0 Bm Bk cs vP vS vM gP gS gM bP Gr gR A cR nr s dn gx op d a b c v w' :=
 ⟨h.run.below hb, (hb.block _ (lt_of_block h.box)).trans h.box, h.new⟩
theorem Rnd.drew (h : Rnd w0 Bm Bk cs vP vS vM gP gS gM bP Gr gR A cR nr s dn gx op d a b c v w) : Rnd w0 Bm Bk cs vP vS vM gP gS gM bP Gr gR A cR nr s dn gx op d a b c v w.drew := h.below (below_drew1 (Below.refl _ _))
theorem Rnd.x (h : Rnd w0 Bm Bk cs vP vS vM gP gS gM bP Gr gR A cR nr s dn gx op d a b c v w) : w.cell? ⟨gx, 0, none⟩ = some (.int .i64 op) ∧ w.cell? ⟨gx, 1, none⟩ = some (.int .i64 d) ∧ w.cell? ⟨gx, 2, none⟩ = some (.int .i64 a) ∧ w.cell? ⟨gx, 3, none⟩ = some (.int .i64 b) ∧ w.cell? ⟨gx, 4, none⟩ = some (.int .i64 c) ∧ w.cell? ⟨gx, 5, none⟩ = some (.int .i64 v) :=
 ⟨(blk_cell h.box 0).trans rfl, (blk_cell h.box 1).trans rfl, (blk_cell h.box 2).trans rfl, (blk_cell h.box 3).trans rfl, (blk_cell h.box 4).trans rfl, (blk_cell h.box 5).trans rfl⟩
theorem Rnd.bank (h : Rnd w0 Bm Bk cs vP vS vM gP gS gM bP Gr gR A cR nr s dn gx op d a b c v w) (hC : RunC w0 Bm Bk AL A0 A1 A2 A3 c0 c1 c2 c3 vP vS vM gP gS gM l inn st mem raised) : w.cell? ⟨Bk, 4, none⟩ = some vP ∧ w.cell? ⟨Bk, 5, none⟩ = some vS ∧ w.cell? ⟨Bk, 6, none⟩ = some vM :=
 have hb := (hC.at_ h.run.chg).1
 ⟨(blk_cell hb 4).trans rfl, (blk_cell hb 5).trans rfl, (blk_cell hb 6).trans rfl⟩
theorem Rnd.putR {q cb : Nat} (h : Rnd w0 Bm Bk cs vP vS vM gP gS gM bP Gr gR A cR nr s dn gx op d a b c v w) (hC : RunC w0 Bm Bk AL A0 A1 A2 A3 c0 c1 c2 c3 vP vS vM gP gS gM l inn st mem raised) (hv : vP = .slice (some ⟨q, 0, none⟩) s.put.length cb) (i z : Int) :
 Rnd w0 Bm Bk cs vP vS vM gP gS gM bP Gr gR A cR nr { s with put := s.put.set i.toNat z } dn gx op d a b c v (w.setCell ⟨q, i.toNat, none⟩ (.int .i64 z)) :=
 ⟨h.run.setPut hC hv i z, (heap_setCell_other w ⟨q, i.toNat, none⟩ gx _ (fun e => by
  have hr := h.run.put
  rw [hv] at hr
  have h1 := hC.lP q (hr.1 q rfl)
  have h2 := h.new
  have h3 : gx = q := e
  omega)).trans h.box, h.new⟩
theorem Rnd.putAt {q cb : Nat} (h : Rnd w0 Bm Bk cs vP vS vM gP gS gM bP Gr gR A cR nr s dn gx op d a b c v w) (hv : vP = .slice (some ⟨q, 0, none⟩) s.put.length cb) (i : Int) (h0 : 0 ≤ i) (h1 : i < (s.put.length : Int)) : w.cell? ⟨q, i.toNat, none⟩ = some (.int .i64 (rdOf 0 s.put i)) ∧ w.frozen? ⟨q, i.toNat, none⟩ = false := by
 have hr := h.run.put
 rw [hv] at hr
 exact Kd.R_cell (0 : Int) hr i h0 h1
theorem Rnd.nsR {q cb : Nat} (h : Rnd w0 Bm Bk cs vP vS vM gP gS gM bP Gr gR A cR nr s dn gx op d a b c v w) (hC : RunC w0 Bm Bk AL A0 A1 A2 A3 c0 c1 c2 c3 vP vS vM gP gS gM l inn st mem raised) (hv : vS = .slice (some ⟨q, 0, none⟩) s.ns.length cb) (i z : Int) :
 Rnd w0 Bm Bk cs vP vS vM gP gS gM bP Gr gR A cR nr { s with ns := s.ns.set i.toNat z } dn gx op d a b c v (w.setCell ⟨q, i.toNat, none⟩ (.int .i64 z)) :=
 ⟨h.run.setNs hC hv i z, (heap_setCell_other w ⟨q, i.toNat, none⟩ gx _ (fun e => by
  have hr := h.run.ns
  rw [hv] at hr
  have h1 := hC.lS q (hr.1 q rfl)
  have h2 := h.new
  have h3 : gx = q := e
  omega)).trans h.box, h.new⟩
theorem Rnd.nsAt {q cb : Nat} (h : Rnd w0 Bm Bk cs vP vS vM gP gS gM bP Gr gR A cR nr s dn gx op d a b c v w) (hv : vS = .slice (some ⟨q, 0, none⟩) s.ns.length cb) (i : Int) (h0 : 0 ≤ i) (h1 : i < (s.ns.length : Int)) : w.cell? ⟨q, i.toNat, none⟩ = some (.int .i64 (rdOf 0 s.ns i)) ∧ w.frozen? ⟨q, i.toNat, none⟩ = false := by
 have hr := h.run.ns
 rw [hv] at hr
 exact Kd.R_cell (0 : Int) hr i h0 h1
theorem Rnd.nmR {q cb : Nat} (h : Rnd w0 Bm Bk cs vP vS vM gP gS gM bP Gr gR A cR nr s dn gx op d a b c v w) (hC : RunC w0 Bm Bk AL A0 A1 A2 A3 c0 c1 c2 c3 vP vS vM gP gS gM l inn st mem raised) (hv : vM = .slice (some ⟨q, 0, none⟩) s.nm.length cb) (i z : Int) :
 Rnd w0 Bm Bk cs vP vS vM gP gS gM bP Gr gR A cR nr { s with nm := s.nm.set i.toNat z } dn gx op d a b c v (w.setCell ⟨q, i.toNat, none⟩ (.int .i64 z)) :=
 ⟨h.run.setNm hC hv i z, (heap_setCell_other w ⟨q, i.toNat, none⟩ gx _ (fun e => by
  have hr := h.run.nm
  rw [hv] at hr
  have h1 := hC.lM q (hr.1 q rfl)
  have h2 := h.new
  have h3 : gx = q := e
  omega)).trans h.box, h.new⟩
theorem Rnd.nmAt {q cb : Nat} (h : Rnd w0 Bm Bk cs vP vS vM gP gS gM bP Gr gR A cR nr s dn gx op d a b c v w) (hv : vM = .slice (some ⟨q, 0, none⟩) s.nm.length cb) (i : Int) (h0 : 0 ≤ i) (h1 : i < (s.nm.length : Int)) : w.cell? ⟨q, i.toNat, none⟩ = some (.int .i64 (rdOf 0 s.nm i)) ∧ w.frozen? ⟨q, i.toNat, none⟩ = false := by
 have hr := h.run.nm
 rw [hv] at hr
 exact Kd.R_cell (0 : Int) hr i h0 h1
theorem Rnd.regsAt (h : Rnd w0 Bm Bk cs vP vS vM gP gS gM bP Gr gR (some ⟨gR, 0, none⟩) cR nr s dn gx op d a b c v w) (i : Int) (h0 : 0 ≤ i) (h1 : i < (s.regs.length : Int)) : w.cell? ⟨gR, i.toNat, none⟩ = some (.int .i64 (rdOf 0 s.regs i)) ∧ w.frozen? ⟨gR, i.toNat, none⟩ = false := by
 have hr := h.run.regs
 rw [← h.run.rl] at hr
 exact Kd.R_cell (0 : Int) hr i h0 h1
end
end Go.Proofs.YtgalkkolbobmbaaGreat.V
