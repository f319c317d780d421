/- The Go functions code.pieces and code.Bytes. -/
import Derived.Test.YtccolpkjgjjipaaCStr
import Derived.Lib.SlBytesConst
import Derived.Deep.RegionHeld3
import Derived.Laws.Rows
namespace Go.Proofs.Ytccolpkjgjjipaa.K
open Go.RowKit Go.Proofs.YtccolpkjgjjipaaW.PrintWords Go.Proofs.YtccolpkjgjjipaaW.PrintLast Go.Proofs.YtccolpkjgjjipaaW.PrintMore
set_option linter.unusedVariables false
set_option linter.unusedSimpArgs false

theorem blk_fresh (W : World) (o : Obj) : (W.alloc o).heap[W.heap.size]? = some o := by
  show (W.heap.push o)[W.heap.size]? = some o
  simp
theorem blk_elder {W : World} {g : Nat} {x : Obj} (h : W.heap[g]? = some x) (o : Obj) : (W.alloc o).heap[g]? = some x := blk_alloc h o
def tS (s : Int) : Nat → Int
  | 0 => s
  | k + 1 => tS s k / 256
def tB (B : List Int) (s : Int) : Nat → List Int
  | 0 => B
  | k + 1 => tB B s k ++ [tS s k % 256]
theorem tB_length (B : List Int) (s : Int) : ∀ k, (tB B s k).length = B.length + k
  | 0 => rfl
  | k + 1 => by rw [tB, List.length_append, tB_length B s k]; rfl
theorem tB_all (B : List Int) (s : Int) : tB B s 4 = B ++ tailB s := by simp [tB, tS, tailB]
theorem sum_any {w : World} {base : Nat} {ok : Nat → Prop} {v : Value} {B : List Int} (ho : Kd.R (Kd.int .u8) 5 w base ok v B) (hl : B.length + 100 < 140737488355328) :
    Calls Try.prog 46 #[v] w fun e w' => e = .returned (.int .u32 (sumB B)) ∧ Drawn0 w w' := by
  obtain ⟨A, c, rfl⟩ := Kd.R_slice ho
  have hr := Kd.R_reads' ho
  exact code_sum.calls (B.length + 1) A c B _ w hr.2.2 hr.2.1 (sum_f B (by omega))
set_option maxRecDepth 100000 in
theorem cpieces_any (g : Nat) (w : World) : Calls Try.prog 33 #[.pointer (some ⟨g, 0, none⟩)] w fun e w' => e = .returned (.agg #[.pointer (some ⟨g, 6, none⟩), .pointer (some ⟨g, 7, none⟩), .pointer (some ⟨g, 8, none⟩), .pointer (some ⟨g, 9, none⟩)]) ∧ Below w.heap.size w w' := by
  go_enter Try.func33, Try.ntmps33
  go_wp2_with fail
  go_region_held3 (fun _ => True) (exact trivial) ((fail))
  go_wp2
  refine bodyPost_ret (results_cell_row rfl _ _ w.heap.size 58 #[.pointer (some ⟨g, 6, none⟩), .pointer (some ⟨g, 7, none⟩), .pointer (some ⟨g, 8, none⟩), .pointer (some ⟨g, 9, none⟩)] (0, 0) _ rfl (blk_drew (blk_fresh w _)) Try.underlying58 rfl (by kernel_rfl)) rfl ⟨rfl, below_drew1 ((Below.refl _ _).alloc (Nat.le_refl _) _)⟩
set_option maxHeartbeats 4000000 in
set_option maxRecDepth 100000 in
theorem code_Bytes.calls (A0_0 : Option Addr) (c0_0 : Nat) (l0_0 : List Int) (A0_1 : Option Addr) (c0_1 : Nat) (l0_1 : List Int) (A0_2 : Option Addr) (c0_2 : Nat) (l0_2 : List Int) (A0_3 : Option Addr) (c0_3 : Nat) (l0_3 : List Int) (a0_4 : Int) (a0_5 : Int) (A0_6 : Option Addr) (c0_6 : Nat) (l0_6 : List (S47)) (A0_7 : Option Addr) (c0_7 : Nat) (l0_7 : List (S47)) (A0_8 : Option Addr) (c0_8 : Nat) (l0_8 : List (S47)) (A0_9 : Option Addr) (c0_9 : Nat) (l0_9 : List (S47)) (r : List Int) (w : World)
    (hr0_0 : Kd.C (Kd.int .i64) w A0_0 l0_0.length l0_0) (hc0_0 : l0_0.length ≤ c0_0) (hr0_1 : Kd.C (Kd.int .i64) w A0_1 l0_1.length l0_1) (hc0_1 : l0_1.length ≤ c0_1) (hr0_2 : Kd.C (Kd.int .i64) w A0_2 l0_2.length l0_2) (hc0_2 : l0_2.length ≤ c0_2) (hr0_3 : Kd.C (Kd.int .i64) w A0_3 l0_3.length l0_3) (hc0_3 : l0_3.length ≤ c0_3) (hr0_6 : Kd.C k47 w A0_6 l0_6.length l0_6) (hc0_6 : l0_6.length ≤ c0_6) (hr0_7 : Kd.C k47 w A0_7 l0_7.length l0_7) (hc0_7 : l0_7.length ≤ c0_7) (hr0_8 : Kd.C k47 w A0_8 l0_8.length l0_8) (hc0_8 : l0_8.length ≤ c0_8) (hr0_9 : Kd.C k47 w A0_9 l0_9.length l0_9) (hc0_9 : l0_9.length ≤ c0_9)
    (h : code_Bytes.f l0_0 l0_1 l0_2 l0_3 a0_4 a0_5 l0_6 l0_7 l0_8 l0_9 = some r) :
    Calls Try.prog 13 #[.agg #[.slice A0_0 l0_0.length c0_0, .slice A0_1 l0_1.length c0_1, .slice A0_2 l0_2.length c0_2, .slice A0_3 l0_3.length c0_3, .int .i64 a0_4, .int .i64 a0_5, .slice A0_6 l0_6.length c0_6, .slice A0_7 l0_7.length c0_7, .slice A0_8 l0_8.length c0_8, .slice A0_9 l0_9.length c0_9]] w fun e w' => ∃ v0_ : Value, e = .returned (v0_) ∧ Kd.R (Kd.int .u8) 5 w' w.heap.size (fun _ => True) v0_ r ∧ Below w.heap.size w w' := by
  unfold code_Bytes.f at h
  split at h
  case isFalse => cases h
  rename_i hlen
  obtain rfl := Option.some.inj h
  have hu28 := Try.underlying28
  have hu47 := Try.underlying47
  have HL := Aside0.mk hlen
  clear h hlen
  have HR0 := Aside0.mk hr0_0
  have HC0 := Aside0.mk hc0_0
  clear hr0_0 hc0_0
  have HR1 := Aside0.mk hr0_1
  have HC1 := Aside0.mk hc0_1
  clear hr0_1 hc0_1
  have HR2 := Aside0.mk hr0_2
  have HC2 := Aside0.mk hc0_2
  clear hr0_2 hc0_2
  have HR3 := Aside0.mk hr0_3
  have HC3 := Aside0.mk hc0_3
  clear hr0_3 hc0_3
  have HR6 := Aside0.mk hr0_6
  have HC6 := Aside0.mk hc0_6
  clear hr0_6 hc0_6
  have HR7 := Aside0.mk hr0_7
  have HC7 := Aside0.mk hc0_7
  clear hr0_7 hc0_7
  have HR8 := Aside0.mk hr0_8
  have HC8 := Aside0.mk hc0_8
  clear hr0_8 hc0_8
  have HR9 := Aside0.mk hr0_9
  have HC9 := Aside0.mk hc0_9
  clear hr0_9 hc0_9
  obtain ⟨b0, hb0⟩ : ∃ b : List Int, b = [65, 83, 84, 49] := ⟨_, rfl⟩
  obtain ⟨b1, hb1⟩ : ∃ b, b = b0 ++ listB l0_0 := ⟨_, rfl⟩
  obtain ⟨b2, hb2⟩ : ∃ b, b = b1 ++ listB l0_1 := ⟨_, rfl⟩
  obtain ⟨b3, hb3⟩ : ∃ b, b = b2 ++ listB l0_2 := ⟨_, rfl⟩
  obtain ⟨b4, hb4⟩ : ∃ b, b = b3 ++ listB l0_3 := ⟨_, rfl⟩
  obtain ⟨b5, hb5⟩ : ∃ b, b = b4 ++ numB a0_4 := ⟨_, rfl⟩
  obtain ⟨b6, hb6⟩ : ∃ b, b = b5 ++ numB a0_5 := ⟨_, rfl⟩
  have HE := Aside0.mk (show bytesB l0_0 l0_1 l0_2 l0_3 a0_4 a0_5 l0_6 l0_7 l0_8 l0_9 = pTo b6 (four l0_6 l0_7 l0_8 l0_9) 4 ++ tailB (sumB (pTo b6 (four l0_6 l0_7 l0_8 l0_9) 4)) by rw [hb6, hb5, hb4, hb3, hb2, hb1, hb0]; rfl)
  have HN := Aside0.mk (show (pTo b6 (four l0_6 l0_7 l0_8 l0_9) 4).length + 100 < 140737488355328 by have h1 := HL.out; rw [HE.out, List.length_append] at h1; omega)
  have n6 : b6.length ≤ (pTo b6 (four l0_6 l0_7 l0_8 l0_9) 4).length := by simp only [pTo, List.length_append]; omega
  have h1 := HN.out
  have m1 : b1.length = b0.length + (listB l0_0).length := by rw [hb1, List.length_append]
  have m2 : b2.length = b1.length + (listB l0_1).length := by rw [hb2, List.length_append]
  have m3 : b3.length = b2.length + (listB l0_2).length := by rw [hb3, List.length_append]
  have m4 : b4.length = b3.length + (listB l0_3).length := by rw [hb4, List.length_append]
  have m5 : b5.length = b4.length + (numB a0_4).length := by rw [hb5, List.length_append]
  have m6 : b6.length = b5.length + (numB a0_5).length := by rw [hb6, List.length_append]
  have HP1 := Aside0.mk (show b0.length + (listB l0_0).length + 10 < 140737488355328 by omega)
  have HP2 := Aside0.mk (show b1.length + (listB l0_1).length + 10 < 140737488355328 by omega)
  have HP3 := Aside0.mk (show b2.length + (listB l0_2).length + 10 < 140737488355328 by omega)
  have HP4 := Aside0.mk (show b3.length + (listB l0_3).length + 10 < 140737488355328 by omega)
  have HP5 := Aside0.mk (show b4.length + 10 < 140737488355328 by omega)
  have HP6 := Aside0.mk (show b5.length + 10 < 140737488355328 by omega)
  have HE0 := Aside0.mk hb0
  have HE1 := Aside0.mk hb1
  have HE2 := Aside0.mk hb2
  have HE3 := Aside0.mk hb3
  have HE4 := Aside0.mk hb4
  have HE5 := Aside0.mk hb5
  have HE6 := Aside0.mk hb6
  clear n6 h1 m1 m2 m3 m4 m5 m6 hb0 hb1 hb2 hb3 hb4 hb5 hb6
  have kc := fun (w : World) (C : Array Value) (n c : Nat) => Lib.run_convert_bytes_const (P := Try.prog) w 22 5 C n c Try.underlying22 Try.underlying5
  go_enter Try.func13, Try.ntmps13
  go_wp2_with (first | ((with_reducible refine gate_dst (N := 1) rfl ?_); refine box_event ?hg (N := 1) ?hd (cs := #[.slice A0_0 l0_0.length c0_0, .slice A0_1 l0_1.length c0_1, .slice A0_2 l0_2.length c0_2, .slice A0_3 l0_3.length c0_3, .int .i64 a0_4, .int .i64 a0_5, .slice A0_6 l0_6.length c0_6, .slice A0_7 l0_7.length c0_7, .slice A0_8 l0_8.length c0_8, .slice A0_9 l0_9.length c0_9]) (t := 28) ?hr ?_; (case hd => rfl); (case hg => rfl); (case hr => first | (go_simp; done) | (go_simp; rfl)); intro g hg w1 hbox hb; have HB := Aside0.mk (show Below w.heap.size w w1 from hb); have BK := Aside0.mk hbox; clear hb hbox hg))
  have hsz := HB.out.size
  have t0 := RS_lit w1 [65, 83, 84, 49] w.heap.size hsz (4, 5) 4 4 rfl rfl
  have t1 : RS (w1.alloc (Obj.cells #[.int .u8 65, .int .u8 83, .int .u8 84, .int .u8 49] 5 (4, 5))) w.heap.size (fun _ => True) (.slice (some ⟨w1.heap.size, 0, none⟩) 4 4) [65, 83, 84, 49] := t0
  rw [← HE0.out] at t1
  have HO2 := Aside0.mk t1
  clear t0 t1 hsz
  have BK2 := Aside0.mk (blk_alloc BK.out (Obj.cells #[.int .u8 65, .int .u8 83, .int .u8 84, .int .u8 49] 5 (4, 5)))
  have HB2 := Aside0.mk (below_alloc HB.out (Obj.cells #[.int .u8 65, .int .u8 83, .int .u8 84, .int .u8 49] 5 (4, 5)))
  have hq0 : (w1.alloc (Obj.cells #[.int .u8 65, .int .u8 83, .int .u8 84, .int .u8 49] 5 (4, 5))).drew.cell? ⟨g, 0, none⟩ = some (.slice A0_0 l0_0.length c0_0) := (blk_cell (blk_drew BK2.out) 0).trans rfl
  have hq1 : (w1.alloc (Obj.cells #[.int .u8 65, .int .u8 83, .int .u8 84, .int .u8 49] 5 (4, 5))).drew.cell? ⟨g, 1, none⟩ = some (.slice A0_1 l0_1.length c0_1) := (blk_cell (blk_drew BK2.out) 1).trans rfl
  go_region_held3 (fun w' => w'.cell? ⟨g, 0, none⟩ = some (.slice A0_0 l0_0.length c0_0) ∧ w'.cell? ⟨g, 1, none⟩ = some (.slice A0_1 l0_1.length c0_1)) (go_keep) (first | (go_at_call 42; ((with_reducible refine (list_anyS A0_0 c0_0 l0_0 (w0 := w) (below_drew1 HB2.out) (RS_drew HO2.out) HR0.out HC0.out HP1.out).mono ?_); rintro e wa ⟨va, rfl, hoa, hba, hka⟩; have BKa := Aside0.mk (hka g _ _ (by decide) (blk_drew BK2.out)); have HOa := Aside0.mk hoa; have HBa := Aside0.mk hba; clear hoa hba hka; rw [← HE1.out] at HOa; have ha0 : wa.cell? ⟨g, 0, none⟩ = some (.slice A0_0 l0_0.length c0_0) := (blk_cell BKa.out 0).trans rfl; have ha1 : wa.cell? ⟨g, 1, none⟩ = some (.slice A0_1 l0_1.length c0_1) := (blk_cell BKa.out 1).trans rfl)) | (go_at_call 42; ((with_reducible refine (list_any A0_1 c0_1 l0_1 (w0 := w) HBa.out HOa.out HR1.out HC1.out HP2.out).mono ?_); rintro e wb ⟨vb, rfl, hob, hbb, hkb⟩; have BKb := Aside0.mk (hkb g _ _ (by decide) BKa.out); have HOb := Aside0.mk hob; have HBb := Aside0.mk hbb; clear hob hbb hkb; rw [← HE2.out] at HOb; have hb0 : wb.cell? ⟨g, 0, none⟩ = some (.slice A0_0 l0_0.length c0_0) := (blk_cell BKb.out 0).trans rfl; have hb1 : wb.cell? ⟨g, 1, none⟩ = some (.slice A0_1 l0_1.length c0_1) := (blk_cell BKb.out 1).trans rfl)))
  clear BKa HOa HBa hq0 hq1 ha0 ha1 hb0 hb1
  have BK4 := BKb
  have HO4 := HOb
  have HB4 := HBb
  clear BKb HOb HBb
  go_wp2_with fail
  have hq0 : wb.drew.cell? ⟨g, 2, none⟩ = some (.slice A0_2 l0_2.length c0_2) := (blk_cell (blk_drew BK4.out) 2).trans rfl
  have hq1 : wb.drew.cell? ⟨g, 3, none⟩ = some (.slice A0_3 l0_3.length c0_3) := (blk_cell (blk_drew BK4.out) 3).trans rfl
  go_region_held3 (fun w' => w'.cell? ⟨g, 2, none⟩ = some (.slice A0_2 l0_2.length c0_2) ∧ w'.cell? ⟨g, 3, none⟩ = some (.slice A0_3 l0_3.length c0_3)) (go_keep) (first | (go_at_call 43; ((with_reducible refine (list64_any A0_2 c0_2 l0_2 (w0 := w) (below_drew1 HB4.out) (Kd.R_drew HO4.out) HR2.out HC2.out HP3.out).mono ?_); rintro e wa ⟨va, rfl, hoa, hba, hka⟩; have BKa := Aside0.mk (hka g _ _ (by decide) (blk_drew BK4.out)); have HOa := Aside0.mk hoa; have HBa := Aside0.mk hba; clear hoa hba hka; rw [← HE3.out] at HOa; have ha0 : wa.cell? ⟨g, 2, none⟩ = some (.slice A0_2 l0_2.length c0_2) := (blk_cell BKa.out 2).trans rfl; have ha1 : wa.cell? ⟨g, 3, none⟩ = some (.slice A0_3 l0_3.length c0_3) := (blk_cell BKa.out 3).trans rfl)) | (go_at_call 43; ((with_reducible refine (list64_any A0_3 c0_3 l0_3 (w0 := w) HBa.out HOa.out HR3.out HC3.out HP4.out).mono ?_); rintro e wb ⟨vb, rfl, hob, hbb, hkb⟩; have BKb := Aside0.mk (hkb g _ _ (by decide) BKa.out); have HOb := Aside0.mk hob; have HBb := Aside0.mk hbb; clear hob hbb hkb; rw [← HE4.out] at HOb; have hb0 : wb.cell? ⟨g, 2, none⟩ = some (.slice A0_2 l0_2.length c0_2) := (blk_cell BKb.out 2).trans rfl; have hb1 : wb.cell? ⟨g, 3, none⟩ = some (.slice A0_3 l0_3.length c0_3) := (blk_cell BKb.out 3).trans rfl)))
  clear BKa HOa HBa hq0 hq1 ha0 ha1 hb0 hb1
  have BK6 := BKb
  have HO6 := HOb
  have HB6 := HBb
  clear BKb HOb HBb
  go_wp2_with fail
  have hq0 : wb.drew.cell? ⟨g, 4, none⟩ = some (.int .i64 a0_4) := (blk_cell (blk_drew BK6.out) 4).trans rfl
  have hq1 : wb.drew.cell? ⟨g, 5, none⟩ = some (.int .i64 a0_5) := (blk_cell (blk_drew BK6.out) 5).trans rfl
  go_region_held3 (fun w' => w'.cell? ⟨g, 4, none⟩ = some (.int .i64 a0_4) ∧ w'.cell? ⟨g, 5, none⟩ = some (.int .i64 a0_5)) (go_keep) (first | (go_at_call 44; ((with_reducible refine (number_any a0_4 (w0 := w) (below_drew1 HB6.out) (Kd.R_drew HO6.out) HP5.out).mono ?_); rintro e wa ⟨va, rfl, hoa, hba, hka⟩; have BKa := Aside0.mk (hka g _ _ (by decide) (blk_drew BK6.out)); have HOa := Aside0.mk hoa; have HBa := Aside0.mk hba; clear hoa hba hka; rw [← HE5.out] at HOa; have ha0 : wa.cell? ⟨g, 4, none⟩ = some (.int .i64 a0_4) := (blk_cell BKa.out 4).trans rfl; have ha1 : wa.cell? ⟨g, 5, none⟩ = some (.int .i64 a0_5) := (blk_cell BKa.out 5).trans rfl)) | (go_at_call 44; ((with_reducible refine (number_any a0_5 (w0 := w) HBa.out HOa.out HP6.out).mono ?_); rintro e wb ⟨vb, rfl, hob, hbb, hkb⟩; have BKb := Aside0.mk (hkb g _ _ (by decide) BKa.out); have HOb := Aside0.mk hob; have HBb := Aside0.mk hbb; clear hob hbb hkb; rw [← HE6.out] at HOb; have hb0 : wb.cell? ⟨g, 4, none⟩ = some (.int .i64 a0_4) := (blk_cell BKb.out 4).trans rfl; have hb1 : wb.cell? ⟨g, 5, none⟩ = some (.int .i64 a0_5) := (blk_cell BKb.out 5).trans rfl)))
  clear BKa HOa HBa hq0 hq1 ha0 ha1 hb0 hb1
  have BK8 := BKb
  have HO8 := HOb
  have HB8 := HBb
  clear BKb HOb HBb
  go_wp2_with fail
  refine (cpieces_any g _).mono ?_
  rintro e w9 ⟨rfl, hb9⟩
  have HO9 := Aside0.mk (Kd.R_below HO8.out hb9)
  have BK9 := Aside0.mk (blk_below BK8.out hb9)
  have HB9 := Aside0.mk (below_step HB8.out hb9)
  clear hb9
  go_wp2_with fail
  go_loopw [3, 34] (fun v i wr => ∃ k : Nat, k ≤ 4 ∧ i = .int .i64 k ∧ Aside0 (Kd.R (Kd.int .u8) 5 wr w.heap.size (fun _ => True) v (pTo b6 (four l0_6 l0_7 l0_8 l0_9) k)) ∧ Aside0 (Below w.heap.size w wr) ∧ Aside0 (wr.heap[g]? = some (Obj.cells #[.slice A0_0 l0_0.length c0_0, .slice A0_1 l0_1.length c0_1, .slice A0_2 l0_2.length c0_2, .slice A0_3 l0_3.length c0_3, .int .i64 a0_4, .int .i64 a0_5, .slice A0_6 l0_6.length c0_6, .slice A0_7 l0_7.length c0_7, .slice A0_8 l0_8.length c0_8, .slice A0_9 l0_9.length c0_9] 28 (0, 0)))) (fun _ i _ => 4 - (intOf i).toNat)
  case atStart => exact ⟨0, by omega, rfl, HO9, HB9, BK9⟩
  case round =>
    obtain ⟨k, hk, rfl, HOr, HBr, BKr⟩ := hrel
    by_cases hlt : k < 4
    · obtain ⟨Ak, ck, lk, hcell, hC, hcl, hpk⟩ : ∃ (Ak : Option Addr) (ck : Nat) (lk : List S47), (∀ W : World, W.heap[g]? = some (Obj.cells #[.slice A0_0 l0_0.length c0_0, .slice A0_1 l0_1.length c0_1, .slice A0_2 l0_2.length c0_2, .slice A0_3 l0_3.length c0_3, .int .i64 a0_4, .int .i64 a0_5, .slice A0_6 l0_6.length c0_6, .slice A0_7 l0_7.length c0_7, .slice A0_8 l0_8.length c0_8, .slice A0_9 l0_9.length c0_9] 28 (0, 0)) → W.cell? ⟨g, 6 + k, none⟩ = some (.slice Ak lk.length ck)) ∧ Kd.C k47 w Ak lk.length lk ∧ lk.length ≤ ck ∧ four l0_6 l0_7 l0_8 l0_9 k = lk := by
        rcases (by omega : k = 0 ∨ k = 1 ∨ k = 2 ∨ k = 3) with rfl | rfl | rfl | rfl
        · exact ⟨A0_6, c0_6, l0_6, fun W h => (blk_cell h 6).trans rfl, HR6.out, HC6.out, rfl⟩
        · exact ⟨A0_7, c0_7, l0_7, fun W h => (blk_cell h 7).trans rfl, HR7.out, HC7.out, rfl⟩
        · exact ⟨A0_8, c0_8, l0_8, fun W h => (blk_cell h 8).trans rfl, HR8.out, HC8.out, rfl⟩
        · exact ⟨A0_9, c0_9, l0_9, fun W h => (blk_cell h 9).trans rfl, HR9.out, HC9.out, rfl⟩
      have hix : ∀ W : World, (Instr.index 58 (.agg #[.pointer (some ⟨g, 6, none⟩), .pointer (some ⟨g, 7, none⟩), .pointer (some ⟨g, 8, none⟩), .pointer (some ⟨g, 9, none⟩)]) (.int .i64 (k : Int))).run Try.prog W = .ok (.pointer (some ⟨g, 6 + k, none⟩)) W := by
        intro W
        rcases (by omega : k = 0 ∨ k = 1 ∨ k = 2 ∨ k = 3) with rfl | rfl | rfl | rfl <;> kernel_rfl
      have hle : (pTo b6 (four l0_6 l0_7 l0_8 l0_9) k ++ pieceB lk).length + 100 < 140737488355328 := by
        have h1 := HN.out
        have h2 : (pTo b6 (four l0_6 l0_7 l0_8 l0_9) k ++ pieceB lk).length ≤ (pTo b6 (four l0_6 l0_7 l0_8 l0_9) 4).length := by
          rw [← hpk]
          rcases (by omega : k = 0 ∨ k = 1 ∨ k = 2 ∨ k = 3) with rfl | rfl | rfl | rfl <;> simp only [pTo, List.length_append] <;> omega
        omega
      obtain ⟨bk, hbk⟩ : ∃ bk, bk = pTo b6 (four l0_6 l0_7 l0_8 l0_9) k := ⟨_, rfl⟩
      rw [← hbk] at HOr hle
      have HBK := Aside0.mk hbk
      have HPK := Aside0.mk hpk
      have HCK := Aside0.mk hC
      have HCL := Aside0.mk hcl
      have hmax : lk.length ≤ 9223372036854775806 := by
        have := pieceB_ge lk
        rw [List.length_append] at hle
        omega
      have HPl := Aside0.mk (show bk.length + 10 < 140737488355328 by rw [List.length_append] at hle; omega)
      have HLE := Aside0.mk hle
      have HCE := Aside0.mk hcell
      clear hbk hpk hC hcl hle hcell
      have hc0 := HCE.out _ BKr.out
      go_wp2_with (go_at_call 44; (with_reducible refine (number_any (w0 := w) _ HBr.out HOr.out HPl.out).mono ?_); rintro e wa ⟨va, rfl, hoa, hba, hka⟩; have BKa := Aside0.mk (hka g _ _ (by decide) BKr.out); have HOa := Aside0.mk hoa; have HBa := Aside0.mk hba; have hca := HCE.out _ BKa.out; clear hoa hba hka)
      clear hc0 hca
      go_loopw [3, 47] (fun v i wr => ∃ j : Nat, j ≤ lk.length ∧ i = .int .i64 j ∧ Aside0 (Kd.R (Kd.int .u8) 5 wr w.heap.size (fun _ => True) v (iTo bk lk j)) ∧ Aside0 (Below w.heap.size w wr) ∧ Aside0 (wr.heap[g]? = some (Obj.cells #[.slice A0_0 l0_0.length c0_0, .slice A0_1 l0_1.length c0_1, .slice A0_2 l0_2.length c0_2, .slice A0_3 l0_3.length c0_3, .int .i64 a0_4, .int .i64 a0_5, .slice A0_6 l0_6.length c0_6, .slice A0_7 l0_7.length c0_7, .slice A0_8 l0_8.length c0_8, .slice A0_9 l0_9.length c0_9] 28 (0, 0)))) (fun _ i _ => lk.length - (intOf i).toNat)
      case atStart => exact ⟨0, by omega, rfl, HOa, HBa, BKa⟩
      case round =>
        clear HOr HBr BKr HOa HBa BKa
        obtain ⟨j, hj, rfl, HOq, HBq, BKq⟩ := hrel
        by_cases hjl : j < lk.length
        · obtain ⟨ad, eA, h0, h1, h2, h3, h4, h5⟩ := at_T47 (Kd.C_below HCK.out HBq.out) (j : Int) (by omega) (by omega)
          cases eA
          obtain ⟨x, hx⟩ : ∃ x, x = rd_T47 lk (j : Int) := ⟨_, rfl⟩
          rw [← hx] at h0 h1 h2 h3 h4 h5
          simp only [Int.toNat_natCast] at h0 h1 h2 h3 h4 h5
          obtain ⟨q, hq⟩ : ∃ q, q = iTo bk lk j := ⟨_, rfl⟩
          have hql : (q ++ insB x).length ≤ (bk ++ pieceB lk).length := by
            have := iTo_le bk lk (j + 1) (by omega)
            rw [iTo, ← hx, ← hq] at this
            exact this
          have hle := HLE.out
          simp only [insB, List.length_append] at hql hle
          have p0 : q.length + 10 < 140737488355328 := by omega
          have p1 : (q ++ numB x.f0).length + 10 < 140737488355328 := by simp only [List.length_append]; omega
          have p2 : (q ++ numB x.f0 ++ numB x.f1).length + 10 < 140737488355328 := by simp only [List.length_append]; omega
          have p3 : (q ++ numB x.f0 ++ numB x.f1 ++ numB x.f2).length + 10 < 140737488355328 := by simp only [List.length_append]; omega
          have p4 : (q ++ numB x.f0 ++ numB x.f1 ++ numB x.f2 ++ numB x.f3).length + 10 < 140737488355328 := by simp only [List.length_append]; omega
          have p5 : (q ++ numB x.f0 ++ numB x.f1 ++ numB x.f2 ++ numB x.f3 ++ numB x.f4).length + 10 < 140737488355328 := by simp only [List.length_append]; omega
          have HJ := Aside0.mk (show q ++ numB x.f0 ++ numB x.f1 ++ numB x.f2 ++ numB x.f3 ++ numB x.f4 ++ numB x.f5 = iTo bk lk (j + 1) by rw [iTo, ← hx, ← hq, insB]; simp only [List.append_assoc])
          rw [← hq] at HOq
          clear hql hle hx hq
          go_wp2_with fail
          have ho0 := Kd.R_drew (Kd.R_alloc HOq.out (Obj.cells #[.int .i64 x.f0, .int .i64 x.f1, .int .i64 x.f2, .int .i64 x.f3, .int .i64 x.f4, .int .i64 x.f5] 47))
          have hb0 := below_drew1 (below_alloc HBq.out (Obj.cells #[.int .i64 x.f0, .int .i64 x.f1, .int .i64 x.f2, .int .i64 x.f3, .int .i64 x.f4, .int .i64 x.f5] 47))
          have BX := Aside0.mk (blk_drew (blk_fresh wr (Obj.cells #[.int .i64 x.f0, .int .i64 x.f1, .int .i64 x.f2, .int .i64 x.f3, .int .i64 x.f4, .int .i64 x.f5] 47)))
          have BKq := Aside0.mk (blk_drew (blk_alloc BKq.out (Obj.cells #[.int .i64 x.f0, .int .i64 x.f1, .int .i64 x.f2, .int .i64 x.f3, .int .i64 x.f4, .int .i64 x.f5] 47)))
          have hz0 : (wr.alloc (Obj.cells #[.int .i64 x.f0, .int .i64 x.f1, .int .i64 x.f2, .int .i64 x.f3, .int .i64 x.f4, .int .i64 x.f5] 47)).drew.cell? ⟨wr.heap.size, 0, none⟩ = some (.int .i64 x.f0) := (blk_cell BX.out 0).trans rfl
          have hz1 : (wr.alloc (Obj.cells #[.int .i64 x.f0, .int .i64 x.f1, .int .i64 x.f2, .int .i64 x.f3, .int .i64 x.f4, .int .i64 x.f5] 47)).drew.cell? ⟨wr.heap.size, 1, none⟩ = some (.int .i64 x.f1) := (blk_cell BX.out 1).trans rfl
          have hz2 : (wr.alloc (Obj.cells #[.int .i64 x.f0, .int .i64 x.f1, .int .i64 x.f2, .int .i64 x.f3, .int .i64 x.f4, .int .i64 x.f5] 47)).drew.cell? ⟨wr.heap.size, 2, none⟩ = some (.int .i64 x.f2) := (blk_cell BX.out 2).trans rfl
          have hz3 : (wr.alloc (Obj.cells #[.int .i64 x.f0, .int .i64 x.f1, .int .i64 x.f2, .int .i64 x.f3, .int .i64 x.f4, .int .i64 x.f5] 47)).drew.cell? ⟨wr.heap.size, 3, none⟩ = some (.int .i64 x.f3) := (blk_cell BX.out 3).trans rfl
          have hz4 : (wr.alloc (Obj.cells #[.int .i64 x.f0, .int .i64 x.f1, .int .i64 x.f2, .int .i64 x.f3, .int .i64 x.f4, .int .i64 x.f5] 47)).drew.cell? ⟨wr.heap.size, 4, none⟩ = some (.int .i64 x.f4) := (blk_cell BX.out 4).trans rfl
          have hz5 : (wr.alloc (Obj.cells #[.int .i64 x.f0, .int .i64 x.f1, .int .i64 x.f2, .int .i64 x.f3, .int .i64 x.f4, .int .i64 x.f5] 47)).drew.cell? ⟨wr.heap.size, 5, none⟩ = some (.int .i64 x.f5) := (blk_cell BX.out 5).trans rfl
          go_region_held3 (fun w' => w'.cell? ⟨wr.heap.size, 0, none⟩ = some (.int .i64 x.f0) ∧ w'.cell? ⟨wr.heap.size, 1, none⟩ = some (.int .i64 x.f1) ∧ w'.cell? ⟨wr.heap.size, 2, none⟩ = some (.int .i64 x.f2) ∧ w'.cell? ⟨wr.heap.size, 3, none⟩ = some (.int .i64 x.f3) ∧ w'.cell? ⟨wr.heap.size, 4, none⟩ = some (.int .i64 x.f4) ∧ w'.cell? ⟨wr.heap.size, 5, none⟩ = some (.int .i64 x.f5)) (go_keep) (first | (go_at_call 44; ((with_reducible refine (number_any (w0 := w) (l0 := q) x.f0 hb0 ho0 p0).mono ?_); rintro e wa ⟨va, rfl, hoa, hba, hka⟩; have BX := Aside0.mk (hka _ _ _ (by decide) BX.out); have BKq := Aside0.mk (hka g _ _ (by decide) BKq.out); clear hka; have ha0 : wa.cell? ⟨wr.heap.size, 0, none⟩ = some (.int .i64 x.f0) := (blk_cell BX.out 0).trans rfl; have ha1 : wa.cell? ⟨wr.heap.size, 1, none⟩ = some (.int .i64 x.f1) := (blk_cell BX.out 1).trans rfl; have ha2 : wa.cell? ⟨wr.heap.size, 2, none⟩ = some (.int .i64 x.f2) := (blk_cell BX.out 2).trans rfl; have ha3 : wa.cell? ⟨wr.heap.size, 3, none⟩ = some (.int .i64 x.f3) := (blk_cell BX.out 3).trans rfl; have ha4 : wa.cell? ⟨wr.heap.size, 4, none⟩ = some (.int .i64 x.f4) := (blk_cell BX.out 4).trans rfl; have ha5 : wa.cell? ⟨wr.heap.size, 5, none⟩ = some (.int .i64 x.f5) := (blk_cell BX.out 5).trans rfl)) | (go_at_call 44; ((with_reducible refine (number_any (w0 := w) (l0 := q ++ numB x.f0) x.f1 hba hoa p1).mono ?_); rintro e wa ⟨va, rfl, hoa, hba, hka⟩; have BX := Aside0.mk (hka _ _ _ (by decide) BX.out); have BKq := Aside0.mk (hka g _ _ (by decide) BKq.out); clear hka; have ha0 : wa.cell? ⟨wr.heap.size, 0, none⟩ = some (.int .i64 x.f0) := (blk_cell BX.out 0).trans rfl; have ha1 : wa.cell? ⟨wr.heap.size, 1, none⟩ = some (.int .i64 x.f1) := (blk_cell BX.out 1).trans rfl; have ha2 : wa.cell? ⟨wr.heap.size, 2, none⟩ = some (.int .i64 x.f2) := (blk_cell BX.out 2).trans rfl; have ha3 : wa.cell? ⟨wr.heap.size, 3, none⟩ = some (.int .i64 x.f3) := (blk_cell BX.out 3).trans rfl; have ha4 : wa.cell? ⟨wr.heap.size, 4, none⟩ = some (.int .i64 x.f4) := (blk_cell BX.out 4).trans rfl; have ha5 : wa.cell? ⟨wr.heap.size, 5, none⟩ = some (.int .i64 x.f5) := (blk_cell BX.out 5).trans rfl)) | (go_at_call 44; ((with_reducible refine (number_any (w0 := w) (l0 := q ++ numB x.f0 ++ numB x.f1) x.f2 hba hoa p2).mono ?_); rintro e wa ⟨va, rfl, hoa, hba, hka⟩; have BX := Aside0.mk (hka _ _ _ (by decide) BX.out); have BKq := Aside0.mk (hka g _ _ (by decide) BKq.out); clear hka; have ha0 : wa.cell? ⟨wr.heap.size, 0, none⟩ = some (.int .i64 x.f0) := (blk_cell BX.out 0).trans rfl; have ha1 : wa.cell? ⟨wr.heap.size, 1, none⟩ = some (.int .i64 x.f1) := (blk_cell BX.out 1).trans rfl; have ha2 : wa.cell? ⟨wr.heap.size, 2, none⟩ = some (.int .i64 x.f2) := (blk_cell BX.out 2).trans rfl; have ha3 : wa.cell? ⟨wr.heap.size, 3, none⟩ = some (.int .i64 x.f3) := (blk_cell BX.out 3).trans rfl; have ha4 : wa.cell? ⟨wr.heap.size, 4, none⟩ = some (.int .i64 x.f4) := (blk_cell BX.out 4).trans rfl; have ha5 : wa.cell? ⟨wr.heap.size, 5, none⟩ = some (.int .i64 x.f5) := (blk_cell BX.out 5).trans rfl)) | (go_at_call 44; ((with_reducible refine (number_any (w0 := w) (l0 := q ++ numB x.f0 ++ numB x.f1 ++ numB x.f2) x.f3 hba hoa p3).mono ?_); rintro e wa ⟨va, rfl, hoa, hba, hka⟩; have BX := Aside0.mk (hka _ _ _ (by decide) BX.out); have BKq := Aside0.mk (hka g _ _ (by decide) BKq.out); clear hka; have ha0 : wa.cell? ⟨wr.heap.size, 0, none⟩ = some (.int .i64 x.f0) := (blk_cell BX.out 0).trans rfl; have ha1 : wa.cell? ⟨wr.heap.size, 1, none⟩ = some (.int .i64 x.f1) := (blk_cell BX.out 1).trans rfl; have ha2 : wa.cell? ⟨wr.heap.size, 2, none⟩ = some (.int .i64 x.f2) := (blk_cell BX.out 2).trans rfl; have ha3 : wa.cell? ⟨wr.heap.size, 3, none⟩ = some (.int .i64 x.f3) := (blk_cell BX.out 3).trans rfl; have ha4 : wa.cell? ⟨wr.heap.size, 4, none⟩ = some (.int .i64 x.f4) := (blk_cell BX.out 4).trans rfl; have ha5 : wa.cell? ⟨wr.heap.size, 5, none⟩ = some (.int .i64 x.f5) := (blk_cell BX.out 5).trans rfl)) | (go_at_call 44; ((with_reducible refine (number_any (w0 := w) (l0 := q ++ numB x.f0 ++ numB x.f1 ++ numB x.f2 ++ numB x.f3) x.f4 hba hoa p4).mono ?_); rintro e wa ⟨va, rfl, hoa, hba, hka⟩; have BX := Aside0.mk (hka _ _ _ (by decide) BX.out); have BKq := Aside0.mk (hka g _ _ (by decide) BKq.out); clear hka; have ha0 : wa.cell? ⟨wr.heap.size, 0, none⟩ = some (.int .i64 x.f0) := (blk_cell BX.out 0).trans rfl; have ha1 : wa.cell? ⟨wr.heap.size, 1, none⟩ = some (.int .i64 x.f1) := (blk_cell BX.out 1).trans rfl; have ha2 : wa.cell? ⟨wr.heap.size, 2, none⟩ = some (.int .i64 x.f2) := (blk_cell BX.out 2).trans rfl; have ha3 : wa.cell? ⟨wr.heap.size, 3, none⟩ = some (.int .i64 x.f3) := (blk_cell BX.out 3).trans rfl; have ha4 : wa.cell? ⟨wr.heap.size, 4, none⟩ = some (.int .i64 x.f4) := (blk_cell BX.out 4).trans rfl; have ha5 : wa.cell? ⟨wr.heap.size, 5, none⟩ = some (.int .i64 x.f5) := (blk_cell BX.out 5).trans rfl)) | (go_at_call 45; ((with_reducible refine (number64_any (w0 := w) (l0 := q ++ numB x.f0 ++ numB x.f1 ++ numB x.f2 ++ numB x.f3 ++ numB x.f4) x.f5 hba hoa p5).mono ?_); rintro e wa ⟨va, rfl, hoa, hba, hka⟩; have BX := Aside0.mk (hka _ _ _ (by decide) BX.out); have BKq := Aside0.mk (hka g _ _ (by decide) BKq.out); clear hka; have ha0 : wa.cell? ⟨wr.heap.size, 0, none⟩ = some (.int .i64 x.f0) := (blk_cell BX.out 0).trans rfl; have ha1 : wa.cell? ⟨wr.heap.size, 1, none⟩ = some (.int .i64 x.f1) := (blk_cell BX.out 1).trans rfl; have ha2 : wa.cell? ⟨wr.heap.size, 2, none⟩ = some (.int .i64 x.f2) := (blk_cell BX.out 2).trans rfl; have ha3 : wa.cell? ⟨wr.heap.size, 3, none⟩ = some (.int .i64 x.f3) := (blk_cell BX.out 3).trans rfl; have ha4 : wa.cell? ⟨wr.heap.size, 4, none⟩ = some (.int .i64 x.f4) := (blk_cell BX.out 4).trans rfl; have ha5 : wa.cell? ⟨wr.heap.size, 5, none⟩ = some (.int .i64 x.f5) := (blk_cell BX.out 5).trans rfl)))
          rw [HJ.out] at hoa
          have HOn := Aside0.mk hoa
          have HBn := Aside0.mk hba
          clear hoa hba ho0 hb0 hz0 hz1 hz2 hz3 hz4 hz5
          clear ha0 ha1 ha2 ha3 ha4 ha5 BX p0 p1 p2 p3 p4 p5
          go_wp2_with fail
          go_roundw
          case rel => exact ⟨j + 1, by omega, by go_num, HOn, HBn, BKq⟩
          case measure => simp [intOf]; omega
        · obtain rfl : j = lk.length := by omega
          have HOe := HOq.out
          rw [iTo_all, HBK.out, ← HPK.out] at HOe
          have HOn := Aside0.mk HOe
          clear HOe
          go_wp2_with fail
          refine ⟨⟨k + 1, by omega, by go_num, HOn, HBq, BKq⟩, ?_⟩
          simp [intOf]
          omega
    · obtain rfl : k = 4 := by omega
      obtain ⟨B, hB4⟩ : ∃ B, B = pTo b6 (four l0_6 l0_7 l0_8 l0_9) 4 := ⟨_, rfl⟩
      have HEB := Aside0.mk (show bytesB l0_0 l0_1 l0_2 l0_3 a0_4 a0_5 l0_6 l0_7 l0_8 l0_9 = tB B (sumB B) 4 by rw [HE.out, ← hB4, tB_all])
      have HNB := Aside0.mk (show B.length + 100 < 140737488355328 by rw [hB4]; exact HN.out)
      rw [← hB4] at HOr
      clear hB4
      go_wp2_with (go_at_call 46; (with_reducible refine (sum_any HOr.out HNB.out).mono ?_); rintro e wa ⟨rfl, ⟨nd, rfl⟩⟩)
      have HOs := Aside0.mk (Kd.R_drewN HOr.out nd)
      have HBs := Aside0.mk (pw_below_drewN HBr.out nd)
      clear HOr HBr BKr
      go_loopw [3, 8, 9] (fun v s i wr => ∃ k : Nat, k ≤ 4 ∧ i = .int .i64 k ∧ s = .int .u32 (tS (sumB B) k) ∧ Aside0 (Kd.R (Kd.int .u8) 5 wr w.heap.size (fun _ => True) v (tB B (sumB B) k)) ∧ Aside0 (Below w.heap.size w wr)) (fun _ _ i _ => 4 - (intOf i).toNat)
      case atStart => exact ⟨0, by omega, rfl, rfl, HOs, HBs⟩
      case round =>
        clear HOs HBs
        obtain ⟨k, hk4, rfl, rfl, HOr, HBr⟩ := hrel
        by_cases hk3 : k < 4
        · obtain ⟨sk, hsk⟩ : ∃ sk, sk = tS (sumB B) k := ⟨_, rfl⟩
          obtain ⟨bk, hbk⟩ : ∃ bk, bk = tB B (sumB B) k := ⟨_, rfl⟩
          have HLk := Aside0.mk (show (bk.length + 1) * 1 ≤ 140737488355328 by rw [hbk, tB_length]; have := HNB.out; omega)
          have HSk := Aside0.mk (show sk / 256 = tS (sumB B) (k + 1) by rw [hsk]; rfl)
          have HTk := Aside0.mk (show bk ++ [sk % 256] = tB B (sumB B) (k + 1) by rw [hsk, hbk]; rfl)
          rw [← hbk] at HOr
          rw [← hsk]
          clear hsk hbk
          go_wp2_with (first | ((with_reducible refine gate_builtin (b := .append) (xs := #[.tmp 78, .tmp 81]) rfl ?_); at_builtin; refine Kd.R_append (Kd.int .u8) (w0 := w) w.heap.size rfl (.tmp 78) (.tmp 81) 22 5 (.int .u8 0) 1 rfl Try.underlying22 info5 rfl (by decide) (by omega) _ bk (sk % 256) [.int .u8 (sk % 256)] (fun _ => True) (fun _ => False) rfl rfl ?aP (fun _ hk => hk.elim) ?aF ?aO ?aB ?aS ?aL ?_; (case aP => exact rfl); (case aB => exact HBr.out); (case aF => exact fun _ _ => trivial); (case aO => exact HOr.out); (case aS => exact HBr.out.size); (case aL => exact HLk.out); intro v5 w5 ho hb hg hat; rw [HTk.out] at ho; have HOn := Aside0.mk ho; have HBn := Aside0.mk hb; clear ho hb hg hat))
          go_roundw
          case rel => exact ⟨k + 1, by omega, by go_num, by rw [HSk.out], HOn, HBn⟩
          case measure => simp [intOf]; omega
        · obtain rfl : k = 4 := by omega
          go_wp2_with fail
          go_ret
          exact ⟨_, rfl, by rw [HEB.out]; exact HOr.out, HBr.out⟩
#print axioms code_Bytes.calls
end Go.Proofs.Ytccolpkjgjjipaa.K
