/- The Go functions code.read[int], code.read[int64], code.read[api.Ins]. -/
import Derived.Test.YtccolpkjgjjipaaCRead
namespace Go.Proofs.Ytccolpkjgjjipaa.K
open Go.RowKit Go.Proofs.YtccolpkjgjjipaaW.PrintWords Go.Proofs.YtccolpkjgjjipaaW.PrintLast Go.Proofs.YtccolpkjgjjipaaW.PrintMore
set_option linter.unusedVariables false
set_option linter.unusedSimpArgs false
theorem infoE2 : (Try.prog.info? 2).map (fun i => (i.zero, i.size, i.bytes)) = some (some (.int .i64 0), 1, 8) := by kernel_rfl
theorem infoE3 : (Try.prog.info? 3).map (fun i => (i.zero, i.size, i.bytes)) = some (some (.int .i64 0), 1, 8) := by kernel_rfl
theorem infoE47 : (Try.prog.info? 47).map (fun i => (i.zero, i.size, i.bytes)) = some (some (.agg #[(.int .i64 0), (.int .i64 0), (.int .i64 0), (.int .i64 0), (.int .i64 0), (.int .i64 0)]), 6, 48) := by kernel_rfl

set_option maxHeartbeats 4000000 in
set_option maxRecDepth 100000 in
theorem read_int_rd (g6 gr : Nat) (bad : Bool) (w0 wB w : World) (bs : List Int) (hB : Below w0.heap.size w0 w) (hg : w0.heap.size ≤ gr) (h6 : w.heap[g6]? = some (.cells #[.pointer (some ⟨gr, 0, none⟩)] 50 (0, 0))) (hr : Rdr wB w gr bs bad) (hBs : wB.heap.size ≤ w.heap.size) (hl : bs.length ≤ 1000000000) :
    Calls Try.prog 31 #[.pointer (some ⟨gr, 0, none⟩), fSmall g6] w fun e w' => ∃ v, e = .returned v ∧ Kd.R (Kd.int .i64) 3 w' w0.heap.size (fun k => w.heap.size ≤ k) v (readF oneF bs bad).1 ∧ Rdr wB w' gr (readF oneF bs bad).2.1 (readF oneF bs bad).2.2 ∧ Below w0.heap.size w0 w' ∧ Kept w w' (only gr) := by
  have HM := Aside0.mk (many_rd gr bad w0 wB w bs hB hg hr)
  obtain ⟨R, hR⟩ : ∃ R, readF oneF bs bad = R := ⟨_, rfl⟩
  rw [hR]
  obtain ⟨m, hm⟩ : ∃ m, manyF bs bad = m := ⟨_, rfl⟩
  have hrange := manyF_range bs bad
  have HM := HM.out
  unfold readF at hR
  rw [hm] at HM hR hrange
  obtain ⟨N, hN⟩ : ∃ N : Nat, m.1 = (N : Int) := ⟨m.1.toNat, by omega⟩
  rw [hN] at HM hR hrange
  rw [Int.toNat_natCast] at hR
  have hNl : N ≤ 1000000000 := by omega
  have HM := Aside0.mk HM
  have HF := Aside0.mk (show ([] : List _) ++ (readGo oneF (N - 0) m.2.1 m.2.2).1 = R.1 ∧ (readGo oneF (N - 0) m.2.1 m.2.2).2 = R.2 by rw [Nat.sub_zero, hR]; exact ⟨rfl, rfl⟩)
  have lr : gr < w.heap.size := by obtain ⟨A, c, h, _⟩ := hr.out; exact blk_lt h
  have n6 := rd_ne h6 (by decide) hr
  have K6 := Aside0.mk h6
  clear h6
  clear hm hN hR hrange hr
  have hle : w0.heap.size ≤ w.heap.size := hB.size
  clear hB
  go_enter Try.func31, Try.ntmps31
  go_wp2_with (go_at_call 64; refine HM.out.mono ?_; rintro e w1 ⟨rfl, hR1, hB1, hk1⟩; have HR1 := Aside0.mk hR1; have HB1 := Aside0.mk hB1; have HK1 := Aside0.mk hk1; clear hR1 hB1 hk1)
  go_loopw [5, 8] (fun v i wr => ∃ (j : Nat) (bs' : List Int) (bad' : Bool) (xs : List _), j ≤ N ∧ i = .int .i64 j ∧ xs.length ≤ j ∧ Aside0 (Kd.R (Kd.int .i64) 3 wr w0.heap.size (fun k => w.heap.size ≤ k) v xs) ∧ Aside0 (Rdr wB wr gr bs' bad') ∧ Aside0 (xs ++ (readGo oneF (N - j) bs' bad').1 = R.1 ∧ (readGo oneF (N - j) bs' bad').2 = R.2) ∧ Aside0 (Below w0.heap.size w0 wr) ∧ Aside0 (Kept w wr (only gr))) (fun _ i _ => N - (intOf i).toNat)
  case atStart => exact ⟨0, m.2.1, m.2.2, [], by omega, rfl, by simp, ⟨Kd.R_nil _ _ _ _ _⟩, HR1, HF, HB1, HK1⟩
  case round =>
    clear HF HM HR1 HB1 HK1
    obtain ⟨j, bs', bad', xs, hj, rfl, hxl, HO, HR, HF, HB, HK⟩ := hrel
    obtain ⟨A', c', hr1, hr2, hr3⟩ := HR.out.out
    have hc1 := (blk_cell hr1 1).trans rfl
    clear hr1 hr2 hr3
    by_cases hjN : j < N
    · have hF := HF.out
      rw [show N - j = (N - j - 1) + 1 by omega, readGo] at hF
      cases bad' with
      | true =>
        rw [if_pos rfl, List.append_nil] at hF
        have HE := Aside0.mk hF
        clear hF HF
        go_wp2_with fail
        go_ret
        exact ⟨_, rfl, by rw [← HE.out.1]; exact HO.out, by rw [← HE.out.2]; exact HR.out, HB.out, HK.out⟩
      | false =>
        rw [if_neg Bool.false_ne_true] at hF
        obtain ⟨o, ho⟩ : ∃ o, oneF bs' false = o := ⟨_, rfl⟩
        have HC := small_rd g6 gr false w0 wB wr bs' HB.out hg (blk_kept K6.out HK.out n6) HR.out
        rw [ho] at hF HC
        obtain ⟨x, b2, q2⟩ := o
        dsimp only at hF HC
        have HCc := Aside0.mk HC
        have HF2 := Aside0.mk (show (xs ++ [x]) ++ (readGo oneF (N - (j + 1)) b2 q2).1 = R.1 ∧ (readGo oneF (N - (j + 1)) b2 q2).2 = R.2 by rw [show N - (j + 1) = N - j - 1 by omega, List.append_assoc]; exact hF)
        have HL := Aside0.mk (show (xs.length + 1) * 8 ≤ 140737488355328 by omega)
        clear hF HC ho HF
        go_wp2_with (first | (go_at_call 29; refine HCc.out.mono ?_; rintro e wa ⟨rfl, hRa, hBa, hka⟩; have HRa := Aside0.mk hRa; have HBa := Aside0.mk hBa; have HKa := Aside0.mk (HK.out.then_ hka (fun _ e => .inl e)); have HOa := Aside0.mk (Kd.R_kept HO.out hka (fun k hk e => by have e' : k = gr := e; omega)); clear hRa hBa hka) | ((with_reducible refine gate_builtin (b := .append) (xs := #[.tmp 14, .tmp 17]) rfl ?_); at_builtin; refine Kd.R_append (Kd.int .i64) (w0 := w0) w0.heap.size rfl (.tmp 14) (.tmp 17) 24 3 (.int .i64 0) 8 rfl Try.underlying24 infoE3 rfl (by decide) (by omega) _ xs x [.int .i64 x] (fun k => w.heap.size ≤ k) (fun _ => False) rfl rfl ?aP (fun _ hk => hk.elim) ?aF ?aO ?aB ?aS ?aL ?_; (case aP => exact rfl); (case aB => exact HBa.out); (case aF => exact fun k hk => Nat.le_trans HKa.out.1 hk); (case aO => exact HOa.out); (case aS => exact HBa.out.size); (case aL => exact HL.out); intro v5 w5 ho5 hb5 hg5 hat5; have HOn := Aside0.mk ho5; have HBn := Aside0.mk hb5; have HKn := Aside0.mk (Kept.of_grown hg5 HKa.out (fun k e => .inr (HOa.out.1 k e))); have HRn := Aside0.mk (HRa.out.step (Kept.of_grown hg5 (Kept.refl _ _) (fun k e => .inl e)) (fun k (e : _ = some k) => Nat.le_trans hBs (HOa.out.1 k e)) (fun (e : _ = some gr) => absurd (HOa.out.1 gr e) (by omega))); clear ho5 hb5 hg5 hat5))
        go_roundw
        case rel => exact ⟨j + 1, b2, q2, xs ++ [x], by omega, by go_num, by simp; omega, HOn, HRn, HF2, HBn, HKn⟩
        case measure => simp [intOf]; omega
    · obtain rfl : j = N := by omega
      have hF := HF.out
      rw [Nat.sub_self, readGo, List.append_nil] at hF
      have HE := Aside0.mk hF
      clear hF HF
      go_wp2_with fail
      go_ret
      exact ⟨_, rfl, by rw [← HE.out.1]; exact HO.out, by rw [← HE.out.2]; exact HR.out, HB.out, HK.out⟩
#print axioms read_int_rd

set_option maxHeartbeats 4000000 in
set_option maxRecDepth 100000 in
theorem read_int64_rd (gr : Nat) (bad : Bool) (w0 wB w : World) (bs : List Int) (hB : Below w0.heap.size w0 w) (hg : w0.heap.size ≤ gr) (hr : Rdr wB w gr bs bad) (hBs : wB.heap.size ≤ w.heap.size) (hl : bs.length ≤ 1000000000) :
    Calls Try.prog 32 #[.pointer (some ⟨gr, 0, none⟩), .func (.func 30) #[.pointer (some ⟨gr, 0, none⟩)] #[]] w fun e w' => ∃ v, e = .returned v ∧ Kd.R (Kd.int .i64) 2 w' w0.heap.size (fun k => w.heap.size ≤ k) v (readF oneF bs bad).1 ∧ Rdr wB w' gr (readF oneF bs bad).2.1 (readF oneF bs bad).2.2 ∧ Below w0.heap.size w0 w' ∧ Kept w w' (only gr) := by
  have HM := Aside0.mk (many_rd gr bad w0 wB w bs hB hg hr)
  obtain ⟨R, hR⟩ : ∃ R, readF oneF bs bad = R := ⟨_, rfl⟩
  rw [hR]
  obtain ⟨m, hm⟩ : ∃ m, manyF bs bad = m := ⟨_, rfl⟩
  have hrange := manyF_range bs bad
  have HM := HM.out
  unfold readF at hR
  rw [hm] at HM hR hrange
  obtain ⟨N, hN⟩ : ∃ N : Nat, m.1 = (N : Int) := ⟨m.1.toNat, by omega⟩
  rw [hN] at HM hR hrange
  rw [Int.toNat_natCast] at hR
  have hNl : N ≤ 1000000000 := by omega
  have HM := Aside0.mk HM
  have HF := Aside0.mk (show ([] : List _) ++ (readGo oneF (N - 0) m.2.1 m.2.2).1 = R.1 ∧ (readGo oneF (N - 0) m.2.1 m.2.2).2 = R.2 by rw [Nat.sub_zero, hR]; exact ⟨rfl, rfl⟩)
  have lr : gr < w.heap.size := by obtain ⟨A, c, h, _⟩ := hr.out; exact blk_lt h
  skip
  clear hm hN hR hrange hr
  have hle : w0.heap.size ≤ w.heap.size := hB.size
  clear hB
  go_enter Try.func32, Try.ntmps32
  go_wp2_with (go_at_call 64; refine HM.out.mono ?_; rintro e w1 ⟨rfl, hR1, hB1, hk1⟩; have HR1 := Aside0.mk hR1; have HB1 := Aside0.mk hB1; have HK1 := Aside0.mk hk1; clear hR1 hB1 hk1)
  go_loopw [5, 8] (fun v i wr => ∃ (j : Nat) (bs' : List Int) (bad' : Bool) (xs : List _), j ≤ N ∧ i = .int .i64 j ∧ xs.length ≤ j ∧ Aside0 (Kd.R (Kd.int .i64) 2 wr w0.heap.size (fun k => w.heap.size ≤ k) v xs) ∧ Aside0 (Rdr wB wr gr bs' bad') ∧ Aside0 (xs ++ (readGo oneF (N - j) bs' bad').1 = R.1 ∧ (readGo oneF (N - j) bs' bad').2 = R.2) ∧ Aside0 (Below w0.heap.size w0 wr) ∧ Aside0 (Kept w wr (only gr))) (fun _ i _ => N - (intOf i).toNat)
  case atStart => exact ⟨0, m.2.1, m.2.2, [], by omega, rfl, by simp, ⟨Kd.R_nil _ _ _ _ _⟩, HR1, HF, HB1, HK1⟩
  case round =>
    clear HF HM HR1 HB1 HK1
    obtain ⟨j, bs', bad', xs, hj, rfl, hxl, HO, HR, HF, HB, HK⟩ := hrel
    obtain ⟨A', c', hr1, hr2, hr3⟩ := HR.out.out
    have hc1 := (blk_cell hr1 1).trans rfl
    clear hr1 hr2 hr3
    by_cases hjN : j < N
    · have hF := HF.out
      rw [show N - j = (N - j - 1) + 1 by omega, readGo] at hF
      cases bad' with
      | true =>
        rw [if_pos rfl, List.append_nil] at hF
        have HE := Aside0.mk hF
        clear hF HF
        go_wp2_with fail
        go_ret
        exact ⟨_, rfl, by rw [← HE.out.1]; exact HO.out, by rw [← HE.out.2]; exact HR.out, HB.out, HK.out⟩
      | false =>
        rw [if_neg Bool.false_ne_true] at hF
        obtain ⟨o, ho⟩ : ∃ o, oneF bs' false = o := ⟨_, rfl⟩
        have HC : Calls Try.prog 30 #[.pointer (some ⟨gr, 0, none⟩)] wr fun e w' => e = .returned (.int .i64 (oneF bs' false).1) ∧ Rdr wB w' gr (oneF bs' false).2.1 (oneF bs' false).2.2 ∧ Below w0.heap.size w0 w' ∧ Kept wr w' (only gr) := number_rd gr false w0 wB wr bs' HB.out hg HR.out
        rw [ho] at hF HC
        obtain ⟨x, b2, q2⟩ := o
        dsimp only at hF HC
        have HCc := Aside0.mk HC
        have HF2 := Aside0.mk (show (xs ++ [x]) ++ (readGo oneF (N - (j + 1)) b2 q2).1 = R.1 ∧ (readGo oneF (N - (j + 1)) b2 q2).2 = R.2 by rw [show N - (j + 1) = N - j - 1 by omega, List.append_assoc]; exact hF)
        have HL := Aside0.mk (show (xs.length + 1) * 8 ≤ 140737488355328 by omega)
        clear hF HC ho HF
        go_wp2_with (first | (go_at_call 30; refine HCc.out.mono ?_; rintro e wa ⟨rfl, hRa, hBa, hka⟩; have HRa := Aside0.mk hRa; have HBa := Aside0.mk hBa; have HKa := Aside0.mk (HK.out.then_ hka (fun _ e => .inl e)); have HOa := Aside0.mk (Kd.R_kept HO.out hka (fun k hk e => by have e' : k = gr := e; omega)); clear hRa hBa hka) | ((with_reducible refine gate_builtin (b := .append) (xs := #[.tmp 14, .tmp 17]) rfl ?_); at_builtin; refine Kd.R_append (Kd.int .i64) (w0 := w0) w0.heap.size rfl (.tmp 14) (.tmp 17) 25 2 (.int .i64 0) 8 rfl Try.underlying25 infoE2 rfl (by decide) (by omega) _ xs x [.int .i64 x] (fun k => w.heap.size ≤ k) (fun _ => False) rfl rfl ?aP (fun _ hk => hk.elim) ?aF ?aO ?aB ?aS ?aL ?_; (case aP => exact rfl); (case aB => exact HBa.out); (case aF => exact fun k hk => Nat.le_trans HKa.out.1 hk); (case aO => exact HOa.out); (case aS => exact HBa.out.size); (case aL => exact HL.out); intro v5 w5 ho5 hb5 hg5 hat5; have HOn := Aside0.mk ho5; have HBn := Aside0.mk hb5; have HKn := Aside0.mk (Kept.of_grown hg5 HKa.out (fun k e => .inr (HOa.out.1 k e))); have HRn := Aside0.mk (HRa.out.step (Kept.of_grown hg5 (Kept.refl _ _) (fun k e => .inl e)) (fun k (e : _ = some k) => Nat.le_trans hBs (HOa.out.1 k e)) (fun (e : _ = some gr) => absurd (HOa.out.1 gr e) (by omega))); clear ho5 hb5 hg5 hat5))
        go_roundw
        case rel => exact ⟨j + 1, b2, q2, xs ++ [x], by omega, by go_num, by simp; omega, HOn, HRn, HF2, HBn, HKn⟩
        case measure => simp [intOf]; omega
    · obtain rfl : j = N := by omega
      have hF := HF.out
      rw [Nat.sub_self, readGo, List.append_nil] at hF
      have HE := Aside0.mk hF
      clear hF HF
      go_wp2_with fail
      go_ret
      exact ⟨_, rfl, by rw [← HE.out.1]; exact HO.out, by rw [← HE.out.2]; exact HR.out, HB.out, HK.out⟩
#print axioms read_int64_rd

set_option maxHeartbeats 4000000 in
set_option maxRecDepth 100000 in
theorem read_ins_rd (g7 g6 gr : Nat) (bad : Bool) (w0 wB w : World) (bs : List Int) (hB : Below w0.heap.size w0 w) (hg : w0.heap.size ≤ gr) (h6 : w.heap[g6]? = some (.cells #[.pointer (some ⟨gr, 0, none⟩)] 50 (0, 0))) (h7 : w.heap[g7]? = some (.cells #[fSmall g6] 54 (0, 0))) (hr : Rdr wB w gr bs bad) (hBs : wB.heap.size ≤ w.heap.size) (hl : bs.length ≤ 1000000000) :
    Calls Try.prog 34 #[.pointer (some ⟨gr, 0, none⟩), .func (.func 35) #[] #[.pointer (some ⟨g7, 0, none⟩), .pointer (some ⟨g6, 0, none⟩)]] w fun e w' => ∃ v, e = .returned v ∧ Kd.R k47 47 w' w0.heap.size (fun k => w.heap.size ≤ k) v (readF insF bs bad).1 ∧ Rdr wB w' gr (readF insF bs bad).2.1 (readF insF bs bad).2.2 ∧ Below w0.heap.size w0 w' ∧ Kept w w' (only gr) := by
  have HM := Aside0.mk (many_rd gr bad w0 wB w bs hB hg hr)
  obtain ⟨R, hR⟩ : ∃ R, readF insF bs bad = R := ⟨_, rfl⟩
  rw [hR]
  obtain ⟨m, hm⟩ : ∃ m, manyF bs bad = m := ⟨_, rfl⟩
  have hrange := manyF_range bs bad
  have HM := HM.out
  unfold readF at hR
  rw [hm] at HM hR hrange
  obtain ⟨N, hN⟩ : ∃ N : Nat, m.1 = (N : Int) := ⟨m.1.toNat, by omega⟩
  rw [hN] at HM hR hrange
  rw [Int.toNat_natCast] at hR
  have hNl : N ≤ 1000000000 := by omega
  have HM := Aside0.mk HM
  have HF := Aside0.mk (show ([] : List _) ++ (readGo insF (N - 0) m.2.1 m.2.2).1 = R.1 ∧ (readGo insF (N - 0) m.2.1 m.2.2).2 = R.2 by rw [Nat.sub_zero, hR]; exact ⟨rfl, rfl⟩)
  have lr : gr < w.heap.size := by obtain ⟨A, c, h, _⟩ := hr.out; exact blk_lt h
  have n6 := rd_ne h6 (by decide) hr
  have K6 := Aside0.mk h6
  clear h6
  have n7 := rd_ne h7 (by decide) hr
  have K7 := Aside0.mk h7
  clear h7
  clear hm hN hR hrange hr
  have hle : w0.heap.size ≤ w.heap.size := hB.size
  clear hB
  go_enter Try.func34, Try.ntmps34
  go_wp2_with (go_at_call 64; refine HM.out.mono ?_; rintro e w1 ⟨rfl, hR1, hB1, hk1⟩; have HR1 := Aside0.mk hR1; have HB1 := Aside0.mk hB1; have HK1 := Aside0.mk hk1; clear hR1 hB1 hk1)
  go_loopw [5, 8] (fun v i wr => ∃ (j : Nat) (bs' : List Int) (bad' : Bool) (xs : List _), j ≤ N ∧ i = .int .i64 j ∧ xs.length ≤ j ∧ Aside0 (Kd.R k47 47 wr w0.heap.size (fun k => w.heap.size ≤ k) v xs) ∧ Aside0 (Rdr wB wr gr bs' bad') ∧ Aside0 (xs ++ (readGo insF (N - j) bs' bad').1 = R.1 ∧ (readGo insF (N - j) bs' bad').2 = R.2) ∧ Aside0 (Below w0.heap.size w0 wr) ∧ Aside0 (Kept w wr (only gr))) (fun _ i _ => N - (intOf i).toNat)
  case atStart => exact ⟨0, m.2.1, m.2.2, [], by omega, rfl, by simp, ⟨Kd.R_nil _ _ _ _ _⟩, HR1, HF, HB1, HK1⟩
  case round =>
    clear HF HM HR1 HB1 HK1
    obtain ⟨j, bs', bad', xs, hj, rfl, hxl, HO, HR, HF, HB, HK⟩ := hrel
    obtain ⟨A', c', hr1, hr2, hr3⟩ := HR.out.out
    have hc1 := (blk_cell hr1 1).trans rfl
    clear hr1 hr2 hr3
    by_cases hjN : j < N
    · have hF := HF.out
      rw [show N - j = (N - j - 1) + 1 by omega, readGo] at hF
      cases bad' with
      | true =>
        rw [if_pos rfl, List.append_nil] at hF
        have HE := Aside0.mk hF
        clear hF HF
        go_wp2_with fail
        go_ret
        exact ⟨_, rfl, by rw [← HE.out.1]; exact HO.out, by rw [← HE.out.2]; exact HR.out, HB.out, HK.out⟩
      | false =>
        rw [if_neg Bool.false_ne_true] at hF
        obtain ⟨o, ho⟩ : ∃ o, insF bs' false = o := ⟨_, rfl⟩
        have HC := ins_rd g7 g6 gr false w0 wB wr bs' HB.out hg (blk_kept K6.out HK.out n6) (blk_kept K7.out HK.out n7) HR.out (Nat.le_trans hBs HK.out.1)
        rw [ho] at hF HC
        obtain ⟨x, b2, q2⟩ := o
        dsimp only at hF HC
        have HCc := Aside0.mk HC
        have HF2 := Aside0.mk (show (xs ++ [x]) ++ (readGo insF (N - (j + 1)) b2 q2).1 = R.1 ∧ (readGo insF (N - (j + 1)) b2 q2).2 = R.2 by rw [show N - (j + 1) = N - j - 1 by omega, List.append_assoc]; exact hF)
        have HL := Aside0.mk (show (xs.length + 1) * 48 ≤ 140737488355328 by omega)
        clear hF HC ho HF
        go_wp2_with (first | (go_at_call 35; refine HCc.out.mono ?_; rintro e wa ⟨rfl, hRa, hBa, hka⟩; have HRa := Aside0.mk hRa; have HBa := Aside0.mk hBa; have HKa := Aside0.mk (HK.out.then_ hka (fun _ e => .inl e)); have HOa := Aside0.mk (Kd.R_kept HO.out hka (fun k hk e => by have e' : k = gr := e; omega)); clear hRa hBa hka) | ((with_reducible refine gate_builtin (b := .append) (xs := #[.tmp 14, .tmp 17]) rfl ?_); at_builtin; refine Kd.R_append k47 (w0 := w0) w0.heap.size rfl (.tmp 14) (.tmp 17) 26 47 (.agg #[(.int .i64 0), (.int .i64 0), (.int .i64 0), (.int .i64 0), (.int .i64 0), (.int .i64 0)]) 48 rfl Try.underlying26 infoE47 rfl (by decide) (by omega) _ xs x [.int .i64 x.f0, .int .i64 x.f1, .int .i64 x.f2, .int .i64 x.f3, .int .i64 x.f4, .int .i64 x.f5] (fun k => w.heap.size ≤ k) (fun _ => False) rfl rfl ?aP (fun _ hk => hk.elim) ?aF ?aO ?aB ?aS ?aL ?_; (case aP => exact k47_mkM _ _ _ x); (case aB => exact HBa.out); (case aF => exact fun k hk => Nat.le_trans HKa.out.1 hk); (case aO => exact HOa.out); (case aS => exact HBa.out.size); (case aL => exact HL.out); intro v5 w5 ho5 hb5 hg5 hat5; have HOn := Aside0.mk ho5; have HBn := Aside0.mk hb5; have HKn := Aside0.mk (Kept.of_grown hg5 HKa.out (fun k e => .inr (HOa.out.1 k e))); have HRn := Aside0.mk (HRa.out.step (Kept.of_grown hg5 (Kept.refl _ _) (fun k e => .inl e)) (fun k (e : _ = some k) => Nat.le_trans hBs (HOa.out.1 k e)) (fun (e : _ = some gr) => absurd (HOa.out.1 gr e) (by omega))); clear ho5 hb5 hg5 hat5))
        go_roundw
        case rel => exact ⟨j + 1, b2, q2, xs ++ [x], by omega, by go_num, by simp; omega, HOn, HRn, HF2, HBn, HKn⟩
        case measure => simp [intOf]; omega
    · obtain rfl : j = N := by omega
      have hF := HF.out
      rw [Nat.sub_self, readGo, List.append_nil] at hF
      have HE := Aside0.mk hF
      clear hF HF
      go_wp2_with fail
      go_ret
      exact ⟨_, rfl, by rw [← HE.out.1]; exact HO.out, by rw [← HE.out.2]; exact HR.out, HB.out, HK.out⟩
#print axioms read_ins_rd
end Go.Proofs.Ytccolpkjgjjipaa.K
