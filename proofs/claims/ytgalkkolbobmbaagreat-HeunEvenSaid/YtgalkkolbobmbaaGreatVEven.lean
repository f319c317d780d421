/- The law HeunEven: the walk. -/
import Derived.Test.YtgalkkolbobmbaaGreatVEvenP
import Derived.Test.YtgalkkolbobmbaaGreatHAlive
namespace Go.Proofs.YtgalkkolbobmbaaGreat.V
open Go.RowKit Go.Proofs.YtgalkkolbobmbaaGreatW.PrintWords Go.Proofs.YtgalkkolbobmbaaGreatW.PrintLast Go.Proofs.YtgalkkolbobmbaaGreatW.PrintMore
set_option linter.unusedVariables false
set_option linter.unusedSimpArgs false
def ev_T : Bool × List (List Nat × List Nat) := (true, [([], []), ([0], [0]), ([], []), ([], []), ([], []), ([3, 4], [3, 4]), ([5], [5]), ([2, 6], [2, 6]), ([], []), ([], []), ([8, 9], [8, 9]), ([7, 10], [7, 10]), ([1, 11], [1, 11]), ([0, 1, 2, 3, 4, 5, 6, 7, 8, 9, 10, 11, 12], []), ([13, 12, 12, 0, 1, 2, 3, 4, 5, 6, 7, 8, 9, 10, 11, 12], [12, 13])])
def ev_B : List Nat := [0, 1, 0, 0, 0, 24, 56, 124, 0, 0, 768, 2044, 4095, 8191, 16383]
theorem ev_tab : rtab .any (opsOf Tryz.f6 9) = ev_T := by kernel_rfl
theorem ev_bits : waitsOk ev_T.2 ev_B = true := by kernel_rfl

theorem reps_two (w : World) (base : Nat) (okp : Nat → Prop) (x y : S49) : Reps (k49.M w base okp) 6 [x, y] [.int .i64 x.f0, .int .i64 x.f1, .int .i64 x.f2, .int .i64 x.f3, .int .i64 x.f4, .int .i64 x.f5, .int .i64 y.f0, .int .i64 y.f1, .int .i64 y.f2, .int .i64 y.f3, .int .i64 y.f4, .int .i64 y.f5] := by
  refine ⟨rfl, fun j p hj => ?_⟩
  match j, hj with
  | 0, hj =>
    obtain rfl : x = p := by simpa using hj
    exact k49_mkM w base okp x
  | 1, hj =>
    obtain rfl : y = p := by simpa using hj
    exact k49_mkM w base okp y
  | n + 2, hj => simp at hj
theorem Nw.of_R' {e base : Nat} {w : World} {ok : Nat → Prop} {v : Value} {l : List Int} (h : (Kd.int .i64).R e w base ok v l) : ∃ A c, v = .slice A l.length c ∧ l.length ≤ c ∧ Nw base w A l := by
  obtain ⟨A, c, hv, hl, hC, hn⟩ := R_list (Kd.R_mono (Kd.R_bound h) (ok' := fun k => base ≤ k) (fun _ hk => hk.2.1))
  exact ⟨A, c, hv, hl, hC, hn⟩
theorem numbers_loop (l : List Int) (hl : l.length ≤ 140737488355328) : ∀ (d i : Nat), i + d = l.length → Ev (fun K => astrolaberef14_Numbers.l0 K l l (i : Int)) true
  | 0, i, hi => Ev.step (f := fun _ => some true) (fun k => by simp only [astrolaberef14_Numbers.l0]; rw [if_neg (by omega)]) (Ev.now _)
  | d + 1, i, hi => by
    refine Ev.step (fun k => ?_) (numbers_loop l hl d (i + 1) (by omega))
    have e : wrap64 ((i : Int) + 1) = ((i + 1 : Nat) : Int) := by rw [wrap_in (by omega) (by omega)]; omega
    simp only [astrolaberef14_Numbers.l0]
    rw [if_pos (by omega), if_pos (by omega), if_pos (by omega), if_pos trivial, e]
theorem numbers_ev (l : List Int) (hl : l.length ≤ 140737488355328) : Ev (fun K => astrolaberef14_Numbers.f K l l) true := by
  refine Ev.congr (fun K => ?_) (numbers_loop l hl l.length 0 (by omega))
  unfold astrolaberef14_Numbers.f
  rw [if_pos rfl]
  rfl
set_option maxHeartbeats 4000000 in
set_option maxRecDepth 100000 in
theorem heunEven_calls (A0 : Option Addr) (c0 : Nat) (st : List Int) (A1 : Option Addr) (c1 : Nat) (ks : List Int) (h : Int) (w : World) (hr0 : Kd.C (Kd.int .i64) w A0 st.length st) (hr1 : Kd.C (Kd.int .i64) w A1 ks.length ks) (hc0 : st.length ≤ c0)
    (hw0 : ∀ x ∈ st, (Lit.int .i64 x).wf = true) (hw1 : ∀ x ∈ ks, (Lit.int .i64 x).wf = true) (hw2 : (Lit.int .i64 h).wf = true) :
    Calls Tryz.prog 6 #[.slice A0 st.length c0, .slice A1 ks.length c1, .int .i64 h] w fun e w' => e = .returned (.bool true) ∧ Below w.heap.size w w' := by
  have HR0 := Aside0.mk hr0
  have HR1 := Aside0.mk hr1
  have HW0 := Aside0.mk hw0
  have HW1 := Aside0.mk hw1
  have HW2 := Aside0.mk hw2
  have HC0 := Aside0.mk hc0
  clear hr0 hr1 hw0 hw1 hw2 hc0
  by_cases g0 : 40 < st.length
  · have g0b : decide ((st.length : Int) > 40) = true := decide_eq_true (by omega)
    go_enter Tryz.func6, Tryz.ntmps6
    go_wp2_with (go_at_call 32; refine (Q.astrolabelaw19_alive.calls true _ rfl).mono ?_; rintro e w1 ⟨rfl, hb1⟩)
    go_ret
    exact ⟨rfl, hb1⟩
  by_cases g1 : st.length = ks.length
  · have HG1 := Aside0.mk g1
    have HG0 := Aside0.mk (show ks.length ≤ 40 by omega)
    have g0b : decide ((st.length : Int) > 40) = false := decide_eq_false (by omega)
    have g1b : ((st.length : Int) != (ks.length : Int)) = false := by simp [g1]
    have g1c : decide ((st.length : Int) = (ks.length : Int)) = true := decide_eq_true (by omega)
    clear g1
    go_enter Tryz.func6, Tryz.ntmps6
    go_wp2_with (go_at_call 32; refine (Q.astrolabelaw19_alive.calls true _ rfl).mono ?_; rintro e w1 ⟨rfl, hb1⟩; have HB1 := Aside0.mk hb1; clear hb1)
    obtain ⟨g, hg⟩ : ∃ z, w1.heap.size = z := ⟨_, rfl⟩
    obtain ⟨w2, hw2⟩ : ∃ z, (w1.alloc (Obj.cells #[.slice none 0 0, .slice none 0 0, .slice A0 st.length c0, .slice none 0 0, .int .i64 0, .int .i64 0, .slice none 0 0, .slice none 0 0, .slice none 0 0, .slice none 0 0] 26)) = z := ⟨_, rfl⟩
    have HB2 := Aside0.mk (show Below w.heap.size w w2 by rw [← hw2]; exact below_alloc HB1.out _)
    have HX2 := Aside0.mk (show w2.heap[g]? = some (.cells #[.slice none 0 0, .slice none 0 0, .slice A0 st.length c0, .slice none 0 0, .int .i64 0, .int .i64 0, .slice none (insTo ks 0).length 0, .slice none 0 0, .slice none 0 0, .slice none 0 0] 26 (0, 0)) by rw [← hw2, ← hg]; exact blk_new w1 _)
    have HGE := Aside0.mk (show w.heap.size ≤ g by rw [← hg]; exact HB1.out.size)
    rw [hw2, hg]
    clear hw2 hg HB1
    go_loopw [8] (fun i wr => ∃ n : Nat, n ≤ ks.length ∧ i = .int .i64 n ∧ ∃ (Av : Option Addr) (cv : Nat), Aside0 (wr.heap[g]? = some (.cells #[.slice none 0 0, .slice none 0 0, .slice A0 st.length c0, .slice none 0 0, .int .i64 0, .int .i64 0, .slice Av (insTo ks n).length cv, .slice none 0 0, .slice none 0 0, .slice none 0 0] 26 (0, 0))) ∧ Aside0 (Kd.R k49 49 wr w.heap.size (fun _ => True) (.slice Av (insTo ks n).length cv) (insTo ks n)) ∧ Aside0 (Below w.heap.size w wr)) (fun i _ => ks.length - (intOf i).toNat)
    case atStart => exact ⟨0, Nat.zero_le _, rfl, none, 0, HX2, ⟨Kd.R_nil _ _ _ _ _⟩, HB2⟩
    case round =>
      clear HX2 HB2
      obtain ⟨n, hn, rfl, Av, cv, HX, HR, HB⟩ := hrel
      by_cases hlt : n < ks.length
      · have hltb : decide ((n : Int) < (ks.length : Int)) = true := decide_eq_true (by omega)
        have HLT := Aside0.mk hlt
        have hn40 : n < 40 := by have := HG0.out; omega
        obtain ⟨ad, e1, hx⟩ := Kd.at_int HR1.out (n : Int) (by omega) (by omega)
        subst e1
        rw [Int.toNat_natCast] at hx
        have HK := Aside0.mk hx
        clear hx
        have hil := insTo_length ks n
        have HIL := Aside0.mk hil
        have hl48 : ((insTo ks n).length + 2) * 48 ≤ 140737488355328 := by rw [hil]; have := HG0.out; omega
        clear hil
        have p0 := eq_true (show (0 : Int) ≤ (n : Int) by omega)
        have p1 := eq_true (show (n : Int) < (ks.length : Int) by omega)
        go_wp2
        have HX := Aside0.mk (show wr.drew.heap[g]? = _ from HX.out)
        have HR := Aside0.mk (Kd.R_drew HR.out)
        have HB := Aside0.mk (below_drew1 HB.out)
        refine start_ (n := 15) (S := fun w' => w'.cell? ⟨g, 6, none⟩ = some (.slice Av (insTo ks n).length cv) ∧ w'.cell? (ad.add n) = some (.int .i64 (rd ks (n : Int)))) (ds := [14]) #[false, false, false, false, false, false, false, false, false, false, false, false, false, false, false] (by kernel_rfl) rfl rfl ⟨(blk_cell HX.out 6).trans rfl, (HB.out.cell (World.block_lt_of_cell? w _ HK.out)).trans HK.out⟩ (fun hHeld => ?_); refine with_tabW ev_tab ev_bits (fun HT_ HW_ => ?_)
        refine pure_ (i := 0) (N := some 37) (v := ?_) (a' := ?_) #[true, false, false, false, false, false, false, false, false, false, false, false, false, false, false] rfl rfl (any_of HT_.out (by kernel_rfl)) (fun _ _ _ h => h) (Or.inl ⟨by rfl, ?_⟩) ?_ ?_
        rotate_left
        · intro w'
          go_simp
          with_reducible rfl
        rotate_left
        · simp only [Act.put, List.setIfInBounds_toArray, List.set_cons_zero, List.set_cons_succ, i64_w, i32_w]
          rfl
        refine pure_ (i := 2) (N := some 39) (v := ?_) (a' := ?_) #[true, false, true, false, false, false, false, false, false, false, false, false, false, false, false] rfl rfl (any_of HT_.out (by kernel_rfl)) (fun _ _ _ h => h) (Or.inl ⟨by rfl, ?_⟩) ?_ ?_
        rotate_left
        · intro w'
          go_simp
          with_reducible rfl
        rotate_left
        · simp only [Act.put, List.setIfInBounds_toArray, List.set_cons_zero, List.set_cons_succ, i64_w, i32_w]
          rfl
        refine pure_ (i := 3) (N := some 40) (v := ?_) (a' := ?_) #[true, false, true, true, false, false, false, false, false, false, false, false, false, false, false] rfl rfl (any_of HT_.out (by kernel_rfl)) (fun _ _ _ h => h) (Or.inl ⟨by rfl, ?_⟩) ?_ ?_
        rotate_left
        · intro w'
          go_simp
          with_reducible rfl
        rotate_left
        · simp only [Act.put, List.setIfInBounds_toArray, List.set_cons_zero, List.set_cons_succ, i64_w, i32_w]
          rfl
        refine pure_ (i := 4) (N := some 41) (v := ?_) (a' := ?_) #[true, false, true, true, true, false, false, false, false, false, false, false, false, false, false] rfl rfl (any_of HT_.out (by kernel_rfl)) (fun _ _ _ h => h) (Or.inl ⟨by rfl, ?_⟩) ?_ ?_
        rotate_left
        · intro w'
          go_simp
          with_reducible rfl
        rotate_left
        · simp only [Act.put, List.setIfInBounds_toArray, List.set_cons_zero, List.set_cons_succ, i64_w, i32_w]
          rfl
        refine pure_ (i := 8) (N := some 45) (v := ?_) (a' := ?_) #[true, false, true, true, true, false, false, false, true, false, false, false, false, false, false] rfl rfl (any_of HT_.out (by kernel_rfl)) (fun _ _ _ h => h) (Or.inl ⟨by rfl, ?_⟩) ?_ ?_
        rotate_left
        · intro w'
          go_simp
          with_reducible rfl
        rotate_left
        · simp only [Act.put, List.setIfInBounds_toArray, List.set_cons_zero, List.set_cons_succ, i64_w, i32_w]
          rfl
        refine pure_ (i := 9) (N := some 46) (v := ?_) (a' := ?_) #[true, false, true, true, true, false, false, false, true, true, false, false, false, false, false] rfl rfl (any_of HT_.out (by kernel_rfl)) (fun _ _ _ h => h) (Or.inl ⟨by rfl, ?_⟩) ?_ ?_
        rotate_left
        · intro w'
          go_simp
          with_reducible rfl
        rotate_left
        · simp only [Act.put, List.setIfInBounds_toArray, List.set_cons_zero, List.set_cons_succ, i64_w, i32_w]
          rfl
        refine take_ (i := 1) (N := some 38) (v := ?_) (a' := ?_) #[true, true, true, true, true, false, false, false, true, true, false, false, false, false, false] rfl rfl (take_ofW HT_.out HW_.out (by kernel_rfl)) (fun _ _ _ h => h) (Or.inl ⟨by rfl, ?_⟩) hHeld ?_ ?_
        rotate_left
        · rintro w' ⟨s0, s1⟩
          go_simp
          with_reducible rfl
        rotate_left
        · simp only [Act.put, List.setIfInBounds_toArray, List.set_cons_zero, List.set_cons_succ, i64_w, i32_w]
          rfl
        refine pure_ (i := 5) (N := some 42) (v := ?_) (a' := ?_) #[true, true, true, true, true, true, false, false, true, true, false, false, false, false, false] rfl rfl (any_of HT_.out (by kernel_rfl)) (fun _ _ _ h => h) (Or.inl ⟨by rfl, ?_⟩) ?_ ?_
        rotate_left
        · intro w'
          go_simp
          with_reducible rfl
        rotate_left
        · simp only [Act.put, List.setIfInBounds_toArray, List.set_cons_zero, List.set_cons_succ, i64_w, i32_w]
          rfl
        refine take_ (i := 6) (N := some 43) (v := ?_) (a' := ?_) #[true, true, true, true, true, true, true, false, true, true, false, false, false, false, false] rfl rfl (take_ofW HT_.out HW_.out (by kernel_rfl)) (fun _ _ _ h => h) (Or.inl ⟨by rfl, ?_⟩) hHeld ?_ ?_
        rotate_left
        · rintro w' ⟨s0, s1⟩
          go_simp
          with_reducible rfl
        rotate_left
        · simp only [Act.put, List.setIfInBounds_toArray, List.set_cons_zero, List.set_cons_succ, i64_w, i32_w]
          rfl
        refine pure_ (i := 7) (N := some 44) (v := ?_) (a' := ?_) #[true, true, true, true, true, true, true, true, true, true, false, false, false, false, false] rfl rfl (any_of HT_.out (by kernel_rfl)) (fun _ _ _ h => h) (Or.inl ⟨by rfl, ?_⟩) ?_ ?_
        rotate_left
        · intro w'
          go_simp
          with_reducible rfl
        rotate_left
        · simp only [Act.put, List.setIfInBounds_toArray, List.set_cons_zero, List.set_cons_succ, i64_w, i32_w]
          rfl
        refine pure_ (i := 10) (N := some 47) (v := ?_) (a' := ?_) #[true, true, true, true, true, true, true, true, true, true, true, false, false, false, false] rfl rfl (any_of HT_.out (by kernel_rfl)) (fun _ _ _ h => h) (Or.inl ⟨by rfl, ?_⟩) ?_ ?_
        rotate_left
        · intro w'
          go_simp
          with_reducible rfl
        rotate_left
        · simp only [Act.put, List.setIfInBounds_toArray, List.set_cons_zero, List.set_cons_succ, i64_w, i32_w]
          rfl
        refine one_ (i := 11) (N := some 48) #[true, true, true, true, true, true, true, true, true, true, true, true, false, false, false] rfl rfl (one_of HT_.out (by kernel_rfl)) (by decide) (fun K hK => ?_)
        refine Kd.R_lit_step k49 (w0 := w) w.heap.size 49 (by rfl) (N := 48) rfl (xs := ([⟨1, (n : Int), 0, 0, 0, rd ks (n : Int)⟩, ⟨20, (n : Int), (n : Int), 0, 0, 0⟩] : List S49)) (inner := [.int .i64 1, .int .i64 (n : Int), .int .i64 0, .int .i64 0, .int .i64 0, .int .i64 (rd ks (n : Int)), .int .i64 20, .int .i64 (n : Int), .int .i64 (n : Int), .int .i64 0, .int .i64 0, .int .i64 0]) (ok := fun _ => True) (okp := fun _ => False) (by first | (go_simp; done) | (go_simp; rfl)) (reps_two _ _ _ ⟨1, (n : Int), 0, 0, 0, rd ks (n : Int)⟩ ⟨20, (n : Int), (n : Int), 0, 0, 0⟩) (fun _ hk => hk.elim) trivial HB.out HB.out.size (by simp) ?_
        intro v1 w5 hR1 hb1 hg1 hn1
        obtain ⟨A5, c5, rfl, -, hC5, -⟩ := R_list hR1
        have HC5 := Aside0.mk hC5
        have HX := Aside0.mk ((hg1.block _ (blk_lt HX.out) (fun e => by cases e)).trans HX.out)
        have HR := Aside0.mk (Kd.R_step HR.out (fun k _ hk => hg1.block k hk (fun e => by cases e)))
        have HB := Aside0.mk hb1
        clear hR1 hb1 hg1 hn1 hC5
        refine hK.out _ _ ⟨(blk_cell HX.out 6).trans rfl, (HB.out.cell (World.block_lt_of_cell? w _ HK.out)).trans HK.out⟩ (fun hHeld => ?_)
        clear hK K
        refine norm_ (a' := ?_) ?_ ?_
        rotate_left
        · show Act.put _ (some 48) _ = _
          simp only [Act.put, List.setIfInBounds_toArray, List.set_cons_zero, List.set_cons_succ, i64_w, i32_w]
          rfl
        refine one_ (i := 12) (N := some 49) #[true, true, true, true, true, true, true, true, true, true, true, true, true, false, false] rfl rfl (one_of HT_.out (by kernel_rfl)) (by decide) (fun K hK => ?_)
        refine Kd.R_append_rows_step k49 (w0 := w) (Rr := k49.K w5) w.heap.size (by rfl) (.tmp 38) (.tmp 48) 24 49 (.agg #[.int .i64 0, .int .i64 0, .int .i64 0, .int .i64 0, .int .i64 0, .int .i64 0]) 48 rfl Tryz.underlying24 row49 rfl (by decide) (by decide) (.slice Av (insTo ks n).length cv) (insTo ks n) [⟨1, (n : Int), 0, 0, 0, rd ks (n : Int)⟩, ⟨20, (n : Int), (n : Int), 0, 0, 0⟩] A5 2 c5 (fun _ => True) (fun _ => False) rfl rfl HR.out HC5.out (fun _ _ hk => k49_KM hk) (fun _ hk => hk.elim) (fun _ _ => trivial) HB.out HB.out.size hl48 ?_
        intro v2 w6 hR2 hb2 hg2 hn2
        obtain ⟨Aw, cw, rfl⟩ := Kd.R_slice hR2
        have hne := Kd.R_ne HR.out HX.out (by decide)
        have HX := Aside0.mk ((hg2.block _ (blk_lt HX.out) hne).trans HX.out)
        have HR := Aside0.mk (show Kd.R k49 49 w6 w.heap.size (fun _ => True) (.slice Aw ((insTo ks n).length + 2) cw) (insTo ks (n + 1)) from by have hh := hR2; rw [List.length_append] at hh; exact hh)
        have HB := Aside0.mk hb2
        clear hR2 hb2 hg2 hn2 hne
        refine hK.out _ _ ⟨(blk_cell HX.out 6).trans rfl, (HB.out.cell (World.block_lt_of_cell? w _ HK.out)).trans HK.out⟩ (fun hHeld => ?_)
        clear hK K
        refine norm_ (a' := ?_) ?_ ?_
        rotate_left
        · show Act.put _ (some 49) _ = _
          simp only [Act.put, List.setIfInBounds_toArray, List.set_cons_zero, List.set_cons_succ, i64_w, i32_w]
          rfl
        refine pure_ (i := 13) (N := some 50) (v := ?_) (a' := ?_) #[true, true, true, true, true, true, true, true, true, true, true, true, true, true, false] rfl rfl (any_of HT_.out (by kernel_rfl)) (fun _ _ _ h => h) (Or.inl ⟨by rfl, ?_⟩) ?_ ?_
        rotate_left
        · intro w'
          go_simp
          with_reducible rfl
        rotate_left
        · simp only [Act.put, List.setIfInBounds_toArray, List.set_cons_zero, List.set_cons_succ, i64_w, i32_w]
          rfl
        have hcl : World.cell? _ ⟨g, 6, none⟩ = some (.slice Av (insTo ks n).length cv) := (blk_cell HX.out 6).trans rfl
        have hfr := blk_frozen HX.out 6
        refine last_ (i := 14) (N := none) #[true, true, true, true, true, true, true, true, true, true, true, true, true, true, true] rfl rfl (one_of HT_.out (by kernel_rfl)) (by decide) (fun K hK => ?_)
        refine skip_ (w1 := ?_) (by rfl) rfl ?_ ?_
        rotate_left
        · go_simp
          rfl
        have HR3 := Aside0.mk (Kd.R_set (xs := insTo ks (n + 1)) (v := .slice Aw ((insTo ks n).length + 2) cw) HR.out HX.out (by decide) 6 (.slice Aw ((insTo ks n).length + 2) cw))
        have HB3 := Aside0.mk (below_set (g := g) (j := 6) (v := (.slice Aw ((insTo ks n).length + 2) cw)) HB.out HGE.out)
        have HX3 := Aside0.mk (blk_put (cs' := #[.slice none 0 0, .slice none 0 0, .slice A0 st.length c0, .slice none 0 0, .int .i64 0, .int .i64 0, .slice Aw ((insTo ks n).length + 2) cw, .slice none 0 0, .slice none 0 0, .slice none 0 0]) HX.out 6 (.slice Aw ((insTo ks n).length + 2) cw) rfl)
        refine hK.out _ _ ?_
        clear hK K
        refine done_ (done_of HT_.out (by kernel_rfl)) ?_
        clear hcl hfr
        go_wp2
        go_roundw
        case rel =>
          have hls : (insTo ks (n + 1)).length = (insTo ks n).length + 2 := by rw [insTo_length, insTo_length]; omega
          exact ⟨n + 1, by omega, by go_num, Aw, cw, by rw [hls]; exact HX3, by rw [hls]; exact HR3, HB3⟩
        case measure => simp [intOf]; have := HLT.out; omega
      · obtain rfl : n = ks.length := by omega
        have hltb : decide ((ks.length : Int) < (ks.length : Int)) = false := decide_eq_false (by omega)
        have HRO := Aside0.mk (right_even ks st HG1.out HG0.out)
        obtain ⟨AD, cD, hvD, hcD, hCD, -⟩ := R_list HR.out
        injection hvD with eA _ ec
        subst eA
        subst ec
        have HCD := Aside0.mk (And.intro hCD hcD)
        clear hCD hcD
        go_wp2_with (first | (refine wpList_load_row rfl 26 _ rfl g rfl 26 #[.slice none 0 0, .slice none 0 0, .slice A0 st.length c0, .slice none 0 0, .int .i64 0, .int .i64 0, .slice Av (insTo ks ks.length).length cv, .slice none 0 0, .slice none 0 0, .slice none 0 0] (0, 0) _ HX.out Tryz.underlying26 rfl (by kernel_rfl) ?_))
        have nilC : ∀ {α : Type} {d : Kd α} {W : World}, d.C W none ([] : List α).length [] := ⟨rfl, by simp, fun hh => absurd hh (by simp)⟩
        refine (new_any none none A0 none Av none none none 0 0 c0 0 cv 0 0 0 [] [] st [] 0 0 (insTo ks ks.length) [] [] [] wr nilC (Nat.le_refl _) nilC (Nat.le_refl _) (Kd.C_below HR0.out HB.out) HC0.out nilC (Nat.le_refl _) HCD.out.1 HCD.out.2 nilC (Nat.le_refl _) nilC (Nat.le_refl _) nilC (Nat.le_refl _) HRO.out).mono ?_
        rintro e w3 ⟨Bm, rfl, ⟨cs, v0, v1, v2, v3, v6, v7, v8, v9, hM⟩, hb3⟩
        have M3 := Aside0.mk hM
        have B3 := Aside0.mk (below_step HB.out hb3)
        have hz : w.heap.size ≤ wr.heap.size := HB.out.size
        clear hM hb3
        obtain ⟨nr, hmx, hn0, hn1, hnk⟩ : ∃ nr : Nat, (if regsTo (four (insTo ks ks.length) [] [] []) 4 < 1 then 1 else regsTo (four (insTo ks ks.length) [] [] []) 4) = (nr : Int) ∧ 0 < nr ∧ nr ≤ 4000 ∧ ks.length ≤ nr := by
          have h40 := HG0.out
          rw [regsTo_insTo ks ks.length (by omega)]
          by_cases hz0 : ks.length = 0
          · exact ⟨1, by rw [if_pos (by omega)]; rfl, by omega, by omega, by omega⟩
          · exact ⟨ks.length, by rw [if_neg (by omega)], by omega, by omega, by omega⟩
        have h40 := HG0.out
        have hsk := HG1.out
        have hin : In64 h := in64_of HW2.out
        have his : ∀ i, i < st.length → In64 (rd st (i : Int)) := fun i hi => in64_at HW0.out i hi
        have hik : ∀ i, i < st.length → In64 (rd ks (i : Int)) := fun i hi => in64_at HW1.out i (by omega)
        have him : ∀ i, i < st.length → In64 (rd (tabV (meanV ks) st.length) (i : Int)) := fun i hi => by rw [rd_tab _ _ _ hi]; exact mean_in ks i
        have run : ∀ (x : List Int) (dn : Int), ∃ s dn', runV O0 [] x [] [] (insTo ks ks.length) (2 * ks.length + 1) 0 dn ⟨List.replicate nr 0, 0, List.replicate st.length 0, [], []⟩ = some (s, dn') ∧ s.put = ks ∧ s.fl = 0 := fun x dn => by
          rw [hsk]
          exact run_all ks x nr hnk (by omega) dn
        obtain ⟨s1, d1, hq1, hu1, hf1⟩ := run st 0
        obtain ⟨s2, d2, hq2, hu2, hf2⟩ := run (tabV (alongV st ks h) st.length) d1
        obtain ⟨s3, d3, hq3, hu3, hf3⟩ := run st d2
        have oldn : ∀ (W : World), Old wr.heap.size W none [] := fun W => ⟨nilC, fun ad ha => by cases ha⟩
        have olds : ∀ (W : World), Below w.heap.size w W → Old wr.heap.size W A0 st := fun W hW => ⟨Kd.C_below HR0.out hW, fun ad ha hp => by
          subst ha
          have := C_lt HR0.out hp (by decide)
          omega⟩
        have hor : (Go.bits .or .i64 0 0 : Int) = 0 ∨ (Go.bits .or .i64 0 0 : Int) = 1 := (orB (.inl rfl) (.inl rfl)).1
        have hST := Aside0.mk (step_any M3.out O0 (opsFor0 cs) (2 * ks.length + 1) nr none A0 none 0 c0 0 [] st [] h (oldn _) (olds _ B3.out) (oldn _) ⟨rfl, rfl, rfl⟩ hmx hn0 hn1 (by omega) s1 d1 hq1 (by rw [hu1]; exact hsk.symm)
          (alongV st ks h) (alongF st ks h (Go.bits .or .i64 0 0)) (by rw [hf1]; rfl) (fun i hi => by rw [hu1]; exact along_ok st ks h _ his hik hin i hi) s2 d2 hq2 (by rw [hu2]; exact hsk.symm)
          (meanV ks) (meanF ks (Go.bits .or .i64 (alongF st ks h (Go.bits .or .i64 0 0) st.length) 0)) (by rw [hf2]; rfl) (fun i hi => by rw [hu1, hu2]; exact mean_ok ks _ i (hik i hi))
          (alongV st (tabV (meanV ks) st.length) h) (alongF st (tabV (meanV ks) st.length) h (meanF ks (Go.bits .or .i64 (alongF st ks h (Go.bits .or .i64 0 0) st.length) 0) st.length)) rfl (fun i hi => along_ok st (tabV (meanV ks) st.length) h _ his him hin i hi))
        have hEU := Aside0.mk (fun (W : World) (hW : Below w.heap.size w W) (hMW : Mach wr.heap.size Bm cs v0 v1 v2 v3 v6 v7 v8 v9 [] [] st [] 0 0 (insTo ks ks.length) [] [] [] d2 W) => euler_any hMW O0 (opsFor0 cs) (2 * ks.length + 1) nr none A0 none 0 c0 0 [] st [] h (oldn _) (olds _ hW) (oldn _) ⟨rfl, rfl, rfl⟩ hmx hn0 hn1 (by omega) s3 d3 hq3 (by rw [hu3]; exact hsk.symm)
          (alongV st ks h) (alongF st ks h (Go.bits .or .i64 0 0)) (by rw [hf3]; rfl) (fun i hi => by rw [hu3]; exact along_ok st ks h _ his hik hin i hi))
        have hSAME := Aside0.mk (even_same st ks h hsk (Go.bits .or .i64 (alongF st ks h (Go.bits .or .i64 0 0) st.length) 0) (orB (alongF01 st ks h _ hor st.length) (.inl rfl)).1)
        obtain ⟨LA, hLA⟩ : ∃ z, tabV (alongV st (tabV (meanV ks) st.length) h) st.length = z := ⟨_, rfl⟩
        obtain ⟨LB, hLB⟩ : ∃ z, tabV (alongV st ks h) st.length = z := ⟨_, rfl⟩
        obtain ⟨fA, hfA⟩ : ∃ z, alongF st (tabV (meanV ks) st.length) h (meanF ks (Go.bits .or .i64 (alongF st ks h (Go.bits .or .i64 0 0) st.length) 0) st.length) st.length = z := ⟨_, rfl⟩
        obtain ⟨fB, hfB⟩ : ∃ z, alongF st ks h (Go.bits .or .i64 0 0) st.length = z := ⟨_, rfl⟩
        have hlA : LA.length = st.length := by rw [← hLA]; exact tabV_length _ _
        rw [hLA, hfA] at hST
        rw [hLB, hfB] at hEU
        rw [hfA, hLA, hLB] at hSAME
        have HLA := Aside0.mk (show LA.length ≤ 40 by omega)
        have HBm := Aside0.mk (show w.heap.size ≤ Bm from Nat.le_trans hz M3.out.lo)
        clear hLA hLB hfA hfB hlA hmx hn0 hn1 hnk hin his hik him run hq1 hu1 hf1 hq2 hu2 hf2 hq3 hu3 hf3 oldn olds hor hsk h40 HCD HR HX HRO HB nilC hz
        have HBL := Aside0.mk (show Bm < w3.heap.size from lt_of_block M3.out.blk)
        by_cases z1 : fA = 0
        · subst z1
          have hsame := hSAME.out rfl
          subst hsame
          clear hSAME
          by_cases z2 : fB = 0
          · subst z2
            obtain ⟨KN, hKN⟩ := Ev.rounds (numbers_ev LA (by have := HLA.out; omega))
            have HN := Aside0.mk hKN
            clear hKN
            go_wp2_with (first
              | (go_at_call 34; refine hST.out.mono ?_; rintro e w4 ⟨va, rfl, hRa, hMa, hCa⟩; obtain ⟨Aa, ca, rfl, hca, hNa⟩ := Nw.of_R' hRa; have MA := Aside0.mk hMa; have B4 := Aside0.mk (show Below w.heap.size w w4 from hCa.to_below B3.out.size (fun k hk => by rw [hk]; exact HBm.out) B3.out); have NA := Aside0.mk hNa; have CA := Aside0.mk hca; clear hRa hMa hCa hNa hca)
              | (go_at_call 35; refine (hEU.out _ B4.out MA.out).mono ?_; rintro e w5 ⟨vb, rfl, hRb, hMb, hCb⟩; obtain ⟨Ab, cb, rfl, hcb, hNb⟩ := Nw.of_R' hRb; have B5 := Aside0.mk (show Below w.heap.size w w5 from hCb.to_below B4.out.size (fun k hk => by rw [hk]; exact HBm.out) B4.out); have NB := Aside0.mk hNb; have CB := Aside0.mk hcb; have NA5 := Aside0.mk (NA.out.chg hCb (fun k hk => by rw [hk]; exact HBL.out)); clear hRb hMb hCb hNb hcb)
              | (go_at_call 29; refine (astrolaberef14_Numbers.calls KN Aa ca LA Ab cb LA true _ NA5.out.c CA.out NB.out.c CB.out HN.out).mono ?_; rintro e w6 ⟨rfl, hd6⟩; have B6 := Aside0.mk (below_step B5.out hd6.below); clear hd6))
            go_ret
            exact ⟨rfl, B6.out⟩
          · have zb : (fB != 0) = true := by simp [z2]
            have zc : decide (fB = 0) = false := decide_eq_false z2
            go_wp2_with (first
              | (go_at_call 34; refine hST.out.mono ?_; rintro e w4 ⟨va, rfl, hRa, hMa, hCa⟩; obtain ⟨Aa, ca, rfl, hca, hNa⟩ := Nw.of_R' hRa; have MA := Aside0.mk hMa; have B4 := Aside0.mk (show Below w.heap.size w w4 from hCa.to_below B3.out.size (fun k hk => by rw [hk]; exact HBm.out) B3.out); have NA := Aside0.mk hNa; have CA := Aside0.mk hca; clear hRa hMa hCa hNa hca)
              | (go_at_call 35; refine (hEU.out _ B4.out MA.out).mono ?_; rintro e w5 ⟨vb, rfl, hRb, hMb, hCb⟩; obtain ⟨Ab, cb, rfl, hcb, hNb⟩ := Nw.of_R' hRb; have B5 := Aside0.mk (show Below w.heap.size w w5 from hCb.to_below B4.out.size (fun k hk => by rw [hk]; exact HBm.out) B4.out); have NB := Aside0.mk hNb; have CB := Aside0.mk hcb; have NA5 := Aside0.mk (NA.out.chg hCb (fun k hk => by rw [hk]; exact HBL.out)); clear hRb hMb hCb hNb hcb))
            go_ret
            exact ⟨rfl, B5.out⟩
        · have zb : (fA != 0) = true := by simp [z1]
          have zc : decide (fA = 0) = false := decide_eq_false z1
          go_wp2_with (first
            | (go_at_call 34; refine hST.out.mono ?_; rintro e w4 ⟨va, rfl, hRa, hMa, hCa⟩; obtain ⟨Aa, ca, rfl, hca, hNa⟩ := Nw.of_R' hRa; have MA := Aside0.mk hMa; have B4 := Aside0.mk (show Below w.heap.size w w4 from hCa.to_below B3.out.size (fun k hk => by rw [hk]; exact HBm.out) B3.out); have NA := Aside0.mk hNa; have CA := Aside0.mk hca; clear hRa hMa hCa hNa hca)
            | (go_at_call 35; refine (hEU.out _ B4.out MA.out).mono ?_; rintro e w5 ⟨vb, rfl, hRb, hMb, hCb⟩; obtain ⟨Ab, cb, rfl, hcb, hNb⟩ := Nw.of_R' hRb; have B5 := Aside0.mk (show Below w.heap.size w w5 from hCb.to_below B4.out.size (fun k hk => by rw [hk]; exact HBm.out) B4.out); have NB := Aside0.mk hNb; have CB := Aside0.mk hcb; have NA5 := Aside0.mk (NA.out.chg hCb (fun k hk => by rw [hk]; exact HBL.out)); clear hRb hMb hCb hNb hcb))
          go_ret
          exact ⟨rfl, B5.out⟩
  · have g0b : decide ((st.length : Int) > 40) = false := decide_eq_false (by omega)
    have g1b : ((st.length : Int) != (ks.length : Int)) = true := by simp; omega
    go_enter Tryz.func6, Tryz.ntmps6
    go_wp2_with (go_at_call 32; refine (Q.astrolabelaw19_alive.calls true _ rfl).mono ?_; rintro e w1 ⟨rfl, hb1⟩)
    go_ret
    exact ⟨rfl, hb1⟩
theorem heunEven_walk (a0 : Option Addr) (len0 cap0 : Nat) (z0 : List Int) (a1 : Option Addr) (len1 cap1 : Nat) (z1 : List Int) (a2 : Int) (w : World) (w0 : (a0 = none ∧ len0 = 0 ∧ cap0 = 0 ∧ z0 = []) ∨ ∃ x, a0 = some x ∧ len0 ≤ cap0 ∧ cap0 ≤ maxLen ∧ z0.length = cap0 ∧ (∀ i, i < z0.length → w.cell? (x.add i) = some (.int .i64 (z0.getD i 0))) ∧ ∀ n ∈ z0, (Lit.int .i64 n).wf = true) (y0 : len0 * 8 ≤ 140737488351232) (w1 : (a1 = none ∧ len1 = 0 ∧ cap1 = 0 ∧ z1 = []) ∨ ∃ x, a1 = some x ∧ len1 ≤ cap1 ∧ cap1 ≤ maxLen ∧ z1.length = cap1 ∧ (∀ i, i < z1.length → w.cell? (x.add i) = some (.int .i64 (z1.getD i 0))) ∧ ∀ n ∈ z1, (Lit.int .i64 n).wf = true) (y1 : len1 * 8 ≤ 140737488351232) (w2 : (Lit.int .i64 a2).wf = true) :
    Calls Tryz.prog 6 #[.slice a0 len0 cap0, .slice a1 len1 cap1, .int .i64 a2] w fun e w' => e = .returned (.bool true) ∧ Below w.heap.size w w' := by
  obtain ⟨l0, rfl, hr0, hm0, hw0, hc0⟩ := ReadsInt.ofRowC w0
  obtain ⟨l1, rfl, hr1, hm1, hw1, hc1⟩ := ReadsInt.ofRowC w1
  exact heunEven_calls _ _ l0 _ _ l1 a2 w (Kd.C_of_reads (d := (0 : Int)) (h1 := fun _ => rfl) hr0) (Kd.C_of_reads (d := (0 : Int)) (h1 := fun _ => rfl) hr1) hc0 hw0 hw1 w2
end Go.Proofs.YtgalkkolbobmbaaGreat.V
