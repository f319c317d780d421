/- The Go functions astrolaberef15.Equal and astrolaberef16.Equal. -/
import Derived.Test.YtccolpkjgjjipaaCEqP
namespace Go.Proofs.Ytccolpkjgjjipaa.K
set_option linter.unusedVariables false
set_option linter.unusedSimpArgs false
open Go.RowKit Go.Proofs.YtccolpkjgjjipaaW.PrintWords Go.Proofs.YtccolpkjgjjipaaW.PrintLast Go.Proofs.YtccolpkjgjjipaaW.PrintMore
def eqF (l0_0 : List Int) (l0_1 : List Int) (l0_2 : List Int) (l0_3 : List Int) (a0_4 : Int) (a0_5 : Int) (l0_6 : List S47) (l0_7 : List S47) (l0_8 : List S47) (l0_9 : List S47) (l1_0 : List Int) (l1_1 : List Int) (l1_2 : List Int) (l1_3 : List Int) (a1_4 : Int) (a1_5 : Int) (l1_6 : List S47) (l1_7 : List S47) (l1_8 : List S47) (l1_9 : List S47) : Bool :=
  (l0_0 == l1_0) && ((l0_1 == l1_1) && ((l0_2 == l1_2) && ((l0_3 == l1_3) && ((a0_4 == a1_4) && ((a0_5 == a1_5) && (eqS l0_6 l1_6 && (eqS l0_7 l1_7 && (eqS l0_8 l1_8 && eqS l0_9 l1_9))))))))
set_option maxHeartbeats 4000000 in
set_option maxRecDepth 100000 in
theorem equal41_any (A0_0 : Option Addr) (c0_0 : Nat) (l0_0 : List Int) (A0_1 : Option Addr) (c0_1 : Nat) (l0_1 : List Int) (A0_2 : Option Addr) (c0_2 : Nat) (l0_2 : List Int) (A0_3 : Option Addr) (c0_3 : Nat) (l0_3 : List Int) (a0_4 : Int) (a0_5 : Int) (A0_6 : Option Addr) (c0_6 : Nat) (l0_6 : List S47) (A0_7 : Option Addr) (c0_7 : Nat) (l0_7 : List S47) (A0_8 : Option Addr) (c0_8 : Nat) (l0_8 : List S47) (A0_9 : Option Addr) (c0_9 : Nat) (l0_9 : List S47) (A1_0 : Option Addr) (c1_0 : Nat) (l1_0 : List Int) (A1_1 : Option Addr) (c1_1 : Nat) (l1_1 : List Int) (A1_2 : Option Addr) (c1_2 : Nat) (l1_2 : List Int) (A1_3 : Option Addr) (c1_3 : Nat) (l1_3 : List Int) (a1_4 : Int) (a1_5 : Int) (A1_6 : Option Addr) (c1_6 : Nat) (l1_6 : List S47) (A1_7 : Option Addr) (c1_7 : Nat) (l1_7 : List S47) (A1_8 : Option Addr) (c1_8 : Nat) (l1_8 : List S47) (A1_9 : Option Addr) (c1_9 : Nat) (l1_9 : List S47) (w : World) (hr0_0 : Kd.C (Kd.int .i64) w A0_0 l0_0.length l0_0) (hc0_0 : l0_0.length ≤ c0_0) (hr0_1 : Kd.C (Kd.int .i64) w A0_1 l0_1.length l0_1) (hc0_1 : l0_1.length ≤ c0_1) (hr0_2 : Kd.C (Kd.int .i64) w A0_2 l0_2.length l0_2) (hc0_2 : l0_2.length ≤ c0_2) (hr0_3 : Kd.C (Kd.int .i64) w A0_3 l0_3.length l0_3) (hc0_3 : l0_3.length ≤ c0_3) (hr0_6 : Kd.C k47 w A0_6 l0_6.length l0_6) (hc0_6 : l0_6.length ≤ c0_6) (hr0_7 : Kd.C k47 w A0_7 l0_7.length l0_7) (hc0_7 : l0_7.length ≤ c0_7) (hr0_8 : Kd.C k47 w A0_8 l0_8.length l0_8) (hc0_8 : l0_8.length ≤ c0_8) (hr0_9 : Kd.C k47 w A0_9 l0_9.length l0_9) (hc0_9 : l0_9.length ≤ c0_9) (hr1_0 : Kd.C (Kd.int .i64) w A1_0 l1_0.length l1_0) (hc1_0 : l1_0.length ≤ c1_0) (hr1_1 : Kd.C (Kd.int .i64) w A1_1 l1_1.length l1_1) (hc1_1 : l1_1.length ≤ c1_1) (hr1_2 : Kd.C (Kd.int .i64) w A1_2 l1_2.length l1_2) (hc1_2 : l1_2.length ≤ c1_2) (hr1_3 : Kd.C (Kd.int .i64) w A1_3 l1_3.length l1_3) (hc1_3 : l1_3.length ≤ c1_3) (hr1_6 : Kd.C k47 w A1_6 l1_6.length l1_6) (hc1_6 : l1_6.length ≤ c1_6) (hr1_7 : Kd.C k47 w A1_7 l1_7.length l1_7) (hc1_7 : l1_7.length ≤ c1_7) (hr1_8 : Kd.C k47 w A1_8 l1_8.length l1_8) (hc1_8 : l1_8.length ≤ c1_8) (hr1_9 : Kd.C k47 w A1_9 l1_9.length l1_9) (hc1_9 : l1_9.length ≤ c1_9) (hlen : l0_0.length ≤ 4000000000000000000 ∧ l0_1.length ≤ 4000000000000000000 ∧ l0_2.length ≤ 4000000000000000000 ∧ l0_3.length ≤ 4000000000000000000 ∧ l0_6.length ≤ 4000000000000000000 ∧ l0_7.length ≤ 4000000000000000000 ∧ l0_8.length ≤ 4000000000000000000 ∧ l0_9.length ≤ 4000000000000000000) :
    Calls Try.prog 41 #[.agg #[.slice A0_0 l0_0.length c0_0, .slice A0_1 l0_1.length c0_1, .slice A0_2 l0_2.length c0_2, .slice A0_3 l0_3.length c0_3, .int .i64 a0_4, .int .i64 a0_5, .slice A0_6 l0_6.length c0_6, .slice A0_7 l0_7.length c0_7, .slice A0_8 l0_8.length c0_8, .slice A0_9 l0_9.length c0_9], .agg #[.slice A1_0 l1_0.length c1_0, .slice A1_1 l1_1.length c1_1, .slice A1_2 l1_2.length c1_2, .slice A1_3 l1_3.length c1_3, .int .i64 a1_4, .int .i64 a1_5, .slice A1_6 l1_6.length c1_6, .slice A1_7 l1_7.length c1_7, .slice A1_8 l1_8.length c1_8, .slice A1_9 l1_9.length c1_9]] w fun e w' => e = .returned (.bool (eqF l0_0 l0_1 l0_2 l0_3 a0_4 a0_5 l0_6 l0_7 l0_8 l0_9 l1_0 l1_1 l1_2 l1_3 a1_4 a1_5 l1_6 l1_7 l1_8 l1_9)) ∧ Below w.heap.size w w' := by
  obtain ⟨n0, n1, n2, n3, n6, n7, n8, n9⟩ := hlen
  have HE0 := Aside0.mk (rieq_f l0_0 l1_0 (by omega))
  have HE1 := Aside0.mk (rieq_f l0_1 l1_1 (by omega))
  have HE2 := Aside0.mk (rieq64_f l0_2 l1_2 (by omega))
  have HE3 := Aside0.mk (rieq64_f l0_3 l1_3 (by omega))
  have HE6 := Aside0.mk (rseq_f l0_6 l1_6 (by omega))
  have HE7 := Aside0.mk (rseq_f l0_7 l1_7 (by omega))
  have HE8 := Aside0.mk (rseq_f l0_8 l1_8 (by omega))
  have HE9 := Aside0.mk (rseq_f l0_9 l1_9 (by omega))
  clear n0 n1 n2 n3 n6 n7 n8 n9
  have HR0_0 := Aside0.mk hr0_0
  have HC0_0 := Aside0.mk hc0_0
  clear hr0_0 hc0_0
  have HR0_1 := Aside0.mk hr0_1
  have HC0_1 := Aside0.mk hc0_1
  clear hr0_1 hc0_1
  have HR0_2 := Aside0.mk hr0_2
  have HC0_2 := Aside0.mk hc0_2
  clear hr0_2 hc0_2
  have HR0_3 := Aside0.mk hr0_3
  have HC0_3 := Aside0.mk hc0_3
  clear hr0_3 hc0_3
  have HR0_6 := Aside0.mk hr0_6
  have HC0_6 := Aside0.mk hc0_6
  clear hr0_6 hc0_6
  have HR0_7 := Aside0.mk hr0_7
  have HC0_7 := Aside0.mk hc0_7
  clear hr0_7 hc0_7
  have HR0_8 := Aside0.mk hr0_8
  have HC0_8 := Aside0.mk hc0_8
  clear hr0_8 hc0_8
  have HR0_9 := Aside0.mk hr0_9
  have HC0_9 := Aside0.mk hc0_9
  clear hr0_9 hc0_9
  have HR1_0 := Aside0.mk hr1_0
  have HC1_0 := Aside0.mk hc1_0
  clear hr1_0 hc1_0
  have HR1_1 := Aside0.mk hr1_1
  have HC1_1 := Aside0.mk hc1_1
  clear hr1_1 hc1_1
  have HR1_2 := Aside0.mk hr1_2
  have HC1_2 := Aside0.mk hc1_2
  clear hr1_2 hc1_2
  have HR1_3 := Aside0.mk hr1_3
  have HC1_3 := Aside0.mk hc1_3
  clear hr1_3 hc1_3
  have HR1_6 := Aside0.mk hr1_6
  have HC1_6 := Aside0.mk hc1_6
  clear hr1_6 hc1_6
  have HR1_7 := Aside0.mk hr1_7
  have HC1_7 := Aside0.mk hc1_7
  clear hr1_7 hc1_7
  have HR1_8 := Aside0.mk hr1_8
  have HC1_8 := Aside0.mk hc1_8
  clear hr1_8 hc1_8
  have HR1_9 := Aside0.mk hr1_9
  have HC1_9 := Aside0.mk hc1_9
  clear hr1_9 hc1_9
  obtain ⟨R, hR⟩ : ∃ R, eqF l0_0 l0_1 l0_2 l0_3 a0_4 a0_5 l0_6 l0_7 l0_8 l0_9 l1_0 l1_1 l1_2 l1_3 a1_4 a1_5 l1_6 l1_7 l1_8 l1_9 = R := ⟨_, rfl⟩
  rw [hR]
  have HS := Aside0.mk hR
  clear hR
  obtain ⟨b0, q0⟩ : ∃ b, (l0_0 == l1_0) = b := ⟨_, rfl⟩
  rw [q0] at HE0
  obtain ⟨b1, q1⟩ : ∃ b, (l0_1 == l1_1) = b := ⟨_, rfl⟩
  rw [q1] at HE1
  obtain ⟨b2, q2⟩ : ∃ b, (l0_2 == l1_2) = b := ⟨_, rfl⟩
  rw [q2] at HE2
  obtain ⟨b3, q3⟩ : ∃ b, (l0_3 == l1_3) = b := ⟨_, rfl⟩
  rw [q3] at HE3
  obtain ⟨b6, q6⟩ : ∃ b, eqS l0_6 l1_6 = b := ⟨_, rfl⟩
  rw [q6] at HE6
  obtain ⟨b7, q7⟩ : ∃ b, eqS l0_7 l1_7 = b := ⟨_, rfl⟩
  rw [q7] at HE7
  obtain ⟨b8, q8⟩ : ∃ b, eqS l0_8 l1_8 = b := ⟨_, rfl⟩
  rw [q8] at HE8
  obtain ⟨b9, q9⟩ : ∃ b, eqS l0_9 l1_9 = b := ⟨_, rfl⟩
  rw [q9] at HE9
  unfold eqF at HS
  rw [q0, q1, q2, q3, q6, q7, q8, q9] at HS
  clear q0 q1 q2 q3 q6 q7 q8 q9
  have hb : Below w.heap.size w ((w.alloc (Obj.cells #[.slice A0_0 l0_0.length c0_0, .slice A0_1 l0_1.length c0_1, .slice A0_2 l0_2.length c0_2, .slice A0_3 l0_3.length c0_3, .int .i64 a0_4, .int .i64 a0_5, .slice A0_6 l0_6.length c0_6, .slice A0_7 l0_7.length c0_7, .slice A0_8 l0_8.length c0_8, .slice A0_9 l0_9.length c0_9] 28)).alloc (Obj.cells #[.slice A1_0 l1_0.length c1_0, .slice A1_1 l1_1.length c1_1, .slice A1_2 l1_2.length c1_2, .slice A1_3 l1_3.length c1_3, .int .i64 a1_4, .int .i64 a1_5, .slice A1_6 l1_6.length c1_6, .slice A1_7 l1_7.length c1_7, .slice A1_8 l1_8.length c1_8, .slice A1_9 l1_9.length c1_9] 28)) := ((Below.refl _ _).alloc (Nat.le_refl _) _).alloc (by simp) _
  have h1 : ((w.alloc (Obj.cells #[.slice A0_0 l0_0.length c0_0, .slice A0_1 l0_1.length c0_1, .slice A0_2 l0_2.length c0_2, .slice A0_3 l0_3.length c0_3, .int .i64 a0_4, .int .i64 a0_5, .slice A0_6 l0_6.length c0_6, .slice A0_7 l0_7.length c0_7, .slice A0_8 l0_8.length c0_8, .slice A0_9 l0_9.length c0_9] 28)).alloc (Obj.cells #[.slice A1_0 l1_0.length c1_0, .slice A1_1 l1_1.length c1_1, .slice A1_2 l1_2.length c1_2, .slice A1_3 l1_3.length c1_3, .int .i64 a1_4, .int .i64 a1_5, .slice A1_6 l1_6.length c1_6, .slice A1_7 l1_7.length c1_7, .slice A1_8 l1_8.length c1_8, .slice A1_9 l1_9.length c1_9] 28)).heap[w.heap.size]? = some (.cells #[.slice A0_0 l0_0.length c0_0, .slice A0_1 l0_1.length c0_1, .slice A0_2 l0_2.length c0_2, .slice A0_3 l0_3.length c0_3, .int .i64 a0_4, .int .i64 a0_5, .slice A0_6 l0_6.length c0_6, .slice A0_7 l0_7.length c0_7, .slice A0_8 l0_8.length c0_8, .slice A0_9 l0_9.length c0_9] 28 (0, 0)) := blk_alloc (blk_new w _) _
  have h2 : ((w.alloc (Obj.cells #[.slice A0_0 l0_0.length c0_0, .slice A0_1 l0_1.length c0_1, .slice A0_2 l0_2.length c0_2, .slice A0_3 l0_3.length c0_3, .int .i64 a0_4, .int .i64 a0_5, .slice A0_6 l0_6.length c0_6, .slice A0_7 l0_7.length c0_7, .slice A0_8 l0_8.length c0_8, .slice A0_9 l0_9.length c0_9] 28)).alloc (Obj.cells #[.slice A1_0 l1_0.length c1_0, .slice A1_1 l1_1.length c1_1, .slice A1_2 l1_2.length c1_2, .slice A1_3 l1_3.length c1_3, .int .i64 a1_4, .int .i64 a1_5, .slice A1_6 l1_6.length c1_6, .slice A1_7 l1_7.length c1_7, .slice A1_8 l1_8.length c1_8, .slice A1_9 l1_9.length c1_9] 28)).heap[w.heap.size + 1]? = some (.cells #[.slice A1_0 l1_0.length c1_0, .slice A1_1 l1_1.length c1_1, .slice A1_2 l1_2.length c1_2, .slice A1_3 l1_3.length c1_3, .int .i64 a1_4, .int .i64 a1_5, .slice A1_6 l1_6.length c1_6, .slice A1_7 l1_7.length c1_7, .slice A1_8 l1_8.length c1_8, .slice A1_9 l1_9.length c1_9] 28 (0, 0)) := by
    have := blk_new (w.alloc (Obj.cells #[.slice A0_0 l0_0.length c0_0, .slice A0_1 l0_1.length c0_1, .slice A0_2 l0_2.length c0_2, .slice A0_3 l0_3.length c0_3, .int .i64 a0_4, .int .i64 a0_5, .slice A0_6 l0_6.length c0_6, .slice A0_7 l0_7.length c0_7, .slice A0_8 l0_8.length c0_8, .slice A0_9 l0_9.length c0_9] 28)) (Obj.cells #[.slice A1_0 l1_0.length c1_0, .slice A1_1 l1_1.length c1_1, .slice A1_2 l1_2.length c1_2, .slice A1_3 l1_3.length c1_3, .int .i64 a1_4, .int .i64 a1_5, .slice A1_6 l1_6.length c1_6, .slice A1_7 l1_7.length c1_7, .slice A1_8 l1_8.length c1_8, .slice A1_9 l1_9.length c1_9] 28)
    simpa using this
  go_enter Try.func41, Try.ntmps41
  go_upto_region 1 with (fail)
  obtain ⟨W, hW⟩ : ∃ W, W = ((w.alloc (Obj.cells #[.slice A0_0 l0_0.length c0_0, .slice A0_1 l0_1.length c0_1, .slice A0_2 l0_2.length c0_2, .slice A0_3 l0_3.length c0_3, .int .i64 a0_4, .int .i64 a0_5, .slice A0_6 l0_6.length c0_6, .slice A0_7 l0_7.length c0_7, .slice A0_8 l0_8.length c0_8, .slice A0_9 l0_9.length c0_9] 28)).alloc (Obj.cells #[.slice A1_0 l1_0.length c1_0, .slice A1_1 l1_1.length c1_1, .slice A1_2 l1_2.length c1_2, .slice A1_3 l1_3.length c1_3, .int .i64 a1_4, .int .i64 a1_5, .slice A1_6 l1_6.length c1_6, .slice A1_7 l1_7.length c1_7, .slice A1_8 l1_8.length c1_8, .slice A1_9 l1_9.length c1_9] 28)) := ⟨_, rfl⟩
  rw [← hW] at hb h1 h2 ⊢
  clear hW
  have y0_0 := (blk_cell h1 0).trans rfl
  have y0_1 := (blk_cell h1 1).trans rfl
  have y0_2 := (blk_cell h1 2).trans rfl
  have y0_3 := (blk_cell h1 3).trans rfl
  have y0_4 := (blk_cell h1 4).trans rfl
  have y0_5 := (blk_cell h1 5).trans rfl
  have y0_6 := (blk_cell h1 6).trans rfl
  have y0_7 := (blk_cell h1 7).trans rfl
  have y0_8 := (blk_cell h1 8).trans rfl
  have y0_9 := (blk_cell h1 9).trans rfl
  have y1_0 := (blk_cell h2 0).trans rfl
  have y1_1 := (blk_cell h2 1).trans rfl
  have y1_2 := (blk_cell h2 2).trans rfl
  have y1_3 := (blk_cell h2 3).trans rfl
  have y1_4 := (blk_cell h2 4).trans rfl
  have y1_5 := (blk_cell h2 5).trans rfl
  have y1_6 := (blk_cell h2 6).trans rfl
  have y1_7 := (blk_cell h2 7).trans rfl
  have y1_8 := (blk_cell h2 8).trans rfl
  have y1_9 := (blk_cell h2 9).trans rfl
  have HB := Aside0.mk hb
  clear h1 h2 hb
  cases b0 with
  | false =>
    have hS := HS.out
    clear HS
    simp only [Bool.true_and, Bool.false_and] at hS
    subst hS
    go_wp2_with (first | (go_at_call 66; (with_reducible refine (astrolaberef15_Ints.calls (l0_0.length + 1) A0_0 c0_0 l0_0 A1_0 c1_0 l1_0 false _ ?s1 HC0_0.out ?s2 HC1_0.out HE0.out).mono ?_); (case s1 => repeat (first | exact (Kd.C_below HR0_0.out HB.out) | (with_reducible refine Kd.C_drewN ?_ _))); (case s2 => repeat (first | exact (Kd.C_below HR1_0.out HB.out) | (with_reducible refine Kd.C_drewN ?_ _))); rintro e w' ⟨rfl, ⟨nd, rfl⟩⟩))
    go_ret
    exact ⟨rfl, by repeat (first | exact HB.out | apply pw_below_drewN)⟩
  | true =>
    cases b1 with
    | false =>
      have hS := HS.out
      clear HS
      simp only [Bool.true_and, Bool.false_and] at hS
      subst hS
      go_wp2_with (first | (go_at_call 66; (with_reducible refine (astrolaberef15_Ints.calls (l0_0.length + 1) A0_0 c0_0 l0_0 A1_0 c1_0 l1_0 true _ ?s1 HC0_0.out ?s2 HC1_0.out HE0.out).mono ?_); (case s1 => repeat (first | exact (Kd.C_below HR0_0.out HB.out) | (with_reducible refine Kd.C_drewN ?_ _))); (case s2 => repeat (first | exact (Kd.C_below HR1_0.out HB.out) | (with_reducible refine Kd.C_drewN ?_ _))); rintro e w' ⟨rfl, ⟨nd, rfl⟩⟩) | (go_at_call 66; (with_reducible refine (astrolaberef15_Ints.calls (l0_1.length + 1) A0_1 c0_1 l0_1 A1_1 c1_1 l1_1 false _ ?s1 HC0_1.out ?s2 HC1_1.out HE1.out).mono ?_); (case s1 => repeat (first | exact (Kd.C_below HR0_1.out HB.out) | (with_reducible refine Kd.C_drewN ?_ _))); (case s2 => repeat (first | exact (Kd.C_below HR1_1.out HB.out) | (with_reducible refine Kd.C_drewN ?_ _))); rintro e w' ⟨rfl, ⟨nd, rfl⟩⟩))
      go_ret
      exact ⟨rfl, by repeat (first | exact HB.out | apply pw_below_drewN)⟩
    | true =>
      cases b2 with
      | false =>
        have hS := HS.out
        clear HS
        simp only [Bool.true_and, Bool.false_and] at hS
        subst hS
        go_wp2_with (first | (go_at_call 66; (with_reducible refine (astrolaberef15_Ints.calls (l0_0.length + 1) A0_0 c0_0 l0_0 A1_0 c1_0 l1_0 true _ ?s1 HC0_0.out ?s2 HC1_0.out HE0.out).mono ?_); (case s1 => repeat (first | exact (Kd.C_below HR0_0.out HB.out) | (with_reducible refine Kd.C_drewN ?_ _))); (case s2 => repeat (first | exact (Kd.C_below HR1_0.out HB.out) | (with_reducible refine Kd.C_drewN ?_ _))); rintro e w' ⟨rfl, ⟨nd, rfl⟩⟩) | (go_at_call 66; (with_reducible refine (astrolaberef15_Ints.calls (l0_1.length + 1) A0_1 c0_1 l0_1 A1_1 c1_1 l1_1 true _ ?s1 HC0_1.out ?s2 HC1_1.out HE1.out).mono ?_); (case s1 => repeat (first | exact (Kd.C_below HR0_1.out HB.out) | (with_reducible refine Kd.C_drewN ?_ _))); (case s2 => repeat (first | exact (Kd.C_below HR1_1.out HB.out) | (with_reducible refine Kd.C_drewN ?_ _))); rintro e w' ⟨rfl, ⟨nd, rfl⟩⟩) | (go_at_call 67; (with_reducible refine (astrolaberef14_Numbers.calls (l0_2.length + 1) A0_2 c0_2 l0_2 A1_2 c1_2 l1_2 false _ ?s1 HC0_2.out ?s2 HC1_2.out HE2.out).mono ?_); (case s1 => repeat (first | exact (Kd.C_below HR0_2.out HB.out) | (with_reducible refine Kd.C_drewN ?_ _))); (case s2 => repeat (first | exact (Kd.C_below HR1_2.out HB.out) | (with_reducible refine Kd.C_drewN ?_ _))); rintro e w' ⟨rfl, ⟨nd, rfl⟩⟩))
        go_ret
        exact ⟨rfl, by repeat (first | exact HB.out | apply pw_below_drewN)⟩
      | true =>
        cases b3 with
        | false =>
          have hS := HS.out
          clear HS
          simp only [Bool.true_and, Bool.false_and] at hS
          subst hS
          go_wp2_with (first | (go_at_call 66; (with_reducible refine (astrolaberef15_Ints.calls (l0_0.length + 1) A0_0 c0_0 l0_0 A1_0 c1_0 l1_0 true _ ?s1 HC0_0.out ?s2 HC1_0.out HE0.out).mono ?_); (case s1 => repeat (first | exact (Kd.C_below HR0_0.out HB.out) | (with_reducible refine Kd.C_drewN ?_ _))); (case s2 => repeat (first | exact (Kd.C_below HR1_0.out HB.out) | (with_reducible refine Kd.C_drewN ?_ _))); rintro e w' ⟨rfl, ⟨nd, rfl⟩⟩) | (go_at_call 66; (with_reducible refine (astrolaberef15_Ints.calls (l0_1.length + 1) A0_1 c0_1 l0_1 A1_1 c1_1 l1_1 true _ ?s1 HC0_1.out ?s2 HC1_1.out HE1.out).mono ?_); (case s1 => repeat (first | exact (Kd.C_below HR0_1.out HB.out) | (with_reducible refine Kd.C_drewN ?_ _))); (case s2 => repeat (first | exact (Kd.C_below HR1_1.out HB.out) | (with_reducible refine Kd.C_drewN ?_ _))); rintro e w' ⟨rfl, ⟨nd, rfl⟩⟩) | (go_at_call 67; (with_reducible refine (astrolaberef14_Numbers.calls (l0_2.length + 1) A0_2 c0_2 l0_2 A1_2 c1_2 l1_2 true _ ?s1 HC0_2.out ?s2 HC1_2.out HE2.out).mono ?_); (case s1 => repeat (first | exact (Kd.C_below HR0_2.out HB.out) | (with_reducible refine Kd.C_drewN ?_ _))); (case s2 => repeat (first | exact (Kd.C_below HR1_2.out HB.out) | (with_reducible refine Kd.C_drewN ?_ _))); rintro e w' ⟨rfl, ⟨nd, rfl⟩⟩) | (go_at_call 67; (with_reducible refine (astrolaberef14_Numbers.calls (l0_3.length + 1) A0_3 c0_3 l0_3 A1_3 c1_3 l1_3 false _ ?s1 HC0_3.out ?s2 HC1_3.out HE3.out).mono ?_); (case s1 => repeat (first | exact (Kd.C_below HR0_3.out HB.out) | (with_reducible refine Kd.C_drewN ?_ _))); (case s2 => repeat (first | exact (Kd.C_below HR1_3.out HB.out) | (with_reducible refine Kd.C_drewN ?_ _))); rintro e w' ⟨rfl, ⟨nd, rfl⟩⟩))
          go_ret
          exact ⟨rfl, by repeat (first | exact HB.out | apply pw_below_drewN)⟩
        | true =>
          by_cases c4 : a0_4 = a1_4
          case neg =>
            have e4 : (a0_4 == a1_4) = false := beq_false_of_ne c4
            have hS := HS.out
            clear HS
            simp only [Bool.true_and, Bool.false_and, e4] at hS
            subst hS
            go_wp2_with (first | (go_at_call 66; (with_reducible refine (astrolaberef15_Ints.calls (l0_0.length + 1) A0_0 c0_0 l0_0 A1_0 c1_0 l1_0 true _ ?s1 HC0_0.out ?s2 HC1_0.out HE0.out).mono ?_); (case s1 => repeat (first | exact (Kd.C_below HR0_0.out HB.out) | (with_reducible refine Kd.C_drewN ?_ _))); (case s2 => repeat (first | exact (Kd.C_below HR1_0.out HB.out) | (with_reducible refine Kd.C_drewN ?_ _))); rintro e w' ⟨rfl, ⟨nd, rfl⟩⟩) | (go_at_call 66; (with_reducible refine (astrolaberef15_Ints.calls (l0_1.length + 1) A0_1 c0_1 l0_1 A1_1 c1_1 l1_1 true _ ?s1 HC0_1.out ?s2 HC1_1.out HE1.out).mono ?_); (case s1 => repeat (first | exact (Kd.C_below HR0_1.out HB.out) | (with_reducible refine Kd.C_drewN ?_ _))); (case s2 => repeat (first | exact (Kd.C_below HR1_1.out HB.out) | (with_reducible refine Kd.C_drewN ?_ _))); rintro e w' ⟨rfl, ⟨nd, rfl⟩⟩) | (go_at_call 67; (with_reducible refine (astrolaberef14_Numbers.calls (l0_2.length + 1) A0_2 c0_2 l0_2 A1_2 c1_2 l1_2 true _ ?s1 HC0_2.out ?s2 HC1_2.out HE2.out).mono ?_); (case s1 => repeat (first | exact (Kd.C_below HR0_2.out HB.out) | (with_reducible refine Kd.C_drewN ?_ _))); (case s2 => repeat (first | exact (Kd.C_below HR1_2.out HB.out) | (with_reducible refine Kd.C_drewN ?_ _))); rintro e w' ⟨rfl, ⟨nd, rfl⟩⟩) | (go_at_call 67; (with_reducible refine (astrolaberef14_Numbers.calls (l0_3.length + 1) A0_3 c0_3 l0_3 A1_3 c1_3 l1_3 true _ ?s1 HC0_3.out ?s2 HC1_3.out HE3.out).mono ?_); (case s1 => repeat (first | exact (Kd.C_below HR0_3.out HB.out) | (with_reducible refine Kd.C_drewN ?_ _))); (case s2 => repeat (first | exact (Kd.C_below HR1_3.out HB.out) | (with_reducible refine Kd.C_drewN ?_ _))); rintro e w' ⟨rfl, ⟨nd, rfl⟩⟩))
            go_ret
            exact ⟨rfl, by repeat (first | exact HB.out | apply pw_below_drewN)⟩
          have e4 : (a0_4 == a1_4) = true := beq_iff_eq.mpr c4
          by_cases c5 : a0_5 = a1_5
          case neg =>
            have e5 : (a0_5 == a1_5) = false := beq_false_of_ne c5
            have hS := HS.out
            clear HS
            simp only [Bool.true_and, Bool.false_and, e4, e5] at hS
            subst hS
            go_wp2_with (first | (go_at_call 66; (with_reducible refine (astrolaberef15_Ints.calls (l0_0.length + 1) A0_0 c0_0 l0_0 A1_0 c1_0 l1_0 true _ ?s1 HC0_0.out ?s2 HC1_0.out HE0.out).mono ?_); (case s1 => repeat (first | exact (Kd.C_below HR0_0.out HB.out) | (with_reducible refine Kd.C_drewN ?_ _))); (case s2 => repeat (first | exact (Kd.C_below HR1_0.out HB.out) | (with_reducible refine Kd.C_drewN ?_ _))); rintro e w' ⟨rfl, ⟨nd, rfl⟩⟩) | (go_at_call 66; (with_reducible refine (astrolaberef15_Ints.calls (l0_1.length + 1) A0_1 c0_1 l0_1 A1_1 c1_1 l1_1 true _ ?s1 HC0_1.out ?s2 HC1_1.out HE1.out).mono ?_); (case s1 => repeat (first | exact (Kd.C_below HR0_1.out HB.out) | (with_reducible refine Kd.C_drewN ?_ _))); (case s2 => repeat (first | exact (Kd.C_below HR1_1.out HB.out) | (with_reducible refine Kd.C_drewN ?_ _))); rintro e w' ⟨rfl, ⟨nd, rfl⟩⟩) | (go_at_call 67; (with_reducible refine (astrolaberef14_Numbers.calls (l0_2.length + 1) A0_2 c0_2 l0_2 A1_2 c1_2 l1_2 true _ ?s1 HC0_2.out ?s2 HC1_2.out HE2.out).mono ?_); (case s1 => repeat (first | exact (Kd.C_below HR0_2.out HB.out) | (with_reducible refine Kd.C_drewN ?_ _))); (case s2 => repeat (first | exact (Kd.C_below HR1_2.out HB.out) | (with_reducible refine Kd.C_drewN ?_ _))); rintro e w' ⟨rfl, ⟨nd, rfl⟩⟩) | (go_at_call 67; (with_reducible refine (astrolaberef14_Numbers.calls (l0_3.length + 1) A0_3 c0_3 l0_3 A1_3 c1_3 l1_3 true _ ?s1 HC0_3.out ?s2 HC1_3.out HE3.out).mono ?_); (case s1 => repeat (first | exact (Kd.C_below HR0_3.out HB.out) | (with_reducible refine Kd.C_drewN ?_ _))); (case s2 => repeat (first | exact (Kd.C_below HR1_3.out HB.out) | (with_reducible refine Kd.C_drewN ?_ _))); rintro e w' ⟨rfl, ⟨nd, rfl⟩⟩))
            go_ret
            exact ⟨rfl, by repeat (first | exact HB.out | apply pw_below_drewN)⟩
          have e5 : (a0_5 == a1_5) = true := beq_iff_eq.mpr c5
          cases b6 with
          | false =>
            have hS := HS.out
            clear HS
            simp only [Bool.true_and, Bool.false_and, e4, e5] at hS
            subst hS
            go_wp2_with (first | (go_at_call 66; (with_reducible refine (astrolaberef15_Ints.calls (l0_0.length + 1) A0_0 c0_0 l0_0 A1_0 c1_0 l1_0 true _ ?s1 HC0_0.out ?s2 HC1_0.out HE0.out).mono ?_); (case s1 => repeat (first | exact (Kd.C_below HR0_0.out HB.out) | (with_reducible refine Kd.C_drewN ?_ _))); (case s2 => repeat (first | exact (Kd.C_below HR1_0.out HB.out) | (with_reducible refine Kd.C_drewN ?_ _))); rintro e w' ⟨rfl, ⟨nd, rfl⟩⟩) | (go_at_call 66; (with_reducible refine (astrolaberef15_Ints.calls (l0_1.length + 1) A0_1 c0_1 l0_1 A1_1 c1_1 l1_1 true _ ?s1 HC0_1.out ?s2 HC1_1.out HE1.out).mono ?_); (case s1 => repeat (first | exact (Kd.C_below HR0_1.out HB.out) | (with_reducible refine Kd.C_drewN ?_ _))); (case s2 => repeat (first | exact (Kd.C_below HR1_1.out HB.out) | (with_reducible refine Kd.C_drewN ?_ _))); rintro e w' ⟨rfl, ⟨nd, rfl⟩⟩) | (go_at_call 67; (with_reducible refine (astrolaberef14_Numbers.calls (l0_2.length + 1) A0_2 c0_2 l0_2 A1_2 c1_2 l1_2 true _ ?s1 HC0_2.out ?s2 HC1_2.out HE2.out).mono ?_); (case s1 => repeat (first | exact (Kd.C_below HR0_2.out HB.out) | (with_reducible refine Kd.C_drewN ?_ _))); (case s2 => repeat (first | exact (Kd.C_below HR1_2.out HB.out) | (with_reducible refine Kd.C_drewN ?_ _))); rintro e w' ⟨rfl, ⟨nd, rfl⟩⟩) | (go_at_call 67; (with_reducible refine (astrolaberef14_Numbers.calls (l0_3.length + 1) A0_3 c0_3 l0_3 A1_3 c1_3 l1_3 true _ ?s1 HC0_3.out ?s2 HC1_3.out HE3.out).mono ?_); (case s1 => repeat (first | exact (Kd.C_below HR0_3.out HB.out) | (with_reducible refine Kd.C_drewN ?_ _))); (case s2 => repeat (first | exact (Kd.C_below HR1_3.out HB.out) | (with_reducible refine Kd.C_drewN ?_ _))); rintro e w' ⟨rfl, ⟨nd, rfl⟩⟩) | (go_at_call 68; (with_reducible refine (astrolaberef15_Same.calls (l0_6.length + 1) A0_6 c0_6 l0_6 A1_6 c1_6 l1_6 false _ ?s1 HC0_6.out ?s2 HC1_6.out HE6.out).mono ?_); (case s1 => repeat (first | exact (Kd.C_below HR0_6.out HB.out) | (with_reducible refine Kd.C_drewN ?_ _))); (case s2 => repeat (first | exact (Kd.C_below HR1_6.out HB.out) | (with_reducible refine Kd.C_drewN ?_ _))); rintro e w' ⟨rfl, ⟨nd, rfl⟩⟩))
            go_ret
            exact ⟨rfl, by repeat (first | exact HB.out | apply pw_below_drewN)⟩
          | true =>
            cases b7 with
            | false =>
              have hS := HS.out
              clear HS
              simp only [Bool.true_and, Bool.false_and, e4, e5] at hS
              subst hS
              go_wp2_with (first | (go_at_call 66; (with_reducible refine (astrolaberef15_Ints.calls (l0_0.length + 1) A0_0 c0_0 l0_0 A1_0 c1_0 l1_0 true _ ?s1 HC0_0.out ?s2 HC1_0.out HE0.out).mono ?_); (case s1 => repeat (first | exact (Kd.C_below HR0_0.out HB.out) | (with_reducible refine Kd.C_drewN ?_ _))); (case s2 => repeat (first | exact (Kd.C_below HR1_0.out HB.out) | (with_reducible refine Kd.C_drewN ?_ _))); rintro e w' ⟨rfl, ⟨nd, rfl⟩⟩) | (go_at_call 66; (with_reducible refine (astrolaberef15_Ints.calls (l0_1.length + 1) A0_1 c0_1 l0_1 A1_1 c1_1 l1_1 true _ ?s1 HC0_1.out ?s2 HC1_1.out HE1.out).mono ?_); (case s1 => repeat (first | exact (Kd.C_below HR0_1.out HB.out) | (with_reducible refine Kd.C_drewN ?_ _))); (case s2 => repeat (first | exact (Kd.C_below HR1_1.out HB.out) | (with_reducible refine Kd.C_drewN ?_ _))); rintro e w' ⟨rfl, ⟨nd, rfl⟩⟩) | (go_at_call 67; (with_reducible refine (astrolaberef14_Numbers.calls (l0_2.length + 1) A0_2 c0_2 l0_2 A1_2 c1_2 l1_2 true _ ?s1 HC0_2.out ?s2 HC1_2.out HE2.out).mono ?_); (case s1 => repeat (first | exact (Kd.C_below HR0_2.out HB.out) | (with_reducible refine Kd.C_drewN ?_ _))); (case s2 => repeat (first | exact (Kd.C_below HR1_2.out HB.out) | (with_reducible refine Kd.C_drewN ?_ _))); rintro e w' ⟨rfl, ⟨nd, rfl⟩⟩) | (go_at_call 67; (with_reducible refine (astrolaberef14_Numbers.calls (l0_3.length + 1) A0_3 c0_3 l0_3 A1_3 c1_3 l1_3 true _ ?s1 HC0_3.out ?s2 HC1_3.out HE3.out).mono ?_); (case s1 => repeat (first | exact (Kd.C_below HR0_3.out HB.out) | (with_reducible refine Kd.C_drewN ?_ _))); (case s2 => repeat (first | exact (Kd.C_below HR1_3.out HB.out) | (with_reducible refine Kd.C_drewN ?_ _))); rintro e w' ⟨rfl, ⟨nd, rfl⟩⟩) | (go_at_call 68; (with_reducible refine (astrolaberef15_Same.calls (l0_6.length + 1) A0_6 c0_6 l0_6 A1_6 c1_6 l1_6 true _ ?s1 HC0_6.out ?s2 HC1_6.out HE6.out).mono ?_); (case s1 => repeat (first | exact (Kd.C_below HR0_6.out HB.out) | (with_reducible refine Kd.C_drewN ?_ _))); (case s2 => repeat (first | exact (Kd.C_below HR1_6.out HB.out) | (with_reducible refine Kd.C_drewN ?_ _))); rintro e w' ⟨rfl, ⟨nd, rfl⟩⟩) | (go_at_call 68; (with_reducible refine (astrolaberef15_Same.calls (l0_7.length + 1) A0_7 c0_7 l0_7 A1_7 c1_7 l1_7 false _ ?s1 HC0_7.out ?s2 HC1_7.out HE7.out).mono ?_); (case s1 => repeat (first | exact (Kd.C_below HR0_7.out HB.out) | (with_reducible refine Kd.C_drewN ?_ _))); (case s2 => repeat (first | exact (Kd.C_below HR1_7.out HB.out) | (with_reducible refine Kd.C_drewN ?_ _))); rintro e w' ⟨rfl, ⟨nd, rfl⟩⟩))
              go_ret
              exact ⟨rfl, by repeat (first | exact HB.out | apply pw_below_drewN)⟩
            | true =>
              cases b8 with
              | false =>
                have hS := HS.out
                clear HS
                simp only [Bool.true_and, Bool.false_and, e4, e5] at hS
                subst hS
                go_wp2_with (first | (go_at_call 66; (with_reducible refine (astrolaberef15_Ints.calls (l0_0.length + 1) A0_0 c0_0 l0_0 A1_0 c1_0 l1_0 true _ ?s1 HC0_0.out ?s2 HC1_0.out HE0.out).mono ?_); (case s1 => repeat (first | exact (Kd.C_below HR0_0.out HB.out) | (with_reducible refine Kd.C_drewN ?_ _))); (case s2 => repeat (first | exact (Kd.C_below HR1_0.out HB.out) | (with_reducible refine Kd.C_drewN ?_ _))); rintro e w' ⟨rfl, ⟨nd, rfl⟩⟩) | (go_at_call 66; (with_reducible refine (astrolaberef15_Ints.calls (l0_1.length + 1) A0_1 c0_1 l0_1 A1_1 c1_1 l1_1 true _ ?s1 HC0_1.out ?s2 HC1_1.out HE1.out).mono ?_); (case s1 => repeat (first | exact (Kd.C_below HR0_1.out HB.out) | (with_reducible refine Kd.C_drewN ?_ _))); (case s2 => repeat (first | exact (Kd.C_below HR1_1.out HB.out) | (with_reducible refine Kd.C_drewN ?_ _))); rintro e w' ⟨rfl, ⟨nd, rfl⟩⟩) | (go_at_call 67; (with_reducible refine (astrolaberef14_Numbers.calls (l0_2.length + 1) A0_2 c0_2 l0_2 A1_2 c1_2 l1_2 true _ ?s1 HC0_2.out ?s2 HC1_2.out HE2.out).mono ?_); (case s1 => repeat (first | exact (Kd.C_below HR0_2.out HB.out) | (with_reducible refine Kd.C_drewN ?_ _))); (case s2 => repeat (first | exact (Kd.C_below HR1_2.out HB.out) | (with_reducible refine Kd.C_drewN ?_ _))); rintro e w' ⟨rfl, ⟨nd, rfl⟩⟩) | (go_at_call 67; (with_reducible refine (astrolaberef14_Numbers.calls (l0_3.length + 1) A0_3 c0_3 l0_3 A1_3 c1_3 l1_3 true _ ?s1 HC0_3.out ?s2 HC1_3.out HE3.out).mono ?_); (case s1 => repeat (first | exact (Kd.C_below HR0_3.out HB.out) | (with_reducible refine Kd.C_drewN ?_ _))); (case s2 => repeat (first | exact (Kd.C_below HR1_3.out HB.out) | (with_reducible refine Kd.C_drewN ?_ _))); rintro e w' ⟨rfl, ⟨nd, rfl⟩⟩) | (go_at_call 68; (with_reducible refine (astrolaberef15_Same.calls (l0_6.length + 1) A0_6 c0_6 l0_6 A1_6 c1_6 l1_6 true _ ?s1 HC0_6.out ?s2 HC1_6.out HE6.out).mono ?_); (case s1 => repeat (first | exact (Kd.C_below HR0_6.out HB.out) | (with_reducible refine Kd.C_drewN ?_ _))); (case s2 => repeat (first | exact (Kd.C_below HR1_6.out HB.out) | (with_reducible refine Kd.C_drewN ?_ _))); rintro e w' ⟨rfl, ⟨nd, rfl⟩⟩) | (go_at_call 68; (with_reducible refine (astrolaberef15_Same.calls (l0_7.length + 1) A0_7 c0_7 l0_7 A1_7 c1_7 l1_7 true _ ?s1 HC0_7.out ?s2 HC1_7.out HE7.out).mono ?_); (case s1 => repeat (first | exact (Kd.C_below HR0_7.out HB.out) | (with_reducible refine Kd.C_drewN ?_ _))); (case s2 => repeat (first | exact (Kd.C_below HR1_7.out HB.out) | (with_reducible refine Kd.C_drewN ?_ _))); rintro e w' ⟨rfl, ⟨nd, rfl⟩⟩) | (go_at_call 68; (with_reducible refine (astrolaberef15_Same.calls (l0_8.length + 1) A0_8 c0_8 l0_8 A1_8 c1_8 l1_8 false _ ?s1 HC0_8.out ?s2 HC1_8.out HE8.out).mono ?_); (case s1 => repeat (first | exact (Kd.C_below HR0_8.out HB.out) | (with_reducible refine Kd.C_drewN ?_ _))); (case s2 => repeat (first | exact (Kd.C_below HR1_8.out HB.out) | (with_reducible refine Kd.C_drewN ?_ _))); rintro e w' ⟨rfl, ⟨nd, rfl⟩⟩))
                go_ret
                exact ⟨rfl, by repeat (first | exact HB.out | apply pw_below_drewN)⟩
              | true =>
                cases b9 with
                | false =>
                  have hS := HS.out
                  clear HS
                  simp only [Bool.true_and, Bool.false_and, e4, e5] at hS
                  subst hS
                  go_wp2_with (first | (go_at_call 66; (with_reducible refine (astrolaberef15_Ints.calls (l0_0.length + 1) A0_0 c0_0 l0_0 A1_0 c1_0 l1_0 true _ ?s1 HC0_0.out ?s2 HC1_0.out HE0.out).mono ?_); (case s1 => repeat (first | exact (Kd.C_below HR0_0.out HB.out) | (with_reducible refine Kd.C_drewN ?_ _))); (case s2 => repeat (first | exact (Kd.C_below HR1_0.out HB.out) | (with_reducible refine Kd.C_drewN ?_ _))); rintro e w' ⟨rfl, ⟨nd, rfl⟩⟩) | (go_at_call 66; (with_reducible refine (astrolaberef15_Ints.calls (l0_1.length + 1) A0_1 c0_1 l0_1 A1_1 c1_1 l1_1 true _ ?s1 HC0_1.out ?s2 HC1_1.out HE1.out).mono ?_); (case s1 => repeat (first | exact (Kd.C_below HR0_1.out HB.out) | (with_reducible refine Kd.C_drewN ?_ _))); (case s2 => repeat (first | exact (Kd.C_below HR1_1.out HB.out) | (with_reducible refine Kd.C_drewN ?_ _))); rintro e w' ⟨rfl, ⟨nd, rfl⟩⟩) | (go_at_call 67; (with_reducible refine (astrolaberef14_Numbers.calls (l0_2.length + 1) A0_2 c0_2 l0_2 A1_2 c1_2 l1_2 true _ ?s1 HC0_2.out ?s2 HC1_2.out HE2.out).mono ?_); (case s1 => repeat (first | exact (Kd.C_below HR0_2.out HB.out) | (with_reducible refine Kd.C_drewN ?_ _))); (case s2 => repeat (first | exact (Kd.C_below HR1_2.out HB.out) | (with_reducible refine Kd.C_drewN ?_ _))); rintro e w' ⟨rfl, ⟨nd, rfl⟩⟩) | (go_at_call 67; (with_reducible refine (astrolaberef14_Numbers.calls (l0_3.length + 1) A0_3 c0_3 l0_3 A1_3 c1_3 l1_3 true _ ?s1 HC0_3.out ?s2 HC1_3.out HE3.out).mono ?_); (case s1 => repeat (first | exact (Kd.C_below HR0_3.out HB.out) | (with_reducible refine Kd.C_drewN ?_ _))); (case s2 => repeat (first | exact (Kd.C_below HR1_3.out HB.out) | (with_reducible refine Kd.C_drewN ?_ _))); rintro e w' ⟨rfl, ⟨nd, rfl⟩⟩) | (go_at_call 68; (with_reducible refine (astrolaberef15_Same.calls (l0_6.length + 1) A0_6 c0_6 l0_6 A1_6 c1_6 l1_6 true _ ?s1 HC0_6.out ?s2 HC1_6.out HE6.out).mono ?_); (case s1 => repeat (first | exact (Kd.C_below HR0_6.out HB.out) | (with_reducible refine Kd.C_drewN ?_ _))); (case s2 => repeat (first | exact (Kd.C_below HR1_6.out HB.out) | (with_reducible refine Kd.C_drewN ?_ _))); rintro e w' ⟨rfl, ⟨nd, rfl⟩⟩) | (go_at_call 68; (with_reducible refine (astrolaberef15_Same.calls (l0_7.length + 1) A0_7 c0_7 l0_7 A1_7 c1_7 l1_7 true _ ?s1 HC0_7.out ?s2 HC1_7.out HE7.out).mono ?_); (case s1 => repeat (first | exact (Kd.C_below HR0_7.out HB.out) | (with_reducible refine Kd.C_drewN ?_ _))); (case s2 => repeat (first | exact (Kd.C_below HR1_7.out HB.out) | (with_reducible refine Kd.C_drewN ?_ _))); rintro e w' ⟨rfl, ⟨nd, rfl⟩⟩) | (go_at_call 68; (with_reducible refine (astrolaberef15_Same.calls (l0_8.length + 1) A0_8 c0_8 l0_8 A1_8 c1_8 l1_8 true _ ?s1 HC0_8.out ?s2 HC1_8.out HE8.out).mono ?_); (case s1 => repeat (first | exact (Kd.C_below HR0_8.out HB.out) | (with_reducible refine Kd.C_drewN ?_ _))); (case s2 => repeat (first | exact (Kd.C_below HR1_8.out HB.out) | (with_reducible refine Kd.C_drewN ?_ _))); rintro e w' ⟨rfl, ⟨nd, rfl⟩⟩) | (go_at_call 68; (with_reducible refine (astrolaberef15_Same.calls (l0_9.length + 1) A0_9 c0_9 l0_9 A1_9 c1_9 l1_9 false _ ?s1 HC0_9.out ?s2 HC1_9.out HE9.out).mono ?_); (case s1 => repeat (first | exact (Kd.C_below HR0_9.out HB.out) | (with_reducible refine Kd.C_drewN ?_ _))); (case s2 => repeat (first | exact (Kd.C_below HR1_9.out HB.out) | (with_reducible refine Kd.C_drewN ?_ _))); rintro e w' ⟨rfl, ⟨nd, rfl⟩⟩))
                  go_ret
                  exact ⟨rfl, by repeat (first | exact HB.out | apply pw_below_drewN)⟩
                | true =>
                  have hS := HS.out
                  clear HS
                  simp only [Bool.true_and, Bool.false_and, e4, e5] at hS
                  subst hS
                  go_wp2_with (first | (go_at_call 66; (with_reducible refine (astrolaberef15_Ints.calls (l0_0.length + 1) A0_0 c0_0 l0_0 A1_0 c1_0 l1_0 true _ ?s1 HC0_0.out ?s2 HC1_0.out HE0.out).mono ?_); (case s1 => repeat (first | exact (Kd.C_below HR0_0.out HB.out) | (with_reducible refine Kd.C_drewN ?_ _))); (case s2 => repeat (first | exact (Kd.C_below HR1_0.out HB.out) | (with_reducible refine Kd.C_drewN ?_ _))); rintro e w' ⟨rfl, ⟨nd, rfl⟩⟩) | (go_at_call 66; (with_reducible refine (astrolaberef15_Ints.calls (l0_1.length + 1) A0_1 c0_1 l0_1 A1_1 c1_1 l1_1 true _ ?s1 HC0_1.out ?s2 HC1_1.out HE1.out).mono ?_); (case s1 => repeat (first | exact (Kd.C_below HR0_1.out HB.out) | (with_reducible refine Kd.C_drewN ?_ _))); (case s2 => repeat (first | exact (Kd.C_below HR1_1.out HB.out) | (with_reducible refine Kd.C_drewN ?_ _))); rintro e w' ⟨rfl, ⟨nd, rfl⟩⟩) | (go_at_call 67; (with_reducible refine (astrolaberef14_Numbers.calls (l0_2.length + 1) A0_2 c0_2 l0_2 A1_2 c1_2 l1_2 true _ ?s1 HC0_2.out ?s2 HC1_2.out HE2.out).mono ?_); (case s1 => repeat (first | exact (Kd.C_below HR0_2.out HB.out) | (with_reducible refine Kd.C_drewN ?_ _))); (case s2 => repeat (first | exact (Kd.C_below HR1_2.out HB.out) | (with_reducible refine Kd.C_drewN ?_ _))); rintro e w' ⟨rfl, ⟨nd, rfl⟩⟩) | (go_at_call 67; (with_reducible refine (astrolaberef14_Numbers.calls (l0_3.length + 1) A0_3 c0_3 l0_3 A1_3 c1_3 l1_3 true _ ?s1 HC0_3.out ?s2 HC1_3.out HE3.out).mono ?_); (case s1 => repeat (first | exact (Kd.C_below HR0_3.out HB.out) | (with_reducible refine Kd.C_drewN ?_ _))); (case s2 => repeat (first | exact (Kd.C_below HR1_3.out HB.out) | (with_reducible refine Kd.C_drewN ?_ _))); rintro e w' ⟨rfl, ⟨nd, rfl⟩⟩) | (go_at_call 68; (with_reducible refine (astrolaberef15_Same.calls (l0_6.length + 1) A0_6 c0_6 l0_6 A1_6 c1_6 l1_6 true _ ?s1 HC0_6.out ?s2 HC1_6.out HE6.out).mono ?_); (case s1 => repeat (first | exact (Kd.C_below HR0_6.out HB.out) | (with_reducible refine Kd.C_drewN ?_ _))); (case s2 => repeat (first | exact (Kd.C_below HR1_6.out HB.out) | (with_reducible refine Kd.C_drewN ?_ _))); rintro e w' ⟨rfl, ⟨nd, rfl⟩⟩) | (go_at_call 68; (with_reducible refine (astrolaberef15_Same.calls (l0_7.length + 1) A0_7 c0_7 l0_7 A1_7 c1_7 l1_7 true _ ?s1 HC0_7.out ?s2 HC1_7.out HE7.out).mono ?_); (case s1 => repeat (first | exact (Kd.C_below HR0_7.out HB.out) | (with_reducible refine Kd.C_drewN ?_ _))); (case s2 => repeat (first | exact (Kd.C_below HR1_7.out HB.out) | (with_reducible refine Kd.C_drewN ?_ _))); rintro e w' ⟨rfl, ⟨nd, rfl⟩⟩) | (go_at_call 68; (with_reducible refine (astrolaberef15_Same.calls (l0_8.length + 1) A0_8 c0_8 l0_8 A1_8 c1_8 l1_8 true _ ?s1 HC0_8.out ?s2 HC1_8.out HE8.out).mono ?_); (case s1 => repeat (first | exact (Kd.C_below HR0_8.out HB.out) | (with_reducible refine Kd.C_drewN ?_ _))); (case s2 => repeat (first | exact (Kd.C_below HR1_8.out HB.out) | (with_reducible refine Kd.C_drewN ?_ _))); rintro e w' ⟨rfl, ⟨nd, rfl⟩⟩) | (go_at_call 68; (with_reducible refine (astrolaberef15_Same.calls (l0_9.length + 1) A0_9 c0_9 l0_9 A1_9 c1_9 l1_9 true _ ?s1 HC0_9.out ?s2 HC1_9.out HE9.out).mono ?_); (case s1 => repeat (first | exact (Kd.C_below HR0_9.out HB.out) | (with_reducible refine Kd.C_drewN ?_ _))); (case s2 => repeat (first | exact (Kd.C_below HR1_9.out HB.out) | (with_reducible refine Kd.C_drewN ?_ _))); rintro e w' ⟨rfl, ⟨nd, rfl⟩⟩))
                  go_ret
                  exact ⟨rfl, by repeat (first | exact HB.out | apply pw_below_drewN)⟩
theorem equal12_any (A0_0 : Option Addr) (c0_0 : Nat) (l0_0 : List Int) (A0_1 : Option Addr) (c0_1 : Nat) (l0_1 : List Int) (A0_2 : Option Addr) (c0_2 : Nat) (l0_2 : List Int) (A0_3 : Option Addr) (c0_3 : Nat) (l0_3 : List Int) (a0_4 : Int) (a0_5 : Int) (A0_6 : Option Addr) (c0_6 : Nat) (l0_6 : List S47) (A0_7 : Option Addr) (c0_7 : Nat) (l0_7 : List S47) (A0_8 : Option Addr) (c0_8 : Nat) (l0_8 : List S47) (A0_9 : Option Addr) (c0_9 : Nat) (l0_9 : List S47) (A1_0 : Option Addr) (c1_0 : Nat) (l1_0 : List Int) (A1_1 : Option Addr) (c1_1 : Nat) (l1_1 : List Int) (A1_2 : Option Addr) (c1_2 : Nat) (l1_2 : List Int) (A1_3 : Option Addr) (c1_3 : Nat) (l1_3 : List Int) (a1_4 : Int) (a1_5 : Int) (A1_6 : Option Addr) (c1_6 : Nat) (l1_6 : List S47) (A1_7 : Option Addr) (c1_7 : Nat) (l1_7 : List S47) (A1_8 : Option Addr) (c1_8 : Nat) (l1_8 : List S47) (A1_9 : Option Addr) (c1_9 : Nat) (l1_9 : List S47) (w : World) (hr0_0 : Kd.C (Kd.int .i64) w A0_0 l0_0.length l0_0) (hc0_0 : l0_0.length ≤ c0_0) (hr0_1 : Kd.C (Kd.int .i64) w A0_1 l0_1.length l0_1) (hc0_1 : l0_1.length ≤ c0_1) (hr0_2 : Kd.C (Kd.int .i64) w A0_2 l0_2.length l0_2) (hc0_2 : l0_2.length ≤ c0_2) (hr0_3 : Kd.C (Kd.int .i64) w A0_3 l0_3.length l0_3) (hc0_3 : l0_3.length ≤ c0_3) (hr0_6 : Kd.C k47 w A0_6 l0_6.length l0_6) (hc0_6 : l0_6.length ≤ c0_6) (hr0_7 : Kd.C k47 w A0_7 l0_7.length l0_7) (hc0_7 : l0_7.length ≤ c0_7) (hr0_8 : Kd.C k47 w A0_8 l0_8.length l0_8) (hc0_8 : l0_8.length ≤ c0_8) (hr0_9 : Kd.C k47 w A0_9 l0_9.length l0_9) (hc0_9 : l0_9.length ≤ c0_9) (hr1_0 : Kd.C (Kd.int .i64) w A1_0 l1_0.length l1_0) (hc1_0 : l1_0.length ≤ c1_0) (hr1_1 : Kd.C (Kd.int .i64) w A1_1 l1_1.length l1_1) (hc1_1 : l1_1.length ≤ c1_1) (hr1_2 : Kd.C (Kd.int .i64) w A1_2 l1_2.length l1_2) (hc1_2 : l1_2.length ≤ c1_2) (hr1_3 : Kd.C (Kd.int .i64) w A1_3 l1_3.length l1_3) (hc1_3 : l1_3.length ≤ c1_3) (hr1_6 : Kd.C k47 w A1_6 l1_6.length l1_6) (hc1_6 : l1_6.length ≤ c1_6) (hr1_7 : Kd.C k47 w A1_7 l1_7.length l1_7) (hc1_7 : l1_7.length ≤ c1_7) (hr1_8 : Kd.C k47 w A1_8 l1_8.length l1_8) (hc1_8 : l1_8.length ≤ c1_8) (hr1_9 : Kd.C k47 w A1_9 l1_9.length l1_9) (hc1_9 : l1_9.length ≤ c1_9) (hlen : l0_0.length ≤ 4000000000000000000 ∧ l0_1.length ≤ 4000000000000000000 ∧ l0_2.length ≤ 4000000000000000000 ∧ l0_3.length ≤ 4000000000000000000 ∧ l0_6.length ≤ 4000000000000000000 ∧ l0_7.length ≤ 4000000000000000000 ∧ l0_8.length ≤ 4000000000000000000 ∧ l0_9.length ≤ 4000000000000000000) :
    Calls Try.prog 12 #[.agg #[.slice A0_0 l0_0.length c0_0, .slice A0_1 l0_1.length c0_1, .slice A0_2 l0_2.length c0_2, .slice A0_3 l0_3.length c0_3, .int .i64 a0_4, .int .i64 a0_5, .slice A0_6 l0_6.length c0_6, .slice A0_7 l0_7.length c0_7, .slice A0_8 l0_8.length c0_8, .slice A0_9 l0_9.length c0_9], .agg #[.slice A1_0 l1_0.length c1_0, .slice A1_1 l1_1.length c1_1, .slice A1_2 l1_2.length c1_2, .slice A1_3 l1_3.length c1_3, .int .i64 a1_4, .int .i64 a1_5, .slice A1_6 l1_6.length c1_6, .slice A1_7 l1_7.length c1_7, .slice A1_8 l1_8.length c1_8, .slice A1_9 l1_9.length c1_9]] w fun e w' => e = .returned (.bool (eqF l0_0 l0_1 l0_2 l0_3 a0_4 a0_5 l0_6 l0_7 l0_8 l0_9 l1_0 l1_1 l1_2 l1_3 a1_4 a1_5 l1_6 l1_7 l1_8 l1_9)) ∧ Below w.heap.size w w' := by
  have hb : Below w.heap.size w ((w.alloc (Obj.cells #[.slice A0_0 l0_0.length c0_0, .slice A0_1 l0_1.length c0_1, .slice A0_2 l0_2.length c0_2, .slice A0_3 l0_3.length c0_3, .int .i64 a0_4, .int .i64 a0_5, .slice A0_6 l0_6.length c0_6, .slice A0_7 l0_7.length c0_7, .slice A0_8 l0_8.length c0_8, .slice A0_9 l0_9.length c0_9] 28)).alloc (Obj.cells #[.slice A1_0 l1_0.length c1_0, .slice A1_1 l1_1.length c1_1, .slice A1_2 l1_2.length c1_2, .slice A1_3 l1_3.length c1_3, .int .i64 a1_4, .int .i64 a1_5, .slice A1_6 l1_6.length c1_6, .slice A1_7 l1_7.length c1_7, .slice A1_8 l1_8.length c1_8, .slice A1_9 l1_9.length c1_9] 28)) := ((Below.refl _ _).alloc (Nat.le_refl _) _).alloc (by simp) _
  have h1 : ((w.alloc (Obj.cells #[.slice A0_0 l0_0.length c0_0, .slice A0_1 l0_1.length c0_1, .slice A0_2 l0_2.length c0_2, .slice A0_3 l0_3.length c0_3, .int .i64 a0_4, .int .i64 a0_5, .slice A0_6 l0_6.length c0_6, .slice A0_7 l0_7.length c0_7, .slice A0_8 l0_8.length c0_8, .slice A0_9 l0_9.length c0_9] 28)).alloc (Obj.cells #[.slice A1_0 l1_0.length c1_0, .slice A1_1 l1_1.length c1_1, .slice A1_2 l1_2.length c1_2, .slice A1_3 l1_3.length c1_3, .int .i64 a1_4, .int .i64 a1_5, .slice A1_6 l1_6.length c1_6, .slice A1_7 l1_7.length c1_7, .slice A1_8 l1_8.length c1_8, .slice A1_9 l1_9.length c1_9] 28)).heap[w.heap.size]? = some (.cells #[.slice A0_0 l0_0.length c0_0, .slice A0_1 l0_1.length c0_1, .slice A0_2 l0_2.length c0_2, .slice A0_3 l0_3.length c0_3, .int .i64 a0_4, .int .i64 a0_5, .slice A0_6 l0_6.length c0_6, .slice A0_7 l0_7.length c0_7, .slice A0_8 l0_8.length c0_8, .slice A0_9 l0_9.length c0_9] 28 (0, 0)) := blk_alloc (blk_new w _) _
  have h2 : ((w.alloc (Obj.cells #[.slice A0_0 l0_0.length c0_0, .slice A0_1 l0_1.length c0_1, .slice A0_2 l0_2.length c0_2, .slice A0_3 l0_3.length c0_3, .int .i64 a0_4, .int .i64 a0_5, .slice A0_6 l0_6.length c0_6, .slice A0_7 l0_7.length c0_7, .slice A0_8 l0_8.length c0_8, .slice A0_9 l0_9.length c0_9] 28)).alloc (Obj.cells #[.slice A1_0 l1_0.length c1_0, .slice A1_1 l1_1.length c1_1, .slice A1_2 l1_2.length c1_2, .slice A1_3 l1_3.length c1_3, .int .i64 a1_4, .int .i64 a1_5, .slice A1_6 l1_6.length c1_6, .slice A1_7 l1_7.length c1_7, .slice A1_8 l1_8.length c1_8, .slice A1_9 l1_9.length c1_9] 28)).heap[w.heap.size + 1]? = some (.cells #[.slice A1_0 l1_0.length c1_0, .slice A1_1 l1_1.length c1_1, .slice A1_2 l1_2.length c1_2, .slice A1_3 l1_3.length c1_3, .int .i64 a1_4, .int .i64 a1_5, .slice A1_6 l1_6.length c1_6, .slice A1_7 l1_7.length c1_7, .slice A1_8 l1_8.length c1_8, .slice A1_9 l1_9.length c1_9] 28 (0, 0)) := by
    have := blk_new (w.alloc (Obj.cells #[.slice A0_0 l0_0.length c0_0, .slice A0_1 l0_1.length c0_1, .slice A0_2 l0_2.length c0_2, .slice A0_3 l0_3.length c0_3, .int .i64 a0_4, .int .i64 a0_5, .slice A0_6 l0_6.length c0_6, .slice A0_7 l0_7.length c0_7, .slice A0_8 l0_8.length c0_8, .slice A0_9 l0_9.length c0_9] 28)) (Obj.cells #[.slice A1_0 l1_0.length c1_0, .slice A1_1 l1_1.length c1_1, .slice A1_2 l1_2.length c1_2, .slice A1_3 l1_3.length c1_3, .int .i64 a1_4, .int .i64 a1_5, .slice A1_6 l1_6.length c1_6, .slice A1_7 l1_7.length c1_7, .slice A1_8 l1_8.length c1_8, .slice A1_9 l1_9.length c1_9] 28)
    simpa using this
  have HX := fun (W : World) (hb : Below w.heap.size w W) => equal41_any A0_0 c0_0 l0_0 A0_1 c0_1 l0_1 A0_2 c0_2 l0_2 A0_3 c0_3 l0_3 a0_4 a0_5 A0_6 c0_6 l0_6 A0_7 c0_7 l0_7 A0_8 c0_8 l0_8 A0_9 c0_9 l0_9 A1_0 c1_0 l1_0 A1_1 c1_1 l1_1 A1_2 c1_2 l1_2 A1_3 c1_3 l1_3 a1_4 a1_5 A1_6 c1_6 l1_6 A1_7 c1_7 l1_7 A1_8 c1_8 l1_8 A1_9 c1_9 l1_9 W (Kd.C_below hr0_0 hb) hc0_0 (Kd.C_below hr0_1 hb) hc0_1 (Kd.C_below hr0_2 hb) hc0_2 (Kd.C_below hr0_3 hb) hc0_3 (Kd.C_below hr0_6 hb) hc0_6 (Kd.C_below hr0_7 hb) hc0_7 (Kd.C_below hr0_8 hb) hc0_8 (Kd.C_below hr0_9 hb) hc0_9 (Kd.C_below hr1_0 hb) hc1_0 (Kd.C_below hr1_1 hb) hc1_1 (Kd.C_below hr1_2 hb) hc1_2 (Kd.C_below hr1_3 hb) hc1_3 (Kd.C_below hr1_6 hb) hc1_6 (Kd.C_below hr1_7 hb) hc1_7 (Kd.C_below hr1_8 hb) hc1_8 (Kd.C_below hr1_9 hb) hc1_9 hlen
  have HY := Aside0.mk HX
  clear HX hlen hr0_0 hc0_0 hr0_1 hc0_1 hr0_2 hc0_2 hr0_3 hc0_3 hr0_6 hc0_6 hr0_7 hc0_7 hr0_8 hc0_8 hr0_9 hc0_9 hr1_0 hc1_0 hr1_1 hc1_1 hr1_2 hc1_2 hr1_3 hc1_3 hr1_6 hc1_6 hr1_7 hc1_7 hr1_8 hc1_8 hr1_9 hc1_9
  go_enter Try.func12, Try.ntmps12
  go_upto_region 1 with (fail)
  obtain ⟨W, hW⟩ : ∃ W, W = ((w.alloc (Obj.cells #[.slice A0_0 l0_0.length c0_0, .slice A0_1 l0_1.length c0_1, .slice A0_2 l0_2.length c0_2, .slice A0_3 l0_3.length c0_3, .int .i64 a0_4, .int .i64 a0_5, .slice A0_6 l0_6.length c0_6, .slice A0_7 l0_7.length c0_7, .slice A0_8 l0_8.length c0_8, .slice A0_9 l0_9.length c0_9] 28)).alloc (Obj.cells #[.slice A1_0 l1_0.length c1_0, .slice A1_1 l1_1.length c1_1, .slice A1_2 l1_2.length c1_2, .slice A1_3 l1_3.length c1_3, .int .i64 a1_4, .int .i64 a1_5, .slice A1_6 l1_6.length c1_6, .slice A1_7 l1_7.length c1_7, .slice A1_8 l1_8.length c1_8, .slice A1_9 l1_9.length c1_9] 28)) := ⟨_, rfl⟩
  rw [← hW] at hb h1 h2 ⊢
  clear hW
  have y0_0 := (blk_cell h1 0).trans rfl
  have y0_1 := (blk_cell h1 1).trans rfl
  have y0_2 := (blk_cell h1 2).trans rfl
  have y0_3 := (blk_cell h1 3).trans rfl
  have y0_4 := (blk_cell h1 4).trans rfl
  have y0_5 := (blk_cell h1 5).trans rfl
  have y0_6 := (blk_cell h1 6).trans rfl
  have y0_7 := (blk_cell h1 7).trans rfl
  have y0_8 := (blk_cell h1 8).trans rfl
  have y0_9 := (blk_cell h1 9).trans rfl
  have y1_0 := (blk_cell h2 0).trans rfl
  have y1_1 := (blk_cell h2 1).trans rfl
  have y1_2 := (blk_cell h2 2).trans rfl
  have y1_3 := (blk_cell h2 3).trans rfl
  have y1_4 := (blk_cell h2 4).trans rfl
  have y1_5 := (blk_cell h2 5).trans rfl
  have y1_6 := (blk_cell h2 6).trans rfl
  have y1_7 := (blk_cell h2 7).trans rfl
  have y1_8 := (blk_cell h2 8).trans rfl
  have y1_9 := (blk_cell h2 9).trans rfl
  have HB := Aside0.mk hb
  clear h1 h2 hb
  go_wp2_with (go_at_call 41; refine (HY.out W HB.out).mono ?_; rintro e w' ⟨rfl, hb2⟩; have HB2 := Aside0.mk hb2; clear hb2)
  go_ret
  exact ⟨rfl, HB.out.trans (HB2.out.mono HB.out.size)⟩
#print axioms equal12_any
end Go.Proofs.Ytccolpkjgjjipaa.K
