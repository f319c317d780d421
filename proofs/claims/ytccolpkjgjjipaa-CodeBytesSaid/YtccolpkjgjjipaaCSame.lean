/- The Go function code.Same. -/
import Derived.Test.YtccolpkjgjjipaaCLen
import Derived.Test.YtccolpkjgjjipaaK8
namespace Go.Proofs.Ytccolpkjgjjipaa.K
set_option linter.unusedVariables false
set_option linter.unusedSimpArgs false
open Go.RowKit Go.Proofs.YtccolpkjgjjipaaW.PrintWords Go.Proofs.YtccolpkjgjjipaaW.PrintLast Go.Proofs.YtccolpkjgjjipaaW.PrintMore
theorem ieq_loop (a b : List Int) (hab : a.length = b.length) (hl : a.length ≤ 4000000000000000000) : ∀ (d i k : Nat), i + d = a.length → d < k → slices_Equal_int_int.l0 k a b (a.length : Int) (i : Int) = some (a.drop i == b.drop i)
  | 0, i, k, hi, hk => by
    obtain ⟨k, rfl⟩ : ∃ m, k = m + 1 := ⟨k - 1, by omega⟩
    rw [slices_Equal_int_int.l0, if_neg (by omega), List.drop_of_length_le (by omega), List.drop_of_length_le (by omega)]
    rfl
  | d + 1, i, k, hi, hk => by
    obtain ⟨k, rfl⟩ : ∃ m, k = m + 1 := ⟨k - 1, by omega⟩
    have h1 : i < a.length := by omega
    have h2 : i < b.length := by omega
    rw [slices_Equal_int_int.l0, if_pos (by omega), if_pos (by omega), if_pos (by omega), if_pos (by omega), rd_nat h1, rd_nat h2, List.drop_eq_getElem_cons h1, List.drop_eq_getElem_cons h2]
    show _ = some (a[i] == b[i] && (a.drop (i + 1) == b.drop (i + 1)))
    by_cases e : a[i] = b[i]
    · rw [if_pos e, wrap_i64 (by omega) (by omega), ← Int.natCast_succ, ieq_loop a b hab hl d (i + 1) k (by omega) (by omega), e, beq_self_eq_true, Bool.true_and]
    · rw [if_neg e, beq_false_of_ne e, Bool.false_and]
theorem ieq_f (a b : List Int) (hl : a.length ≤ 4000000000000000000) : slices_Equal_int_int.f (a.length + 1) a b = some (a == b) := by
  unfold slices_Equal_int_int.f
  by_cases h : a.length = b.length
  · rw [if_pos (by omega)]
    have := ieq_loop a b h hl a.length 0 (a.length + 1) (by omega) (by omega)
    simpa using this
  · rw [if_neg (by omega)]
    have : (a == b) = false := by
      rw [beq_eq_false_iff_ne]
      intro e
      rw [e] at h
      exact h rfl
    rw [this]
theorem ieq64_loop : ∀ (k : Nat) (a b : List Int) (n i : Int), slices_Equal_int64_int64.l0 k a b n i = slices_Equal_int_int.l0 k a b n i
  | 0, _, _, _, _ => rfl
  | k + 1, a, b, n, i => by rw [slices_Equal_int64_int64.l0, slices_Equal_int_int.l0, ieq64_loop k]
theorem ieq64_f (a b : List Int) (hl : a.length ≤ 4000000000000000000) : slices_Equal_int64_int64.f (a.length + 1) a b = some (a == b) := by
  rw [← ieq_f a b hl, slices_Equal_int64_int64.f, slices_Equal_int_int.f, ieq64_loop]
theorem seq_loop (a b : List S47) (hab : a.length = b.length) (hl : a.length ≤ 4000000000000000000) : ∀ (d i k : Nat), i + d = a.length → d < k → api_Ins.l0 k a b (a.length : Int) (i : Int) = some (eqS (a.drop i) (b.drop i))
  | 0, i, k, hi, hk => by
    obtain ⟨k, rfl⟩ : ∃ m, k = m + 1 := ⟨k - 1, by omega⟩
    rw [api_Ins.l0, if_neg (by omega), List.drop_of_length_le (by omega), List.drop_of_length_le (by omega)]
    rfl
  | d + 1, i, k, hi, hk => by
    obtain ⟨k, rfl⟩ : ∃ m, k = m + 1 := ⟨k - 1, by omega⟩
    have h1 : i < a.length := by omega
    have h2 : i < b.length := by omega
    rw [api_Ins.l0, if_pos (by omega), if_pos (by omega), if_pos (by omega), if_pos (by omega), rd47_nat h1, rd47_nat h2, List.drop_eq_getElem_cons h1, List.drop_eq_getElem_cons h2, eqS]
    have hn : (!((a[i]).f0 == (b[i]).f0) || (!((a[i]).f1 == (b[i]).f1) || (!((a[i]).f2 == (b[i]).f2) || (!((a[i]).f3 == (b[i]).f3) || (!((a[i]).f4 == (b[i]).f4) || (!((a[i]).f5 == (b[i]).f5))))))) = !(eqI a[i] b[i]) := by
      simp only [eqI, Bool.not_and]
    rw [hn]
    by_cases e : eqI a[i] b[i] = true
    · rw [if_neg (by rw [e]; decide), wrap_i64 (by omega) (by omega), ← Int.natCast_succ, seq_loop a b hab hl d (i + 1) k (by omega) (by omega), e, Bool.true_and]
    · rw [Bool.not_eq_true] at e
      rw [if_pos (by rw [e]; rfl), e, Bool.false_and]
theorem seq_f (a b : List S47) (hl : a.length ≤ 4000000000000000000) : api_Ins.f (a.length + 1) a b = some (eqS a b) := by
  unfold api_Ins.f
  by_cases h : a.length = b.length
  · rw [if_pos (by omega)]
    have := seq_loop a b h hl a.length 0 (a.length + 1) (by omega) (by omega)
    simpa using this
  · rw [if_neg (by omega)]
    have : eqS a b = false := by
      rw [← Bool.not_eq_true, eqS_iff]
      intro e
      rw [e] at h
      exact h rfl
    rw [this]
def sameF (l0_0 : List Int) (l0_1 : List Int) (l0_2 : List Int) (l0_3 : List Int) (a0_4 : Int) (a0_5 : Int) (l0_6 : List S47) (l0_7 : List S47) (l0_8 : List S47) (l0_9 : List S47) (l1_0 : List Int) (l1_1 : List Int) (l1_2 : List Int) (l1_3 : List Int) (a1_4 : Int) (a1_5 : Int) (l1_6 : List S47) (l1_7 : List S47) (l1_8 : List S47) (l1_9 : List S47) : Bool :=
  eqS l0_6 l1_6 && (eqS l0_7 l1_7 && (eqS l0_8 l1_8 && (eqS l0_9 l1_9 && (l0_0 == l1_0 && (l0_1 == l1_1 && (l0_2 == l1_2 && (l0_3 == l1_3 && (a0_4 == a1_4 && a0_5 == a1_5))))))))
def code_Same.f (l0_0 : List Int) (l0_1 : List Int) (l0_2 : List Int) (l0_3 : List Int) (a0_4 : Int) (a0_5 : Int) (l0_6 : List S47) (l0_7 : List S47) (l0_8 : List S47) (l0_9 : List S47) (l1_0 : List Int) (l1_1 : List Int) (l1_2 : List Int) (l1_3 : List Int) (a1_4 : Int) (a1_5 : Int) (l1_6 : List S47) (l1_7 : List S47) (l1_8 : List S47) (l1_9 : List S47) : Option Bool :=
  if l0_0.length ≤ 4000000000000000000 ∧ l0_1.length ≤ 4000000000000000000 ∧ l0_2.length ≤ 4000000000000000000 ∧ l0_3.length ≤ 4000000000000000000 ∧ l0_6.length ≤ 4000000000000000000 ∧ l0_7.length ≤ 4000000000000000000 ∧ l0_8.length ≤ 4000000000000000000 ∧ l0_9.length ≤ 4000000000000000000 then some (sameF l0_0 l0_1 l0_2 l0_3 a0_4 a0_5 l0_6 l0_7 l0_8 l0_9 l1_0 l1_1 l1_2 l1_3 a1_4 a1_5 l1_6 l1_7 l1_8 l1_9) else none
structure SM (w : World) (cs0 cs1 : Array Value) (g1 g2 g5 g6 : Nat) (W : World) : Prop where
  b : Below w.heap.size w W
  h1 : W.heap[g1]? = some (.cells cs0 28 (0, 0))
  h2 : W.heap[g2]? = some (.cells cs1 28 (0, 0))
  h5 : W.heap[g5]? = some (.cells #[.pointer (some ⟨g1, 6, none⟩), .pointer (some ⟨g1, 7, none⟩), .pointer (some ⟨g1, 8, none⟩), .pointer (some ⟨g1, 9, none⟩)] 58 (0, 0))
  h6 : W.heap[g6]? = some (.cells #[.pointer (some ⟨g2, 6, none⟩), .pointer (some ⟨g2, 7, none⟩), .pointer (some ⟨g2, 8, none⟩), .pointer (some ⟨g2, 9, none⟩)] 58 (0, 0))
theorem SM.drew {w W : World} {cs0 cs1 : Array Value} {g1 g2 g5 g6 : Nat} (h : SM w cs0 cs1 g1 g2 g5 g6 W) (n : Nat) : SM w cs0 cs1 g1 g2 g5 g6 (W.drewN n) :=
  ⟨pw_below_drewN h.b n, blk_drewN h.h1 n, blk_drewN h.h2 n, blk_drewN h.h5 n, blk_drewN h.h6 n⟩
set_option maxHeartbeats 4000000 in
set_option maxRecDepth 100000 in
theorem code_Same.calls (A0_0 : Option Addr) (c0_0 : Nat) (l0_0 : List Int) (A0_1 : Option Addr) (c0_1 : Nat) (l0_1 : List Int) (A0_2 : Option Addr) (c0_2 : Nat) (l0_2 : List Int) (A0_3 : Option Addr) (c0_3 : Nat) (l0_3 : List Int) (a0_4 : Int) (a0_5 : Int) (A0_6 : Option Addr) (c0_6 : Nat) (l0_6 : List S47) (A0_7 : Option Addr) (c0_7 : Nat) (l0_7 : List S47) (A0_8 : Option Addr) (c0_8 : Nat) (l0_8 : List S47) (A0_9 : Option Addr) (c0_9 : Nat) (l0_9 : List S47) (A1_0 : Option Addr) (c1_0 : Nat) (l1_0 : List Int) (A1_1 : Option Addr) (c1_1 : Nat) (l1_1 : List Int) (A1_2 : Option Addr) (c1_2 : Nat) (l1_2 : List Int) (A1_3 : Option Addr) (c1_3 : Nat) (l1_3 : List Int) (a1_4 : Int) (a1_5 : Int) (A1_6 : Option Addr) (c1_6 : Nat) (l1_6 : List S47) (A1_7 : Option Addr) (c1_7 : Nat) (l1_7 : List S47) (A1_8 : Option Addr) (c1_8 : Nat) (l1_8 : List S47) (A1_9 : Option Addr) (c1_9 : Nat) (l1_9 : List S47) (r : Bool) (w : World) (hr0_0 : Kd.C (Kd.int .i64) w A0_0 l0_0.length l0_0) (hc0_0 : l0_0.length ≤ c0_0) (hr0_1 : Kd.C (Kd.int .i64) w A0_1 l0_1.length l0_1) (hc0_1 : l0_1.length ≤ c0_1) (hr0_2 : Kd.C (Kd.int .i64) w A0_2 l0_2.length l0_2) (hc0_2 : l0_2.length ≤ c0_2) (hr0_3 : Kd.C (Kd.int .i64) w A0_3 l0_3.length l0_3) (hc0_3 : l0_3.length ≤ c0_3) (hr0_6 : Kd.C k47 w A0_6 l0_6.length l0_6) (hc0_6 : l0_6.length ≤ c0_6) (hr0_7 : Kd.C k47 w A0_7 l0_7.length l0_7) (hc0_7 : l0_7.length ≤ c0_7) (hr0_8 : Kd.C k47 w A0_8 l0_8.length l0_8) (hc0_8 : l0_8.length ≤ c0_8) (hr0_9 : Kd.C k47 w A0_9 l0_9.length l0_9) (hc0_9 : l0_9.length ≤ c0_9) (hr1_0 : Kd.C (Kd.int .i64) w A1_0 l1_0.length l1_0) (hc1_0 : l1_0.length ≤ c1_0) (hr1_1 : Kd.C (Kd.int .i64) w A1_1 l1_1.length l1_1) (hc1_1 : l1_1.length ≤ c1_1) (hr1_2 : Kd.C (Kd.int .i64) w A1_2 l1_2.length l1_2) (hc1_2 : l1_2.length ≤ c1_2) (hr1_3 : Kd.C (Kd.int .i64) w A1_3 l1_3.length l1_3) (hc1_3 : l1_3.length ≤ c1_3) (hr1_6 : Kd.C k47 w A1_6 l1_6.length l1_6) (hc1_6 : l1_6.length ≤ c1_6) (hr1_7 : Kd.C k47 w A1_7 l1_7.length l1_7) (hc1_7 : l1_7.length ≤ c1_7) (hr1_8 : Kd.C k47 w A1_8 l1_8.length l1_8) (hc1_8 : l1_8.length ≤ c1_8) (hr1_9 : Kd.C k47 w A1_9 l1_9.length l1_9) (hc1_9 : l1_9.length ≤ c1_9)
    (h : code_Same.f l0_0 l0_1 l0_2 l0_3 a0_4 a0_5 l0_6 l0_7 l0_8 l0_9 l1_0 l1_1 l1_2 l1_3 a1_4 a1_5 l1_6 l1_7 l1_8 l1_9 = some r) :
    Calls Try.prog 27 #[.agg #[.slice A0_0 l0_0.length c0_0, .slice A0_1 l0_1.length c0_1, .slice A0_2 l0_2.length c0_2, .slice A0_3 l0_3.length c0_3, .int .i64 a0_4, .int .i64 a0_5, .slice A0_6 l0_6.length c0_6, .slice A0_7 l0_7.length c0_7, .slice A0_8 l0_8.length c0_8, .slice A0_9 l0_9.length c0_9], .agg #[.slice A1_0 l1_0.length c1_0, .slice A1_1 l1_1.length c1_1, .slice A1_2 l1_2.length c1_2, .slice A1_3 l1_3.length c1_3, .int .i64 a1_4, .int .i64 a1_5, .slice A1_6 l1_6.length c1_6, .slice A1_7 l1_7.length c1_7, .slice A1_8 l1_8.length c1_8, .slice A1_9 l1_9.length c1_9]] w fun e w' => e = .returned (.bool r) ∧ Below w.heap.size w w' := by
  unfold code_Same.f at h
  split at h
  case isFalse => cases h
  rename_i hlen
  obtain rfl := Option.some.inj h
  obtain ⟨n0, n1, n2, n3, n6, n7, n8, n9⟩ := hlen
  clear h
  have HE0 := Aside0.mk (ieq_f l0_0 l1_0 (by omega))
  have HE1 := Aside0.mk (ieq_f l0_1 l1_1 (by omega))
  have HE2 := Aside0.mk (ieq64_f l0_2 l1_2 (by omega))
  have HE3 := Aside0.mk (ieq64_f l0_3 l1_3 (by omega))
  have HE6 := Aside0.mk (seq_f l0_6 l1_6 (by omega))
  have HE7 := Aside0.mk (seq_f l0_7 l1_7 (by omega))
  have HE8 := Aside0.mk (seq_f l0_8 l1_8 (by omega))
  have HE9 := Aside0.mk (seq_f l0_9 l1_9 (by omega))
  clear n0 n1 n2 n3 n6 n7 n8 n9
  have HR0_0 := Aside0.mk hr0_0
  have HC0_0 := Aside0.mk hc0_0
  clear hr0_0 hc0_0
  have HR0_1 := Aside0.mk hr0_1
  have HC0_1 := Aside0.mk hc0_1
  clear hr0_1 hc0_1
  have HR0_2 := Aside0.mk hr0_2
  have HC0_2 := Aside0.mk hc0_2
  clear hr0_2 hc0_2
  have HR0_3 := Aside0.mk hr0_3
  have HC0_3 := Aside0.mk hc0_3
  clear hr0_3 hc0_3
  have HR0_6 := Aside0.mk hr0_6
  have HC0_6 := Aside0.mk hc0_6
  clear hr0_6 hc0_6
  have HR0_7 := Aside0.mk hr0_7
  have HC0_7 := Aside0.mk hc0_7
  clear hr0_7 hc0_7
  have HR0_8 := Aside0.mk hr0_8
  have HC0_8 := Aside0.mk hc0_8
  clear hr0_8 hc0_8
  have HR0_9 := Aside0.mk hr0_9
  have HC0_9 := Aside0.mk hc0_9
  clear hr0_9 hc0_9
  have HR1_0 := Aside0.mk hr1_0
  have HC1_0 := Aside0.mk hc1_0
  clear hr1_0 hc1_0
  have HR1_1 := Aside0.mk hr1_1
  have HC1_1 := Aside0.mk hc1_1
  clear hr1_1 hc1_1
  have HR1_2 := Aside0.mk hr1_2
  have HC1_2 := Aside0.mk hc1_2
  clear hr1_2 hc1_2
  have HR1_3 := Aside0.mk hr1_3
  have HC1_3 := Aside0.mk hc1_3
  clear hr1_3 hc1_3
  have HR1_6 := Aside0.mk hr1_6
  have HC1_6 := Aside0.mk hc1_6
  clear hr1_6 hc1_6
  have HR1_7 := Aside0.mk hr1_7
  have HC1_7 := Aside0.mk hc1_7
  clear hr1_7 hc1_7
  have HR1_8 := Aside0.mk hr1_8
  have HC1_8 := Aside0.mk hc1_8
  clear hr1_8 hc1_8
  have HR1_9 := Aside0.mk hr1_9
  have HC1_9 := Aside0.mk hc1_9
  clear hr1_9 hc1_9
  obtain ⟨R, hR⟩ : ∃ R, sameF l0_0 l0_1 l0_2 l0_3 a0_4 a0_5 l0_6 l0_7 l0_8 l0_9 l1_0 l1_1 l1_2 l1_3 a1_4 a1_5 l1_6 l1_7 l1_8 l1_9 = R := ⟨_, rfl⟩
  rw [hR]
  have HS := Aside0.mk hR
  clear hR
  obtain ⟨b6, q6⟩ : ∃ b, eqS l0_6 l1_6 = b := ⟨_, rfl⟩
  obtain ⟨b7, q7⟩ : ∃ b, eqS l0_7 l1_7 = b := ⟨_, rfl⟩
  obtain ⟨b8, q8⟩ : ∃ b, eqS l0_8 l1_8 = b := ⟨_, rfl⟩
  obtain ⟨b9, q9⟩ : ∃ b, eqS l0_9 l1_9 = b := ⟨_, rfl⟩
  obtain ⟨b0, q0⟩ : ∃ b, (l0_0 == l1_0) = b := ⟨_, rfl⟩
  obtain ⟨b1, q1⟩ : ∃ b, (l0_1 == l1_1) = b := ⟨_, rfl⟩
  obtain ⟨b2, q2⟩ : ∃ b, (l0_2 == l1_2) = b := ⟨_, rfl⟩
  obtain ⟨b3, q3⟩ : ∃ b, (l0_3 == l1_3) = b := ⟨_, rfl⟩
  rw [q6] at HE6
  rw [q7] at HE7
  rw [q8] at HE8
  rw [q9] at HE9
  rw [q0] at HE0
  rw [q1] at HE1
  rw [q2] at HE2
  rw [q3] at HE3
  unfold sameF at HS
  rw [q6, q7, q8, q9, q0, q1, q2, q3] at HS
  clear q0 q1 q2 q3 q6 q7 q8 q9
  go_enter Try.func27, Try.ntmps27
  go_wp2_with (first | (go_at_call 33; (with_reducible refine (cpieces_any w.heap.size _).mono ?_); rintro e wp ⟨rfl, hb⟩; have HBp := Aside0.mk hb; clear hb) | (go_at_call 33; (with_reducible refine (cpieces_any (w.heap.size + 1) _).mono ?_); rintro e wq ⟨rfl, hb⟩; have HBq := Aside0.mk hb; clear hb))
  have hsm : SM w #[.slice A0_0 l0_0.length c0_0, .slice A0_1 l0_1.length c0_1, .slice A0_2 l0_2.length c0_2, .slice A0_3 l0_3.length c0_3, .int .i64 a0_4, .int .i64 a0_5, .slice A0_6 l0_6.length c0_6, .slice A0_7 l0_7.length c0_7, .slice A0_8 l0_8.length c0_8, .slice A0_9 l0_9.length c0_9] #[.slice A1_0 l1_0.length c1_0, .slice A1_1 l1_1.length c1_1, .slice A1_2 l1_2.length c1_2, .slice A1_3 l1_3.length c1_3, .int .i64 a1_4, .int .i64 a1_5, .slice A1_6 l1_6.length c1_6, .slice A1_7 l1_7.length c1_7, .slice A1_8 l1_8.length c1_8, .slice A1_9 l1_9.length c1_9] w.heap.size (w.heap.size + 1) wq.heap.size (wq.heap.size + 1) ((wq.alloc (Obj.cells #[.pointer (some ⟨w.heap.size, 6, none⟩), .pointer (some ⟨w.heap.size, 7, none⟩), .pointer (some ⟨w.heap.size, 8, none⟩), .pointer (some ⟨w.heap.size, 9, none⟩)] 58)).alloc (Obj.cells #[.pointer (some ⟨w.heap.size + 1, 6, none⟩), .pointer (some ⟨w.heap.size + 1, 7, none⟩), .pointer (some ⟨w.heap.size + 1, 8, none⟩), .pointer (some ⟨w.heap.size + 1, 9, none⟩)] 58)) := by
    have b0 := HBp.out
    have b1 := HBq.out
    have b2 : Below w.heap.size w ((w.alloc (Obj.cells #[.slice A0_0 l0_0.length c0_0, .slice A0_1 l0_1.length c0_1, .slice A0_2 l0_2.length c0_2, .slice A0_3 l0_3.length c0_3, .int .i64 a0_4, .int .i64 a0_5, .slice A0_6 l0_6.length c0_6, .slice A0_7 l0_7.length c0_7, .slice A0_8 l0_8.length c0_8, .slice A0_9 l0_9.length c0_9] 28)).alloc (Obj.cells #[.slice A1_0 l1_0.length c1_0, .slice A1_1 l1_1.length c1_1, .slice A1_2 l1_2.length c1_2, .slice A1_3 l1_3.length c1_3, .int .i64 a1_4, .int .i64 a1_5, .slice A1_6 l1_6.length c1_6, .slice A1_7 l1_7.length c1_7, .slice A1_8 l1_8.length c1_8, .slice A1_9 l1_9.length c1_9] 28)) := ((Below.refl _ _).alloc (Nat.le_refl _) _).alloc (by simp) _
    have h1 : ((w.alloc (Obj.cells #[.slice A0_0 l0_0.length c0_0, .slice A0_1 l0_1.length c0_1, .slice A0_2 l0_2.length c0_2, .slice A0_3 l0_3.length c0_3, .int .i64 a0_4, .int .i64 a0_5, .slice A0_6 l0_6.length c0_6, .slice A0_7 l0_7.length c0_7, .slice A0_8 l0_8.length c0_8, .slice A0_9 l0_9.length c0_9] 28)).alloc (Obj.cells #[.slice A1_0 l1_0.length c1_0, .slice A1_1 l1_1.length c1_1, .slice A1_2 l1_2.length c1_2, .slice A1_3 l1_3.length c1_3, .int .i64 a1_4, .int .i64 a1_5, .slice A1_6 l1_6.length c1_6, .slice A1_7 l1_7.length c1_7, .slice A1_8 l1_8.length c1_8, .slice A1_9 l1_9.length c1_9] 28)).heap[w.heap.size]? = some (.cells #[.slice A0_0 l0_0.length c0_0, .slice A0_1 l0_1.length c0_1, .slice A0_2 l0_2.length c0_2, .slice A0_3 l0_3.length c0_3, .int .i64 a0_4, .int .i64 a0_5, .slice A0_6 l0_6.length c0_6, .slice A0_7 l0_7.length c0_7, .slice A0_8 l0_8.length c0_8, .slice A0_9 l0_9.length c0_9] 28 (0, 0)) := blk_alloc (blk_new w _) _
    have h2 : ((w.alloc (Obj.cells #[.slice A0_0 l0_0.length c0_0, .slice A0_1 l0_1.length c0_1, .slice A0_2 l0_2.length c0_2, .slice A0_3 l0_3.length c0_3, .int .i64 a0_4, .int .i64 a0_5, .slice A0_6 l0_6.length c0_6, .slice A0_7 l0_7.length c0_7, .slice A0_8 l0_8.length c0_8, .slice A0_9 l0_9.length c0_9] 28)).alloc (Obj.cells #[.slice A1_0 l1_0.length c1_0, .slice A1_1 l1_1.length c1_1, .slice A1_2 l1_2.length c1_2, .slice A1_3 l1_3.length c1_3, .int .i64 a1_4, .int .i64 a1_5, .slice A1_6 l1_6.length c1_6, .slice A1_7 l1_7.length c1_7, .slice A1_8 l1_8.length c1_8, .slice A1_9 l1_9.length c1_9] 28)).heap[w.heap.size + 1]? = some (.cells #[.slice A1_0 l1_0.length c1_0, .slice A1_1 l1_1.length c1_1, .slice A1_2 l1_2.length c1_2, .slice A1_3 l1_3.length c1_3, .int .i64 a1_4, .int .i64 a1_5, .slice A1_6 l1_6.length c1_6, .slice A1_7 l1_7.length c1_7, .slice A1_8 l1_8.length c1_8, .slice A1_9 l1_9.length c1_9] 28 (0, 0)) := by
      have := blk_new (w.alloc (Obj.cells #[.slice A0_0 l0_0.length c0_0, .slice A0_1 l0_1.length c0_1, .slice A0_2 l0_2.length c0_2, .slice A0_3 l0_3.length c0_3, .int .i64 a0_4, .int .i64 a0_5, .slice A0_6 l0_6.length c0_6, .slice A0_7 l0_7.length c0_7, .slice A0_8 l0_8.length c0_8, .slice A0_9 l0_9.length c0_9] 28)) (Obj.cells #[.slice A1_0 l1_0.length c1_0, .slice A1_1 l1_1.length c1_1, .slice A1_2 l1_2.length c1_2, .slice A1_3 l1_3.length c1_3, .int .i64 a1_4, .int .i64 a1_5, .slice A1_6 l1_6.length c1_6, .slice A1_7 l1_7.length c1_7, .slice A1_8 l1_8.length c1_8, .slice A1_9 l1_9.length c1_9] 28)
      simpa using this
    have b3 : Below w.heap.size w wp := b2.trans (b0.mono b2.size)
    have b4 : Below w.heap.size w wq := b3.trans (b1.mono b3.size)
    refine ⟨(b4.alloc b4.size _).alloc (by have := b4.size; simp; omega) _, blk_alloc (blk_alloc (blk_below (blk_below h1 b0) b1) _) _, blk_alloc (blk_alloc (blk_below (blk_below h2 b0) b1) _) _, blk_alloc (blk_new wq _) _, ?_⟩
    have := blk_new (wq.alloc (Obj.cells #[.pointer (some ⟨w.heap.size, 6, none⟩), .pointer (some ⟨w.heap.size, 7, none⟩), .pointer (some ⟨w.heap.size, 8, none⟩), .pointer (some ⟨w.heap.size, 9, none⟩)] 58)) (Obj.cells #[.pointer (some ⟨w.heap.size + 1, 6, none⟩), .pointer (some ⟨w.heap.size + 1, 7, none⟩), .pointer (some ⟨w.heap.size + 1, 8, none⟩), .pointer (some ⟨w.heap.size + 1, 9, none⟩)] 58)
    simpa using this
  have HSM := Aside0.mk hsm
  clear hsm HBp HBq
  go_loopw [7, 10] (fun _ v10 wr => ∃ k : Nat, k ≤ 4 ∧ v10 = .int .i64 k ∧ Aside0 ((0 < k → b6 = true) ∧ (1 < k → b7 = true) ∧ (2 < k → b8 = true) ∧ (3 < k → b9 = true)) ∧ Aside0 (SM w #[.slice A0_0 l0_0.length c0_0, .slice A0_1 l0_1.length c0_1, .slice A0_2 l0_2.length c0_2, .slice A0_3 l0_3.length c0_3, .int .i64 a0_4, .int .i64 a0_5, .slice A0_6 l0_6.length c0_6, .slice A0_7 l0_7.length c0_7, .slice A0_8 l0_8.length c0_8, .slice A0_9 l0_9.length c0_9] #[.slice A1_0 l1_0.length c1_0, .slice A1_1 l1_1.length c1_1, .slice A1_2 l1_2.length c1_2, .slice A1_3 l1_3.length c1_3, .int .i64 a1_4, .int .i64 a1_5, .slice A1_6 l1_6.length c1_6, .slice A1_7 l1_7.length c1_7, .slice A1_8 l1_8.length c1_8, .slice A1_9 l1_9.length c1_9] w.heap.size (w.heap.size + 1) wq.heap.size (wq.heap.size + 1) wr)) (fun _ v10 _ => 4 - (intOf v10).toNat)
  case atStart => exact ⟨0, by omega, rfl, ⟨fun h => absurd h (by omega), fun h => absurd h (by omega), fun h => absurd h (by omega), fun h => absurd h (by omega)⟩, HSM⟩
  case round =>
    clear HSM
    obtain ⟨k, hk, rfl, HA, HM⟩ := hrel
    by_cases hk4 : k < 4
    · rcases (by omega : k = 0 ∨ k = 1 ∨ k = 2 ∨ k = 3) with rfl | rfl | rfl | rfl
      · have p0 := (blk_cell HM.out.h5 0).trans rfl
        have p1 := (blk_cell HM.out.h6 0).trans rfl
        have p2 := (blk_cell HM.out.h1 6).trans rfl
        have p3 := (blk_cell HM.out.h2 6).trans rfl
        go_wp2_with fail
        go_quiet ((go_at_call 60; refine Calls.quiet_of ((api_Ins.calls (l0_6.length + 1) A0_6 c0_6 l0_6 A1_6 c1_6 l1_6 b6 _ (Kd.C_drewN (Kd.C_below HR0_6.out HM.out.b) _) HC0_6.out (Kd.C_drewN (Kd.C_below HR1_6.out HM.out.b) _) HC1_6.out HE6.out).mono (fun e w1 h => ⟨h.1, h.2.out⟩))))
        clear p0 p1 p2 p3
        have HM' := Aside0.mk (HM.out.drew nq)
        clear HM
        cases b6 with
        | true =>
          go_wp2_with fail
          go_roundw
          case rel => exact ⟨1, by decide, by go_num, ⟨fun _ => by trivial, fun h => absurd h (by omega), fun h => absurd h (by omega), fun h => absurd h (by omega)⟩, HM'⟩
          case measure => simp [intOf]
        | false =>
          have hS := HS.out
          clear HS
          simp only [Bool.true_and, Bool.false_and] at hS
          subst hS
          go_wp2_with fail
          go_ret
          exact ⟨rfl, HM'.out.b⟩
      · have p0 := (blk_cell HM.out.h5 1).trans rfl
        have p1 := (blk_cell HM.out.h6 1).trans rfl
        have p2 := (blk_cell HM.out.h1 7).trans rfl
        have p3 := (blk_cell HM.out.h2 7).trans rfl
        go_wp2_with fail
        go_quiet ((go_at_call 60; refine Calls.quiet_of ((api_Ins.calls (l0_7.length + 1) A0_7 c0_7 l0_7 A1_7 c1_7 l1_7 b7 _ (Kd.C_drewN (Kd.C_below HR0_7.out HM.out.b) _) HC0_7.out (Kd.C_drewN (Kd.C_below HR1_7.out HM.out.b) _) HC1_7.out HE7.out).mono (fun e w1 h => ⟨h.1, h.2.out⟩))))
        clear p0 p1 p2 p3
        have HM' := Aside0.mk (HM.out.drew nq)
        clear HM
        cases b7 with
        | true =>
          go_wp2_with fail
          go_roundw
          case rel => exact ⟨2, by decide, by go_num, ⟨fun _ => HA.out.1 (by omega), fun _ => by trivial, fun h => absurd h (by omega), fun h => absurd h (by omega)⟩, HM'⟩
          case measure => simp [intOf]
        | false =>
          have hS := HS.out
          clear HS
          rw [HA.out.1 (by omega)] at hS
          simp only [Bool.true_and, Bool.false_and] at hS
          subst hS
          go_wp2_with fail
          go_ret
          exact ⟨rfl, HM'.out.b⟩
      · have p0 := (blk_cell HM.out.h5 2).trans rfl
        have p1 := (blk_cell HM.out.h6 2).trans rfl
        have p2 := (blk_cell HM.out.h1 8).trans rfl
        have p3 := (blk_cell HM.out.h2 8).trans rfl
        go_wp2_with fail
        go_quiet ((go_at_call 60; refine Calls.quiet_of ((api_Ins.calls (l0_8.length + 1) A0_8 c0_8 l0_8 A1_8 c1_8 l1_8 b8 _ (Kd.C_drewN (Kd.C_below HR0_8.out HM.out.b) _) HC0_8.out (Kd.C_drewN (Kd.C_below HR1_8.out HM.out.b) _) HC1_8.out HE8.out).mono (fun e w1 h => ⟨h.1, h.2.out⟩))))
        clear p0 p1 p2 p3
        have HM' := Aside0.mk (HM.out.drew nq)
        clear HM
        cases b8 with
        | true =>
          go_wp2_with fail
          go_roundw
          case rel => exact ⟨3, by decide, by go_num, ⟨fun _ => HA.out.1 (by omega), fun _ => HA.out.2.1 (by omega), fun _ => by trivial, fun h => absurd h (by omega)⟩, HM'⟩
          case measure => simp [intOf]
        | false =>
          have hS := HS.out
          clear HS
          rw [HA.out.1 (by omega)] at hS
          rw [HA.out.2.1 (by omega)] at hS
          simp only [Bool.true_and, Bool.false_and] at hS
          subst hS
          go_wp2_with fail
          go_ret
          exact ⟨rfl, HM'.out.b⟩
      · have p0 := (blk_cell HM.out.h5 3).trans rfl
        have p1 := (blk_cell HM.out.h6 3).trans rfl
        have p2 := (blk_cell HM.out.h1 9).trans rfl
        have p3 := (blk_cell HM.out.h2 9).trans rfl
        go_wp2_with fail
        go_quiet ((go_at_call 60; refine Calls.quiet_of ((api_Ins.calls (l0_9.length + 1) A0_9 c0_9 l0_9 A1_9 c1_9 l1_9 b9 _ (Kd.C_drewN (Kd.C_below HR0_9.out HM.out.b) _) HC0_9.out (Kd.C_drewN (Kd.C_below HR1_9.out HM.out.b) _) HC1_9.out HE9.out).mono (fun e w1 h => ⟨h.1, h.2.out⟩))))
        clear p0 p1 p2 p3
        have HM' := Aside0.mk (HM.out.drew nq)
        clear HM
        cases b9 with
        | true =>
          go_wp2_with fail
          go_roundw
          case rel => exact ⟨4, by decide, by go_num, ⟨fun _ => HA.out.1 (by omega), fun _ => HA.out.2.1 (by omega), fun _ => HA.out.2.2.1 (by omega), fun _ => by trivial⟩, HM'⟩
          case measure => simp [intOf]
        | false =>
          have hS := HS.out
          clear HS
          rw [HA.out.1 (by omega)] at hS
          rw [HA.out.2.1 (by omega)] at hS
          rw [HA.out.2.2.1 (by omega)] at hS
          simp only [Bool.true_and, Bool.false_and] at hS
          subst hS
          go_wp2_with fail
          go_ret
          exact ⟨rfl, HM'.out.b⟩
    · obtain rfl : k = 4 := by omega
      clear hk hk4
      obtain rfl := HA.out.1 (by omega)
      obtain rfl := HA.out.2.1 (by omega)
      obtain rfl := HA.out.2.2.1 (by omega)
      obtain rfl := HA.out.2.2.2 (by omega)
      clear HA
      have y0_0 := (blk_cell HM.out.h1 0).trans rfl
      have y0_1 := (blk_cell HM.out.h1 1).trans rfl
      have y0_2 := (blk_cell HM.out.h1 2).trans rfl
      have y0_3 := (blk_cell HM.out.h1 3).trans rfl
      have y0_4 := (blk_cell HM.out.h1 4).trans rfl
      have y0_5 := (blk_cell HM.out.h1 5).trans rfl
      have y1_0 := (blk_cell HM.out.h2 0).trans rfl
      have y1_1 := (blk_cell HM.out.h2 1).trans rfl
      have y1_2 := (blk_cell HM.out.h2 2).trans rfl
      have y1_3 := (blk_cell HM.out.h2 3).trans rfl
      have y1_4 := (blk_cell HM.out.h2 4).trans rfl
      have y1_5 := (blk_cell HM.out.h2 5).trans rfl
      have HB := Aside0.mk HM.out.b
      cases b0 with
      | false =>
        have hS := HS.out
        clear HS
        simp only [Bool.true_and, Bool.false_and] at hS
        subst hS
        go_wp2_with (first | (go_at_call 61; (with_reducible refine (slices_Equal_int_int.calls (l0_0.length + 1) A0_0 c0_0 l0_0 A1_0 c1_0 l1_0 false _ ?s1 HC0_0.out ?s2 HC1_0.out HE0.out).mono ?_); (case s1 => repeat (first | exact (Kd.C_below HR0_0.out HB.out) | (with_reducible refine Kd.C_drewN ?_ _))); (case s2 => repeat (first | exact (Kd.C_below HR1_0.out HB.out) | (with_reducible refine Kd.C_drewN ?_ _))); rintro e w' ⟨rfl, ⟨nd, rfl⟩⟩))
        go_ret
        exact ⟨rfl, by repeat (first | exact HB.out | apply pw_below_drewN)⟩
      | true =>
        cases b1 with
        | false =>
          have hS := HS.out
          clear HS
          simp only [Bool.true_and, Bool.false_and] at hS
          subst hS
          go_wp2_with (first | (go_at_call 61; (with_reducible refine (slices_Equal_int_int.calls (l0_0.length + 1) A0_0 c0_0 l0_0 A1_0 c1_0 l1_0 true _ ?s1 HC0_0.out ?s2 HC1_0.out HE0.out).mono ?_); (case s1 => repeat (first | exact (Kd.C_below HR0_0.out HB.out) | (with_reducible refine Kd.C_drewN ?_ _))); (case s2 => repeat (first | exact (Kd.C_below HR1_0.out HB.out) | (with_reducible refine Kd.C_drewN ?_ _))); rintro e w' ⟨rfl, ⟨nd, rfl⟩⟩) | (go_at_call 61; (with_reducible refine (slices_Equal_int_int.calls (l0_1.length + 1) A0_1 c0_1 l0_1 A1_1 c1_1 l1_1 false _ ?s1 HC0_1.out ?s2 HC1_1.out HE1.out).mono ?_); (case s1 => repeat (first | exact (Kd.C_below HR0_1.out HB.out) | (with_reducible refine Kd.C_drewN ?_ _))); (case s2 => repeat (first | exact (Kd.C_below HR1_1.out HB.out) | (with_reducible refine Kd.C_drewN ?_ _))); rintro e w' ⟨rfl, ⟨nd, rfl⟩⟩))
          go_ret
          exact ⟨rfl, by repeat (first | exact HB.out | apply pw_below_drewN)⟩
        | true =>
          cases b2 with
          | false =>
            have hS := HS.out
            clear HS
            simp only [Bool.true_and, Bool.false_and] at hS
            subst hS
            go_wp2_with (first | (go_at_call 61; (with_reducible refine (slices_Equal_int_int.calls (l0_0.length + 1) A0_0 c0_0 l0_0 A1_0 c1_0 l1_0 true _ ?s1 HC0_0.out ?s2 HC1_0.out HE0.out).mono ?_); (case s1 => repeat (first | exact (Kd.C_below HR0_0.out HB.out) | (with_reducible refine Kd.C_drewN ?_ _))); (case s2 => repeat (first | exact (Kd.C_below HR1_0.out HB.out) | (with_reducible refine Kd.C_drewN ?_ _))); rintro e w' ⟨rfl, ⟨nd, rfl⟩⟩) | (go_at_call 61; (with_reducible refine (slices_Equal_int_int.calls (l0_1.length + 1) A0_1 c0_1 l0_1 A1_1 c1_1 l1_1 true _ ?s1 HC0_1.out ?s2 HC1_1.out HE1.out).mono ?_); (case s1 => repeat (first | exact (Kd.C_below HR0_1.out HB.out) | (with_reducible refine Kd.C_drewN ?_ _))); (case s2 => repeat (first | exact (Kd.C_below HR1_1.out HB.out) | (with_reducible refine Kd.C_drewN ?_ _))); rintro e w' ⟨rfl, ⟨nd, rfl⟩⟩) | (go_at_call 62; (with_reducible refine (slices_Equal_int64_int64.calls (l0_2.length + 1) A0_2 c0_2 l0_2 A1_2 c1_2 l1_2 false _ ?s1 HC0_2.out ?s2 HC1_2.out HE2.out).mono ?_); (case s1 => repeat (first | exact (Kd.C_below HR0_2.out HB.out) | (with_reducible refine Kd.C_drewN ?_ _))); (case s2 => repeat (first | exact (Kd.C_below HR1_2.out HB.out) | (with_reducible refine Kd.C_drewN ?_ _))); rintro e w' ⟨rfl, ⟨nd, rfl⟩⟩))
            go_ret
            exact ⟨rfl, by repeat (first | exact HB.out | apply pw_below_drewN)⟩
          | true =>
            cases b3 with
            | false =>
              have hS := HS.out
              clear HS
              simp only [Bool.true_and, Bool.false_and] at hS
              subst hS
              go_wp2_with (first | (go_at_call 61; (with_reducible refine (slices_Equal_int_int.calls (l0_0.length + 1) A0_0 c0_0 l0_0 A1_0 c1_0 l1_0 true _ ?s1 HC0_0.out ?s2 HC1_0.out HE0.out).mono ?_); (case s1 => repeat (first | exact (Kd.C_below HR0_0.out HB.out) | (with_reducible refine Kd.C_drewN ?_ _))); (case s2 => repeat (first | exact (Kd.C_below HR1_0.out HB.out) | (with_reducible refine Kd.C_drewN ?_ _))); rintro e w' ⟨rfl, ⟨nd, rfl⟩⟩) | (go_at_call 61; (with_reducible refine (slices_Equal_int_int.calls (l0_1.length + 1) A0_1 c0_1 l0_1 A1_1 c1_1 l1_1 true _ ?s1 HC0_1.out ?s2 HC1_1.out HE1.out).mono ?_); (case s1 => repeat (first | exact (Kd.C_below HR0_1.out HB.out) | (with_reducible refine Kd.C_drewN ?_ _))); (case s2 => repeat (first | exact (Kd.C_below HR1_1.out HB.out) | (with_reducible refine Kd.C_drewN ?_ _))); rintro e w' ⟨rfl, ⟨nd, rfl⟩⟩) | (go_at_call 62; (with_reducible refine (slices_Equal_int64_int64.calls (l0_2.length + 1) A0_2 c0_2 l0_2 A1_2 c1_2 l1_2 true _ ?s1 HC0_2.out ?s2 HC1_2.out HE2.out).mono ?_); (case s1 => repeat (first | exact (Kd.C_below HR0_2.out HB.out) | (with_reducible refine Kd.C_drewN ?_ _))); (case s2 => repeat (first | exact (Kd.C_below HR1_2.out HB.out) | (with_reducible refine Kd.C_drewN ?_ _))); rintro e w' ⟨rfl, ⟨nd, rfl⟩⟩) | (go_at_call 62; (with_reducible refine (slices_Equal_int64_int64.calls (l0_3.length + 1) A0_3 c0_3 l0_3 A1_3 c1_3 l1_3 false _ ?s1 HC0_3.out ?s2 HC1_3.out HE3.out).mono ?_); (case s1 => repeat (first | exact (Kd.C_below HR0_3.out HB.out) | (with_reducible refine Kd.C_drewN ?_ _))); (case s2 => repeat (first | exact (Kd.C_below HR1_3.out HB.out) | (with_reducible refine Kd.C_drewN ?_ _))); rintro e w' ⟨rfl, ⟨nd, rfl⟩⟩))
              go_ret
              exact ⟨rfl, by repeat (first | exact HB.out | apply pw_below_drewN)⟩
            | true =>
              by_cases c4 : a0_4 = a1_4
              case neg =>
                have e4 : (a0_4 == a1_4) = false := beq_false_of_ne c4
                have hS := HS.out
                clear HS
                simp only [Bool.true_and, Bool.false_and, e4] at hS
                subst hS
                go_wp2_with (first | (go_at_call 61; (with_reducible refine (slices_Equal_int_int.calls (l0_0.length + 1) A0_0 c0_0 l0_0 A1_0 c1_0 l1_0 true _ ?s1 HC0_0.out ?s2 HC1_0.out HE0.out).mono ?_); (case s1 => repeat (first | exact (Kd.C_below HR0_0.out HB.out) | (with_reducible refine Kd.C_drewN ?_ _))); (case s2 => repeat (first | exact (Kd.C_below HR1_0.out HB.out) | (with_reducible refine Kd.C_drewN ?_ _))); rintro e w' ⟨rfl, ⟨nd, rfl⟩⟩) | (go_at_call 61; (with_reducible refine (slices_Equal_int_int.calls (l0_1.length + 1) A0_1 c0_1 l0_1 A1_1 c1_1 l1_1 true _ ?s1 HC0_1.out ?s2 HC1_1.out HE1.out).mono ?_); (case s1 => repeat (first | exact (Kd.C_below HR0_1.out HB.out) | (with_reducible refine Kd.C_drewN ?_ _))); (case s2 => repeat (first | exact (Kd.C_below HR1_1.out HB.out) | (with_reducible refine Kd.C_drewN ?_ _))); rintro e w' ⟨rfl, ⟨nd, rfl⟩⟩) | (go_at_call 62; (with_reducible refine (slices_Equal_int64_int64.calls (l0_2.length + 1) A0_2 c0_2 l0_2 A1_2 c1_2 l1_2 true _ ?s1 HC0_2.out ?s2 HC1_2.out HE2.out).mono ?_); (case s1 => repeat (first | exact (Kd.C_below HR0_2.out HB.out) | (with_reducible refine Kd.C_drewN ?_ _))); (case s2 => repeat (first | exact (Kd.C_below HR1_2.out HB.out) | (with_reducible refine Kd.C_drewN ?_ _))); rintro e w' ⟨rfl, ⟨nd, rfl⟩⟩) | (go_at_call 62; (with_reducible refine (slices_Equal_int64_int64.calls (l0_3.length + 1) A0_3 c0_3 l0_3 A1_3 c1_3 l1_3 true _ ?s1 HC0_3.out ?s2 HC1_3.out HE3.out).mono ?_); (case s1 => repeat (first | exact (Kd.C_below HR0_3.out HB.out) | (with_reducible refine Kd.C_drewN ?_ _))); (case s2 => repeat (first | exact (Kd.C_below HR1_3.out HB.out) | (with_reducible refine Kd.C_drewN ?_ _))); rintro e w' ⟨rfl, ⟨nd, rfl⟩⟩))
                go_ret
                exact ⟨rfl, by repeat (first | exact HB.out | apply pw_below_drewN)⟩
              have e4 : (a0_4 == a1_4) = true := beq_iff_eq.mpr c4
              by_cases c5 : a0_5 = a1_5
              case neg =>
                have e5 : (a0_5 == a1_5) = false := beq_false_of_ne c5
                have hS := HS.out
                clear HS
                simp only [Bool.true_and, Bool.false_and, e4, e5] at hS
                subst hS
                go_wp2_with (first | (go_at_call 61; (with_reducible refine (slices_Equal_int_int.calls (l0_0.length + 1) A0_0 c0_0 l0_0 A1_0 c1_0 l1_0 true _ ?s1 HC0_0.out ?s2 HC1_0.out HE0.out).mono ?_); (case s1 => repeat (first | exact (Kd.C_below HR0_0.out HB.out) | (with_reducible refine Kd.C_drewN ?_ _))); (case s2 => repeat (first | exact (Kd.C_below HR1_0.out HB.out) | (with_reducible refine Kd.C_drewN ?_ _))); rintro e w' ⟨rfl, ⟨nd, rfl⟩⟩) | (go_at_call 61; (with_reducible refine (slices_Equal_int_int.calls (l0_1.length + 1) A0_1 c0_1 l0_1 A1_1 c1_1 l1_1 true _ ?s1 HC0_1.out ?s2 HC1_1.out HE1.out).mono ?_); (case s1 => repeat (first | exact (Kd.C_below HR0_1.out HB.out) | (with_reducible refine Kd.C_drewN ?_ _))); (case s2 => repeat (first | exact (Kd.C_below HR1_1.out HB.out) | (with_reducible refine Kd.C_drewN ?_ _))); rintro e w' ⟨rfl, ⟨nd, rfl⟩⟩) | (go_at_call 62; (with_reducible refine (slices_Equal_int64_int64.calls (l0_2.length + 1) A0_2 c0_2 l0_2 A1_2 c1_2 l1_2 true _ ?s1 HC0_2.out ?s2 HC1_2.out HE2.out).mono ?_); (case s1 => repeat (first | exact (Kd.C_below HR0_2.out HB.out) | (with_reducible refine Kd.C_drewN ?_ _))); (case s2 => repeat (first | exact (Kd.C_below HR1_2.out HB.out) | (with_reducible refine Kd.C_drewN ?_ _))); rintro e w' ⟨rfl, ⟨nd, rfl⟩⟩) | (go_at_call 62; (with_reducible refine (slices_Equal_int64_int64.calls (l0_3.length + 1) A0_3 c0_3 l0_3 A1_3 c1_3 l1_3 true _ ?s1 HC0_3.out ?s2 HC1_3.out HE3.out).mono ?_); (case s1 => repeat (first | exact (Kd.C_below HR0_3.out HB.out) | (with_reducible refine Kd.C_drewN ?_ _))); (case s2 => repeat (first | exact (Kd.C_below HR1_3.out HB.out) | (with_reducible refine Kd.C_drewN ?_ _))); rintro e w' ⟨rfl, ⟨nd, rfl⟩⟩))
                go_ret
                exact ⟨rfl, by repeat (first | exact HB.out | apply pw_below_drewN)⟩
              have e5 : (a0_5 == a1_5) = true := beq_iff_eq.mpr c5
              have hS := HS.out
              clear HS
              simp only [Bool.true_and, Bool.false_and, e4, e5] at hS
              subst hS
              go_wp2_with (first | (go_at_call 61; (with_reducible refine (slices_Equal_int_int.calls (l0_0.length + 1) A0_0 c0_0 l0_0 A1_0 c1_0 l1_0 true _ ?s1 HC0_0.out ?s2 HC1_0.out HE0.out).mono ?_); (case s1 => repeat (first | exact (Kd.C_below HR0_0.out HB.out) | (with_reducible refine Kd.C_drewN ?_ _))); (case s2 => repeat (first | exact (Kd.C_below HR1_0.out HB.out) | (with_reducible refine Kd.C_drewN ?_ _))); rintro e w' ⟨rfl, ⟨nd, rfl⟩⟩) | (go_at_call 61; (with_reducible refine (slices_Equal_int_int.calls (l0_1.length + 1) A0_1 c0_1 l0_1 A1_1 c1_1 l1_1 true _ ?s1 HC0_1.out ?s2 HC1_1.out HE1.out).mono ?_); (case s1 => repeat (first | exact (Kd.C_below HR0_1.out HB.out) | (with_reducible refine Kd.C_drewN ?_ _))); (case s2 => repeat (first | exact (Kd.C_below HR1_1.out HB.out) | (with_reducible refine Kd.C_drewN ?_ _))); rintro e w' ⟨rfl, ⟨nd, rfl⟩⟩) | (go_at_call 62; (with_reducible refine (slices_Equal_int64_int64.calls (l0_2.length + 1) A0_2 c0_2 l0_2 A1_2 c1_2 l1_2 true _ ?s1 HC0_2.out ?s2 HC1_2.out HE2.out).mono ?_); (case s1 => repeat (first | exact (Kd.C_below HR0_2.out HB.out) | (with_reducible refine Kd.C_drewN ?_ _))); (case s2 => repeat (first | exact (Kd.C_below HR1_2.out HB.out) | (with_reducible refine Kd.C_drewN ?_ _))); rintro e w' ⟨rfl, ⟨nd, rfl⟩⟩) | (go_at_call 62; (with_reducible refine (slices_Equal_int64_int64.calls (l0_3.length + 1) A0_3 c0_3 l0_3 A1_3 c1_3 l1_3 true _ ?s1 HC0_3.out ?s2 HC1_3.out HE3.out).mono ?_); (case s1 => repeat (first | exact (Kd.C_below HR0_3.out HB.out) | (with_reducible refine Kd.C_drewN ?_ _))); (case s2 => repeat (first | exact (Kd.C_below HR1_3.out HB.out) | (with_reducible refine Kd.C_drewN ?_ _))); rintro e w' ⟨rfl, ⟨nd, rfl⟩⟩))
              go_ret
              exact ⟨rfl, by repeat (first | exact HB.out | apply pw_below_drewN)⟩

#print axioms code_Same.calls
end Go.Proofs.Ytccolpkjgjjipaa.K
