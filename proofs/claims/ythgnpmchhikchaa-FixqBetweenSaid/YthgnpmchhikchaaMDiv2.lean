/- Plain arithmetic: math/bits.Div64, Knuth's way with two digits of 32 bits, gives the quotient of two words by one. -/
import Derived.Test.YthgnpmchhikchaaMDiv
namespace Go.Proofs.Ythgnpmchhikchaa.Q
open Go.RowKit Go.Proofs.YthgnpmchhikchaaW.PrintWords Go.Proofs.YthgnpmchhikchaaW.PrintLast Go.Proofs.YthgnpmchhikchaaW.PrintMore
set_option linter.unusedVariables false

/-- What is known of a digit that is tried: u is what is divided, v1, v0 the divisor's halves, d the next digit, q the try, r what it leaves by v1. -/
structure Dig (v1 v0 u d q r Q : Nat) : Prop where
  hv1 : v1 < 4294967296
  hv1' : 2147483648 ≤ v1
  hv0 : v0 < 4294967296
  hd : d < 4294967296
  hu : u < v1 * 4294967296 + v0
  eq : u = q * v1 + r
  hr : r < 4294967296
  hQ : Q = (u * 4294967296 + d) / (v1 * 4294967296 + v0)
  hge : Q ≤ q
  hq : q ≤ 4294967297
theorem dig_le {v1 v0 u d q r Q : Nat} (hv1' : 2147483648 ≤ v1) (eq : u = q * v1 + r) (hQ : Q = (u * 4294967296 + d) / (v1 * 4294967296 + v0)) : q ≤ Q ↔ q * v0 ≤ r * 4294967296 + d := by
  subst hQ
  rw [Nat.le_div_iff_mul_le (by omega), Nat.mul_add, ← Nat.mul_assoc]
  generalize q * v1 = X at *
  generalize q * v0 = Y at *
  omega
theorem dig_lt' (u d v B : Nat) (hd : d < B) (hu : u < v) : (u * B + d) / v < B := by
  refine (Nat.div_lt_iff_lt_mul (by omega)).2 ?_
  have : (u + 1) * B ≤ v * B := Nat.mul_le_mul_right _ hu
  rw [Nat.succ_mul] at this
  rw [Nat.mul_comm B v]
  omega
theorem dig_lt {v1 v0 u d Q : Nat} (hv1' : 2147483648 ≤ v1) (hd : d < 4294967296) (hu : u < v1 * 4294967296 + v0) (hQ : Q = (u * 4294967296 + d) / (v1 * 4294967296 + v0)) : Q < 4294967296 := by
  rw [hQ]
  exact dig_lt' u d _ _ hd hu
theorem Dig.stop {v1 v0 u d q r Q : Nat} (h : Dig v1 v0 u d q r Q) (hc : ¬ (4294967296 ≤ q ∨ r * 4294967296 + d < q * v0)) : q = Q := by
  have := (dig_le h.hv1' h.eq h.hQ).2 (by omega)
  have := h.hge
  omega
theorem Dig.gt {v1 v0 u d q r Q : Nat} (h : Dig v1 v0 u d q r Q) (hc : 4294967296 ≤ q ∨ r * 4294967296 + d < q * v0) : Q < q := by
  rcases hc with hc | hc
  · have := dig_lt h.hv1' h.hd h.hu h.hQ
    omega
  · rcases Nat.lt_or_ge Q q with hlt | hge
    · exact hlt
    · have := (dig_le h.hv1' h.eq h.hQ).1 hge
      omega
theorem dig_down {q v1 r : Nat} (hq : 0 < q) : q * v1 + r = (q - 1) * v1 + (r + v1) := by
  obtain ⟨p, rfl⟩ : ∃ p, q = p + 1 := ⟨q - 1, by omega⟩
  rw [Nat.add_sub_cancel, Nat.succ_mul]; omega
theorem Dig.last {v1 v0 u d q r Q : Nat} (h : Dig v1 v0 u d q r Q) (hc : 4294967296 ≤ q ∨ r * 4294967296 + d < q * v0) (hb : 4294967296 ≤ r + v1) : q - 1 = Q := by
  have hgt := h.gt hc
  have hq := h.hq
  have hv0 := h.hv0
  have := (dig_le (q := q - 1) (r := r + v1) h.hv1' (by rw [h.eq, dig_down (by omega)]) h.hQ).2 (by
    have : (q - 1) * v0 ≤ 4294967296 * 4294967295 := Nat.mul_le_mul (by omega) (by omega)
    omega)
  omega
theorem Dig.next {v1 v0 u d q r Q : Nat} (h : Dig v1 v0 u d q r Q) (hc : 4294967296 ≤ q ∨ r * 4294967296 + d < q * v0) (hb : r + v1 < 4294967296) : Dig v1 v0 u d (q - 1) (r + v1) Q := by
  have hgt := h.gt hc
  exact ⟨h.hv1, h.hv1', h.hv0, h.hd, h.hu, by rw [h.eq, dig_down (by omega)], hb, h.hQ, by omega, by have := h.hq; omega⟩
theorem dig_start {v1 v0 u d : Nat} (hv1 : v1 < 4294967296) (hv1' : 2147483648 ≤ v1) (hv0 : v0 < 4294967296) (hd : d < 4294967296) (hu : u < v1 * 4294967296 + v0) :
    Dig v1 v0 u d (u / v1) (u % v1) ((u * 4294967296 + d) / (v1 * 4294967296 + v0)) := by
  refine ⟨hv1, hv1', hv0, hd, hu, by rw [Nat.mul_comm, Nat.div_add_mod], Nat.lt_trans (Nat.mod_lt _ (by omega)) hv1, rfl, ?_, ?_⟩
  · rw [Nat.le_div_iff_mul_le (by omega)]
    generalize hQ : (u * 4294967296 + d) / (v1 * 4294967296 + v0) = Q
    have h1 : Q * (v1 * 4294967296 + v0) ≤ u * 4294967296 + d := by rw [← hQ]; exact Nat.div_mul_le_self _ _
    rw [Nat.mul_add, ← Nat.mul_assoc] at h1
    generalize Q * v1 = X at *
    generalize Q * v0 = Y at *
    omega
  · have : u / v1 < 4294967298 := by
      rw [Nat.div_lt_iff_lt_mul (by omega)]; omega
    omega

theorem wsub (q : Nat) (h : 0 < q) (h2 : q ≤ 4294967297) : IntKind.u64.wrap ((q : Int) - 1) = ((q - 1 : Nat) : Int) := by rw [u64_in (by omega) (by omega)]; omega
theorem cond_eq (q v0 r d : Nat) (hq : q < 4294967296) (hv : v0 < 4294967296) (hr : r < 4294967296) (hd : d < 4294967296) :
    decide ((IntKind.u64.wrap ((q : Int) * (v0 : Int))) > (IntKind.u64.wrap ((IntKind.u64.wrap (4294967296 * (r : Int))) + (d : Int)))) = decide (r * 4294967296 + d < q * v0) := by
  have hm : q * v0 ≤ 4294967295 * 4294967295 := Nat.mul_le_mul (by omega) (by omega)
  rw [← Int.natCast_mul]
  generalize q * v0 = X at *
  rw [u64_in (x := (X : Int)) (by omega) (by omega), u64_in (x := 4294967296 * (r : Int)) (by omega) (by omega), u64_in (by omega) (by omega)]
  by_cases h : r * 4294967296 + d < X
  · rw [decide_eq_true h, decide_eq_true (by omega)]
  · rw [decide_eq_false h, decide_eq_false (by omega)]
theorem loop1 (v s v1 v0 u d e : Nat) (Q : Nat) (res : Int × Int) (hj : Ev (fun k => bits_Div64.j2 k (v : Int) (s : Int) (v1 : Int) (v0 : Int) (u : Int) (d : Int) (e : Int) (Q : Int)) res) : ∀ (n q r : Nat), q ≤ n → Dig v1 v0 u d q r Q →
    Ev (fun k => bits_Div64.l0 k (v : Int) (s : Int) (v1 : Int) (v0 : Int) (u : Int) (d : Int) (e : Int) (q : Int) (r : Int)) res
  | n, q, r, hn, h => by
    have hr := h.hr; have hv1 := h.hv1; have hv0 := h.hv0; have hd := h.hd; have hqb := h.hq
    refine Ev.step (f := fun k => bits_Div64.j1 k (v : Int) (s : Int) (v1 : Int) (v0 : Int) (u : Int) (d : Int) (e : Int) (q : Int) (r : Int) (decide (4294967296 ≤ q ∨ r * 4294967296 + d < q * v0))) (fun k => ?_) ?_
    · simp only [bits_Div64.l0]
      by_cases hq : q ≥ 4294967296
      · rw [if_pos (by omega), decide_eq_true (.inl hq)]
      · rw [if_neg (by omega), cond_eq q v0 r d (by omega) hv0 hr hd]
        congr 1
        by_cases h2 : r * 4294967296 + d < q * v0
        · rw [decide_eq_true h2, decide_eq_true (.inr h2)]
        · rw [decide_eq_false h2, decide_eq_false (by omega)]
    · have w : IntKind.u64.wrap ((r : Int) + (v1 : Int)) = ((r + v1 : Nat) : Int) := by rw [u64_in (by omega) (by omega)]; omega
      by_cases hc : 4294967296 ≤ q ∨ r * 4294967296 + d < q * v0
      · rw [decide_eq_true hc]
        have hgt := h.gt hc
        have w2 := wsub q (by omega) hqb
        by_cases hb : 4294967296 ≤ r + v1
        · refine Ev.step (fun k => ?_) hj
          simp only [bits_Div64.j1]
          rw [if_pos trivial, w, w2, if_pos (by omega), h.last hc hb]
        · cases n with
          | zero => omega
          | succ n =>
            refine Ev.step (fun k => ?_) (loop1 v s v1 v0 u d e Q res hj n (q - 1) (r + v1) (by omega) (h.next hc (by omega)))
            simp only [bits_Div64.j1]
            rw [if_pos trivial, w, w2, if_neg (by omega)]
      · rw [decide_eq_false hc]
        refine Ev.step (fun k => ?_) hj
        simp only [bits_Div64.j1]
        rw [if_neg (by decide), h.stop hc]
/-- What Div64 hands back for the digits q1, Q. -/
def divOut (v s e q1 u Q : Nat) : Int × Int := (IntKind.u64.wrap ((IntKind.u64.wrap ((q1 : Int) * 4294967296)) + (Q : Int)), shr .u64 (IntKind.u64.wrap ((IntKind.u64.wrap ((IntKind.u64.wrap ((u : Int) * 4294967296)) + (e : Int))) - (IntKind.u64.wrap ((Q : Int) * (v : Int))))) (s : Int))
theorem loop2 (v s v1 v0 u e q1 : Nat) (Q : Nat) : ∀ (n q r : Nat), q ≤ n → Dig v1 v0 u e q r Q →
    Ev (fun k => bits_Div64.l1 k (v : Int) (s : Int) (v1 : Int) (v0 : Int) (e : Int) (q1 : Int) (r : Int) (u : Int) (q : Int)) (divOut v s e q1 u Q)
  | n, q, r, hn, h => by
    have hr := h.hr; have hv1 := h.hv1; have hv0 := h.hv0; have hd := h.hd; have hqb := h.hq
    refine Ev.step (f := fun k => bits_Div64.j4 k (v : Int) (s : Int) (v1 : Int) (v0 : Int) (e : Int) (q1 : Int) (r : Int) (u : Int) (q : Int) (decide (4294967296 ≤ q ∨ r * 4294967296 + e < q * v0))) (fun k => ?_) ?_
    · simp only [bits_Div64.l1]
      by_cases hq : q ≥ 4294967296
      · rw [if_pos (by omega), decide_eq_true (.inl hq)]
      · rw [if_neg (by omega), cond_eq q v0 r e (by omega) hv0 hr hd]
        congr 1
        by_cases h2 : r * 4294967296 + e < q * v0
        · rw [decide_eq_true h2, decide_eq_true (.inr h2)]
        · rw [decide_eq_false h2, decide_eq_false (by omega)]
    · have w : IntKind.u64.wrap ((r : Int) + (v1 : Int)) = ((r + v1 : Nat) : Int) := by rw [u64_in (by omega) (by omega)]; omega
      by_cases hc : 4294967296 ≤ q ∨ r * 4294967296 + e < q * v0
      · rw [decide_eq_true hc]
        have hgt := h.gt hc
        have w2 := wsub q (by omega) hqb
        by_cases hb : 4294967296 ≤ r + v1
        · refine Ev.step (fun k => ?_) (Ev.now _)
          simp only [bits_Div64.j4]
          rw [if_pos trivial, w, w2, if_pos (by omega), if_pos (by omega), h.last hc hb]
          rfl
        · cases n with
          | zero => omega
          | succ n =>
            refine Ev.step (fun k => ?_) (loop2 v s v1 v0 u e q1 Q n (q - 1) (r + v1) (by omega) (h.next hc (by omega)))
            simp only [bits_Div64.j4]
            rw [if_pos trivial, w, w2, if_neg (by omega)]
      · rw [decide_eq_false hc]
        refine Ev.step (fun k => ?_) (Ev.now _)
        simp only [bits_Div64.j4]
        rw [if_neg (by decide), if_pos (by omega), h.stop hc]
        rfl
end Go.Proofs.Ythgnpmchhikchaa.Q
