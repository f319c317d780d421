/- Plain arithmetic: fixq.Sqrt and the reference's Sqrt are the greatest root whose square isn't above. -/
import Derived.Test.YthgnpmchhikchaaMSum
import Derived.Test.YthgnpmchhikchaaQ10
namespace Go.Proofs.Ythgnpmchhikchaa.Q
open Go.RowKit Go.Proofs.YthgnpmchhikchaaW.PrintWords Go.Proofs.YthgnpmchhikchaaW.PrintLast Go.Proofs.YthgnpmchhikchaaW.PrintMore
set_option linter.unusedVariables false

theorem fits_iff (hi lo r : Nat) (hr : r < 18446744073709551616) (hl : lo < 18446744073709551616) : sqFits (hi : Int) (lo : Int) (r : Int) = decide (r * r ≤ hi * 18446744073709551616 + lo) := by
  rw [sqFits_eq (mul64_eq r r hr hr)]
  generalize r * r = P
  by_cases h1 : P / 18446744073709551616 < hi
  · rw [decide_eq_true (show (((P / 18446744073709551616 : Nat) : Int)) < (hi : Int) by omega), Bool.true_or, decide_eq_true (by omega)]
  · rw [decide_eq_false (show ¬ (((P / 18446744073709551616 : Nat) : Int)) < (hi : Int) by omega), Bool.false_or]
    by_cases h2 : P / 18446744073709551616 = hi
    · rw [show ((((P / 18446744073709551616 : Nat) : Int)) == (hi : Int)) = true by rw [beq_iff_eq]; omega, Bool.true_and]
      by_cases h3 : P % 18446744073709551616 ≤ lo
      · rw [decide_eq_true (by omega), decide_eq_true (by omega)]
      · rw [decide_eq_false (by omega), decide_eq_false (by omega)]
    · rw [show ((((P / 18446744073709551616 : Nat) : Int)) == (hi : Int)) = false by rw [beq_eq_false_iff_ne]; omega, Bool.false_and, decide_eq_false (by omega)]
theorem pow_le48 (n : Nat) (h : n ≤ 48) : 2 ^ n ≤ 281474976710656 := by
  have : (2 : Nat) ^ n ≤ 2 ^ 48 := Nat.pow_le_pow_right (by decide) h
  simpa using this
theorem sq_loop (hi lo : Nat) (hl : lo < 18446744073709551616) : ∀ (n x q : Nat), x = 2 ^ n * q → n ≤ 48 → x + 2 ^ n ≤ 281474976710656 → x * x ≤ hi * 18446744073709551616 + lo → hi * 18446744073709551616 + lo < (x + 2 ^ n) * (x + 2 ^ n) →
    ∃ R : Nat, sqLoop (hi : Int) (lo : Int) n (x : Int) = (R : Int) ∧ R * R ≤ hi * 18446744073709551616 + lo ∧ hi * 18446744073709551616 + lo < (R + 1) * (R + 1) ∧ R < 281474976710656
  | 0, x, q, hx, hn, hb, h1, h2 => ⟨x, rfl, h1, by simpa using h2, by simp at hb; omega⟩
  | n + 1, x, q, hx, hn, hb, h1, h2 => by
    have hp := pow_le48 n (by omega)
    have hps : 2 ^ (n + 1) = 2 * 2 ^ n := by rw [Nat.pow_succ, Nat.mul_comm]
    have hw : IntKind.u64.wrap (2 ^ n) = ((2 ^ n : Nat) : Int) := by
      have e : ((2 : Int) ^ n) = ((2 ^ n : Nat) : Int) := by simp
      rw [e, u64_in (by omega) (by omega)]
    have hor : bits .or .u64 (x : Int) (IntKind.u64.wrap (2 ^ n)) = ((x + 2 ^ n : Nat) : Int) := by
      rw [hw]
      have hj := bits_join .u64 64 (by decide) wraps_u64 (n + 1) (x : Int) ((2 ^ n : Nat) : Int) (by omega)
        (by
          have : x % 2 ^ (n + 1) = 0 := by rw [hx]; exact Nat.mul_mod_right _ _
          exact_mod_cast this) (by omega) (by omega)
        (by
          have : 2 ^ n < 2 ^ (n + 1) := by rw [hps]; have := Nat.two_pow_pos n; omega
          exact_mod_cast this) (by omega)
      rw [hj]; omega
    unfold sqLoop
    rw [hor, fits_iff hi lo _ (by omega) hl]
    by_cases hf : (x + 2 ^ n) * (x + 2 ^ n) ≤ hi * 18446744073709551616 + lo
    · rw [decide_eq_true hf, if_pos rfl]
      refine sq_loop hi lo hl n (x + 2 ^ n) (2 * q + 1) ?_ (by omega) (by omega) hf ?_
      · rw [hx, hps, Nat.mul_add, Nat.mul_one]
        rw [Nat.mul_comm 2 (2 ^ n), Nat.mul_assoc]
      · rw [show x + 2 ^ n + 2 ^ n = x + 2 ^ (n + 1) by omega]; exact h2
    · rw [decide_eq_false hf, if_neg (by decide)]
      refine sq_loop hi lo hl n x (2 * q) ?_ (by omega) (by omega) h1 (by omega)
      rw [hx, hps, Nat.mul_comm 2 (2 ^ n), Nat.mul_assoc]
/-- The root: its square isn't above, that of the next one is. -/
def IsRoot (N R : Nat) : Prop := R * R ≤ N ∧ N < (R + 1) * (R + 1)
theorem root_mono {M N R S : Nat} (h : M ≤ N) (hr : IsRoot M R) (hs : IsRoot N S) : R ≤ S := by
  rcases Nat.lt_or_ge S R with hlt | hge
  · have : (S + 1) * (S + 1) ≤ R * R := Nat.mul_le_mul hlt hlt
    have := hr.1; have := hs.2; omega
  · exact hge
theorem root_uniq {N R S : Nat} (hr : IsRoot N R) (hs : IsRoot N S) : R = S := Nat.le_antisymm (root_mono (Nat.le_refl _) hr hs) (root_mono (Nat.le_refl _) hs hr)
theorem sqrt_eq (a : Int) (h0 : 0 ≤ a) (ha : In64 a) : ∃ R : Nat, fixq_Sqrt.f a = some ((R : Int), 0) ∧ IsRoot (a.natAbs * 4294967296) R ∧ R < 281474976710656 := by
  obtain ⟨n, rfl⟩ := Int.eq_ofNat_of_zero_le h0
  have hn : n ≤ 9223372036854775807 := by have := ha.2; omega
  have e1 : IntKind.u64.wrap (n : Int) = (n : Int) := u64_in (by omega) (by omega)
  have e2 : (n : Int) / 4294967296 = ((n / 4294967296 : Nat) : Int) := by omega
  have e3 : IntKind.u64.wrap ((n : Int) * 4294967296) = ((n * 4294967296 % 18446744073709551616 : Nat) : Int) := by rw [u64w]; omega
  have e4 : n / 4294967296 * 18446744073709551616 + n * 4294967296 % 18446744073709551616 = n * 4294967296 := by omega
  obtain ⟨R, hR, h1, h2, h3⟩ := sq_loop (n / 4294967296) (n * 4294967296 % 18446744073709551616) (by omega) 48 0 0 rfl (by omega) (by decide) (by omega) (by rw [e4]; simp; omega)
  rw [e4] at h1 h2
  refine ⟨R, ?_, ⟨h1, h2⟩, h3⟩
  unfold fixq_Sqrt.f
  rw [if_neg (by omega), e1, e2, e3, show sqLoop ((n / 4294967296 : Nat) : Int) ((n * 4294967296 % 18446744073709551616 : Nat) : Int) 48 0 = (R : Int) from hR, wrap_in (by omega) (by omega)]
theorem sqrt_neg (a : Int) (h : a < 0) : fixq_Sqrt.f a = some (0, 2) := by unfold fixq_Sqrt.f; rw [if_pos h]

theorem refsqrt_pow (w : List Bool) (s : Bool) (r : Int) (i : Nat) (t : Int) (res : Int) (hi : i ≤ 47) (h : Ev (fun k => astrolaberef01_Sqrt.l1 k r (i : Int) t ((2 ^ i : Nat) : Int) (i : Int) w s) res) : ∀ (d j : Nat), j + d = i →
    Ev (fun k => astrolaberef01_Sqrt.l1 k r (i : Int) t ((2 ^ j : Nat) : Int) (j : Int) w s) res
  | 0, j, hj => by
    obtain rfl : j = i := by omega
    exact h
  | d + 1, j, hj => by
    have hp := pow_le48 j (by omega)
    have e1 : wrap64 (2 * ((2 ^ j : Nat) : Int)) = ((2 ^ (j + 1) : Nat) : Int) := by
      have hps : 2 ^ (j + 1) = 2 * 2 ^ j := by rw [Nat.pow_succ, Nat.mul_comm]
      generalize 2 ^ (j + 1) = Q at *
      generalize 2 ^ j = P at *
      rw [wrap_in (by omega) (by omega)]; omega
    have e2 : wrap64 ((j : Int) + 1) = ((j + 1 : Nat) : Int) := by rw [wrap_in (by omega) (by omega)]; omega
    refine Ev.step (fun k => ?_) (refsqrt_pow w s r i t res hi h d (j + 1) (by omega))
    simp only [astrolaberef01_Sqrt.l1]
    rw [if_pos (by omega), e1, e2]
theorem refsqrt_loop (w : List Bool) (s : Bool) (hw : w.length ≤ 1000) : ∀ (n x : Nat), n ≤ 48 → x + 2 ^ n ≤ 281474976710656 → x * x ≤ val w → val w < (x + 2 ^ n) * (x + 2 ^ n) →
    ∃ R : Nat, Ev (fun k => astrolaberef01_Sqrt.l0 k (x : Int) ((n : Int) - 1) w s) (R : Int) ∧ IsRoot (val w) R
  | 0, x, hn, hb, h1, h2 => by
    refine ⟨x, Ev.step (f := fun _ => some (x : Int)) (fun k => ?_) (Ev.now _), h1, by simpa using h2⟩
    simp only [astrolaberef01_Sqrt.l0]
    rw [if_neg (by omega)]
  | n + 1, x, hn, hb, h1, h2 => by
    have e1 : ((n + 1 : Nat) : Int) - 1 = (n : Int) := by omega
    rw [e1]
    have hp := pow_le48 n (by omega)
    have hps : 2 ^ (n + 1) = 2 * 2 ^ n := by rw [Nat.pow_succ, Nat.mul_comm]
    have e2 : wrap64 ((x : Int) + ((2 ^ n : Nat) : Int)) = ((x + 2 ^ n : Nat) : Int) := by rw [wrap_in (by omega) (by omega)]; omega
    have e3 : wrap64 ((n : Int) - 1) = (n : Int) - 1 := wrap_in (by omega) (by omega)
    obtain ⟨l, hl, vl, ll⟩ := of_ev ((x + 2 ^ n : Nat) : Int) ⟨by omega, by omega⟩
    obtain ⟨m, hm, vm, lm⟩ := mul_ev l (decide (((x + 2 ^ n : Nat) : Int) < 0)) l (decide (((x + 2 ^ n : Nat) : Int) < 0)) (by omega) (by omega)
    have hc := cmp_ev m w (by omega) (by omega)
    rw [vm, vl, Int.natAbs_natCast] at hc
    by_cases hf : (x + 2 ^ n) * (x + 2 ^ n) ≤ val w
    · obtain ⟨R, hR, hr⟩ := refsqrt_loop w s hw n (x + 2 ^ n) (by omega) (by omega) hf (by rw [show x + 2 ^ n + 2 ^ n = x + 2 ^ (n + 1) by omega]; exact h2)
      refine ⟨R, ?_, hr⟩
      refine Ev.step (fun k => ?_) (refsqrt_pow w s (x : Int) n (x : Int) (R : Int) (by omega) ?_ n 0 (by omega))
      · simp only [astrolaberef01_Sqrt.l0]
        rw [if_pos (by omega)]; rfl
      · refine Ev.step (f := fun k => (astrolaberef01_Of.f k ((x + 2 ^ n : Nat) : Int)).bind fun bt354 => (astrolaberef01_Of.f k ((x + 2 ^ n : Nat) : Int)).bind fun bt358 => (astrolaberef01_Mul.f k bt354.1 bt354.2 bt358.1 bt358.2).bind fun bt362 => (astrolaberef01_Cmp.f k bt362.1 w).bind fun t366 => if t366 ≤ 0 then astrolaberef01_Sqrt.l0 k ((x + 2 ^ n : Nat) : Int) ((n : Int) - 1) w s else astrolaberef01_Sqrt.l0 k (x : Int) ((n : Int) - 1) w s) (fun k => ?_) ?_
        · simp only [astrolaberef01_Sqrt.l1]
          rw [if_neg (by omega), e2, e3]
        · refine Ev.bind hl (Ev.bind hl (Ev.bind hm (Ev.bind hc ?_)))
          refine Ev.congr (fun k => ?_) hR
          rw [if_pos (by unfold cmpN; split; omega; split <;> omega)]
    · obtain ⟨R, hR, hr⟩ := refsqrt_loop w s hw n x (by omega) (by omega) h1 (by omega)
      refine ⟨R, ?_, hr⟩
      refine Ev.step (fun k => ?_) (refsqrt_pow w s (x : Int) n (x : Int) (R : Int) (by omega) ?_ n 0 (by omega))
      · simp only [astrolaberef01_Sqrt.l0]
        rw [if_pos (by omega)]; rfl
      · refine Ev.step (f := fun k => (astrolaberef01_Of.f k ((x + 2 ^ n : Nat) : Int)).bind fun bt354 => (astrolaberef01_Of.f k ((x + 2 ^ n : Nat) : Int)).bind fun bt358 => (astrolaberef01_Mul.f k bt354.1 bt354.2 bt358.1 bt358.2).bind fun bt362 => (astrolaberef01_Cmp.f k bt362.1 w).bind fun t366 => if t366 ≤ 0 then astrolaberef01_Sqrt.l0 k ((x + 2 ^ n : Nat) : Int) ((n : Int) - 1) w s else astrolaberef01_Sqrt.l0 k (x : Int) ((n : Int) - 1) w s) (fun k => ?_) ?_
        · simp only [astrolaberef01_Sqrt.l1]
          rw [if_neg (by omega), e2, e3]
        · refine Ev.bind hl (Ev.bind hl (Ev.bind hm (Ev.bind hc ?_)))
          refine Ev.congr (fun k => ?_) hR
          rw [if_neg (by unfold cmpN; rw [if_neg (by omega), if_neg (by omega)]; omega)]
theorem refsqrt_ev (a : Int) (h0 : 0 ≤ a) (ha : In64 a) (R : Nat) (hR : IsRoot (a.natAbs * 4294967296) R) : Ev (fun k => astrolaberef01_Sqrt.f k a) (R : Int) := by
  obtain ⟨l, hl, vl, ll⟩ := of_ev a ha
  have vw : val (List.replicate 32 false ++ l) = a.natAbs * 4294967296 := by rw [val_zeros, vl, Nat.mul_comm]
  have hn := ha.2
  obtain ⟨S, hS, hs⟩ := refsqrt_loop (List.replicate 32 false ++ l) (decide (a < 0)) (by simp; omega) 48 0 (by omega) (by decide) (by omega) (by rw [vw]; simp; omega)
  rw [vw] at hs
  have := root_uniq hR hs
  subst this
  unfold astrolaberef01_Sqrt.f
  refine Ev.bind hl ?_
  refine Ev.congr (fun k => ?_) hS
  rw [up_eq l _ (by omega)]
  rfl
end Go.Proofs.Ythgnpmchhikchaa.Q
