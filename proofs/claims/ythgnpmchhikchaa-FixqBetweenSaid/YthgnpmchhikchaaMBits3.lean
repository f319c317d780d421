/- Plain arithmetic: the reference's Of, Add, Neg, Mul, Up, Down, Held are those of whole numbers. -/
import Derived.Test.YthgnpmchhikchaaMBits2
import Derived.Test.YthgnpmchhikchaaQ6
namespace Go.Proofs.Ythgnpmchhikchaa.Q
open Go.RowKit Go.Proofs.YthgnpmchhikchaaW.PrintWords Go.Proofs.YthgnpmchhikchaaW.PrintLast Go.Proofs.YthgnpmchhikchaaW.PrintMore
set_option linter.unusedVariables false

theorem u64_in {x : Int} (h0 : 0 ≤ x) (h1 : x < 18446744073709551616) : IntKind.u64.wrap x = x := by
  unfold IntKind.wrap; simp [IntKind.bits, IntKind.signed]; omega

theorem of_loop (a : Int) : ∀ (n : Nat) (u : Nat) (l : List Bool), u < 2 ^ n → n ≤ 64 → l.length + n ≤ 1000 →
    ∃ r, Ev (fun k => astrolaberef01_Of.l0 k a l (u : Int)) (r, decide (a < 0)) ∧ val r = val l + 2 ^ l.length * u ∧ r.length ≤ l.length + n
  | 0, u, l, hu, hn, hl => by
    have : u = 0 := by simpa using hu
    subst this
    refine ⟨l, Ev.step (f := fun _ => some (l, decide (a < 0))) (fun k => ?_) (Ev.now _), by simp, by omega⟩
    simp [astrolaberef01_Of.l0]
  | n + 1, u, l, hu, hn, hl => by
    by_cases h : u = 0
    · subst h
      refine ⟨l, Ev.step (f := fun _ => some (l, decide (a < 0))) (fun k => ?_) (Ev.now _), by simp, by omega⟩
      simp [astrolaberef01_Of.l0]
    · have hu64 : u < 18446744073709551616 := Nat.lt_of_lt_of_le hu (by have : 2 ^ (n + 1) ≤ 2 ^ 64 := Nat.pow_le_pow_right (by decide) (by omega); omega)
      have e1 : Int.tmod (u : Int) 2 = ((u % 2 : Nat) : Int) := by rw [Int.tmod_eq_emod_of_nonneg (by omega)]; omega
      have e2 : IntKind.u64.wrap (Int.tdiv (u : Int) 2) = ((u / 2 : Nat) : Int) := by
        rw [Int.tdiv_eq_ediv_of_nonneg (by omega), u64_in (by omega) (by omega)]; omega
      obtain ⟨r, hr, hv, hlr⟩ := of_loop a n (u / 2) (l ++ [((u % 2 : Nat) : Int) == 1]) (by rw [Nat.pow_succ] at hu; omega) (by omega) (by simp; omega)
      refine ⟨r, Ev.step (fun k => ?_) hr, ?_, by simp at hlr; omega⟩
      · simp only [astrolaberef01_Of.l0]
        rw [if_pos (by omega), if_pos (by omega), e1, e2]
      · rw [hv, val_snoc, List.length_append]
        have : bit (((u % 2 : Nat) : Int) == 1) = u % 2 := by
          rcases Nat.mod_two_eq_zero_or_one u with h | h <;> rw [h] <;> rfl
        rw [this]
        simp only [List.length_singleton, Nat.pow_succ]
        rw [Nat.mul_assoc, Nat.add_assoc, ← Nat.mul_add]
        congr 2; omega
def In64 (a : Int) : Prop := -9223372036854775808 ≤ a ∧ a ≤ 9223372036854775807
theorem of_ev (a : Int) (ha : In64 a) : ∃ r, Ev (fun k => astrolaberef01_Of.f k a) (r, decide (a < 0)) ∧ val r = a.natAbs ∧ r.length ≤ 64 := by
  obtain ⟨h0, h1⟩ := ha
  obtain ⟨r, hr, hv, hl⟩ := of_loop a 64 a.natAbs [] (by simp; omega) (by omega) (by simp)
  refine ⟨r, ?_, by simpa [val] using hv, by simpa using hl⟩
  unfold astrolaberef01_Of.f
  by_cases h : a < 0
  · refine Ev.congr (fun k => by rw [if_pos h]) ?_
    refine Ev.step (fun k => ?_) hr
    simp only [astrolaberef01_Of.j0]
    have z1 : wrap64 (a + 1) = a + 1 := wrap_in (by omega) (by omega)
    have z2 : wrap64 (-(a + 1)) = -(a + 1) := wrap_in (by omega) (by omega)
    have z3 : IntKind.u64.wrap (-(a + 1)) = -(a + 1) := u64_in (by omega) (by omega)
    have z4 : IntKind.u64.wrap (-(a + 1) + 1) = (a.natAbs : Int) := by rw [u64_in (by omega) (by omega)]; omega
    rw [z1, z2, z3, z4]
  · refine Ev.congr (fun k => by rw [if_neg h]) ?_
    refine Ev.step (fun k => ?_) hr
    simp only [astrolaberef01_Of.j0]
    rw [u64_in (by omega) (by omega)]
    congr 1; omega

/-- A sign and a size, as a number. -/
def sg (b : Bool) (n : Nat) : Int := if b then -(n : Int) else (n : Int)
theorem sg_of (a : Int) : sg (decide (a < 0)) a.natAbs = a := by
  unfold sg; by_cases h : a < 0 <;> simp [h] <;> omega
theorem add_ev (l : List Bool) (s : Bool) (m : List Bool) (t : Bool) (hl : l.length ≤ 1000) (hm : m.length ≤ 1000) :
    ∃ r b, Ev (fun k => astrolaberef01_Add.f k l s m t) (r, b) ∧ sg b (val r) = sg s (val l) + sg t (val m) ∧ r.length ≤ 1001 := by
  unfold astrolaberef01_Add.f
  by_cases h : s = t
  · subst h
    obtain ⟨r, hr, hv, hlr⟩ := plus_ev l m (by omega) (by omega)
    refine ⟨r, s, Ev.congr (fun k => by rw [if_pos (by simp)]) (Ev.bind hr (Ev.now _)), ?_, by omega⟩
    rw [hv]; unfold sg; cases s <;> simp <;> omega
  · have hc := cmp_ev l m (by omega) (by omega)
    by_cases hge : val m ≤ val l
    · obtain ⟨r, hr, hv, hlr⟩ := minus_ev l m hge (by omega)
      refine ⟨r, s, Ev.congr (fun k => by rw [if_neg (by simpa using h)]) (Ev.bind hc (Ev.congr (fun k => by rw [if_pos (by unfold cmpN; split; omega; split <;> omega)]) (Ev.bind hr (Ev.now _)))), ?_, by omega⟩
      revert h; unfold sg; cases s <;> cases t <;> simp <;> omega
    · obtain ⟨r, hr, hv, hlr⟩ := minus_ev m l (by omega) (by omega)
      refine ⟨r, t, Ev.congr (fun k => by rw [if_neg (by simpa using h)]) (Ev.bind hc (Ev.congr (fun k => by rw [if_neg (by unfold cmpN; rw [if_pos (by omega)]; omega)]) (Ev.bind hr (Ev.now _)))), ?_, by omega⟩
      revert h; unfold sg; cases s <;> cases t <;> simp <;> omega

theorem mul_loop (a : List Bool) (s : Bool) (b : List Bool) (t : Bool) (ha : a.length ≤ 200) (hb : b.length ≤ 200) : ∀ (n : Nat) (out : List Bool), n ≤ b.length → out.length + 2 * n ≤ 1000 + a.length →
    ∃ r, Ev (fun k => astrolaberef01_Mul.l0 k out ((n : Int) - 1) a s b t) (r, s != t) ∧ val r = 2 ^ n * val out + val a * val (b.take n) ∧ r.length ≤ 1000 + a.length
  | 0, out, hn, ho => by
    refine ⟨tr out, Ev.step (f := fun k => (astrolaberef01_trim.f k out).bind fun t177 => some (t177, s != t)) (fun k => ?_) (Ev.bind (trim_ev out (by omega)) (Ev.now _)), ?_, by have := tr_length_le out; omega⟩
    · simp only [astrolaberef01_Mul.l0]
      rw [if_neg (by omega)]
    · rw [tr_val]; simp [val]
  | n + 1, out, hn, ho => by
    have e1 : ((n + 1 : Nat) : Int) - 1 = (n : Int) := by omega
    rw [e1]
    have w : wrap64 ((n : Int) - 1) = (n : Int) - 1 := wrap_in (by omega) (by omega)
    have hb1 : rdOf false b (n : Int) = b[n] := rdOf_nat b n (by omega)
    have vt : val (b.take (n + 1)) = val (b.take n) + 2 ^ n * bit b[n] := by
      rw [take_succ_snoc b n (by omega), val_snoc]
      have : (b.take n).length = n := by simp; omega
      rw [this]
    by_cases hbit : b[n] = true
    · obtain ⟨p, hp, hvp, hlp⟩ := plus_ev ([false] ++ out) a (by simp; omega) (by omega)
      have hpl : p.length + 2 * n ≤ 1000 + a.length ∨ True := .inr trivial
      by_cases hbig : p.length + 2 * n ≤ 1000 + a.length
      · obtain ⟨r, hr, hv, hl⟩ := mul_loop a s b t ha hb n p (by omega) hbig
        refine ⟨r, Ev.step (f := fun k => (astrolaberef01_plus.f k ([false] ++ out) a).bind fun t174 => astrolaberef01_Mul.l0 k t174 ((n : Int) - 1) a s b t) (fun k => ?_) (Ev.bind hp hr), ?_, hl⟩
        · simp only [astrolaberef01_Mul.l0, Option.bind_some]
          rw [if_pos (by omega), if_pos (by simp; omega), if_pos (by omega), if_pos (by omega), hb1, if_pos hbit, w]
        · rw [hv, hvp, vt, hbit]
          simp only [bit, if_true, List.singleton_append, val, Nat.pow_succ]
          simp only [Nat.mul_add, Nat.mul_one]
          rw [Nat.mul_comm (2 ^ n) (val a), Nat.mul_assoc (2 ^ n) 2]
          simp; omega
      · simp at hlp; omega
    · have hbf : b[n] = false := by simpa using hbit
      obtain ⟨r, hr, hv, hl⟩ := mul_loop a s b t ha hb n ([false] ++ out) (by omega) (by simp; omega)
      refine ⟨r, Ev.step (f := fun k => astrolaberef01_Mul.l0 k ([false] ++ out) ((n : Int) - 1) a s b t) (fun k => ?_) hr, ?_, hl⟩
      · simp only [astrolaberef01_Mul.l0, Option.bind_some]
        rw [if_pos (by omega), if_pos (by simp; omega), if_pos (by omega), if_pos (by omega), hb1, if_neg hbit, w]
      · rw [hv, vt, hbf]
        simp only [bit, List.singleton_append, val, Nat.pow_succ]
        simp [Nat.mul_assoc]
theorem mul_ev (a : List Bool) (s : Bool) (b : List Bool) (t : Bool) (ha : a.length ≤ 200) (hb : b.length ≤ 200) :
    ∃ r, Ev (fun k => astrolaberef01_Mul.f k a s b t) (r, s != t) ∧ val r = val a * val b ∧ r.length ≤ 1200 := by
  obtain ⟨r, hr, hv, hl⟩ := mul_loop a s b t ha hb b.length [] (Nat.le_refl _) (by simp; omega)
  refine ⟨r, Ev.congr (fun k => ?_) hr, by simpa [val] using hv, by omega⟩
  unfold astrolaberef01_Mul.f
  rw [wrap_in (by omega) (by omega)]
theorem sg_mul (s t : Bool) (m n : Nat) : sg (s != t) (m * n) = sg s m * sg t n := by
  unfold sg; cases s <;> cases t <;> simp [Int.neg_mul, Int.mul_neg]
theorem val_zeros (n : Nat) (l : List Bool) : val (List.replicate n false ++ l) = 2 ^ n * val l := by
  rw [val_append]
  have : ∀ n, val (List.replicate n false) = 0 := fun n => by
    induction n with
    | zero => rfl
    | succ n ih => simp [List.replicate_succ, val, ih, bit]
  rw [this]; simp
theorem up_eq (l : List Bool) (s : Bool) (hl : l.length ≤ 1000) : astrolaberef01_Up.f l s 32 = some (List.replicate 32 false ++ l, s) := by
  unfold astrolaberef01_Up.f
  rw [if_pos (by omega), if_pos (by decide)]
  simp only [Option.bind_some]
  rw [if_pos (by simp; omega)]
  rfl
end Go.Proofs.Ythgnpmchhikchaa.Q
