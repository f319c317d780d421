/- Plain arithmetic: the reference's Lerp is fixq's; between, at both ends, further along. -/
import Derived.Test.YthgnpmchhikchaaMLerp
namespace Go.Proofs.Ythgnpmchhikchaa.Q
open Go.RowKit Go.Proofs.YthgnpmchhikchaaW.PrintWords Go.Proofs.YthgnpmchhikchaaW.PrintLast Go.Proofs.YthgnpmchhikchaaW.PrintMore
set_option linter.unusedVariables false

theorem val_drop_div (l : List Bool) (n : Nat) (h : n ≤ l.length) : val (l.drop n) = val l / 2 ^ n := by
  have e : val l = val (l.take n) + 2 ^ n * val (l.drop n) := by
    have := val_append (l.take n) (l.drop n)
    rw [List.take_append_drop, List.length_take, Nat.min_eq_left h] at this
    exact this
  have hlt := val_lt (l.take n)
  rw [List.length_take, Nat.min_eq_left h] at hlt
  rw [e, Nat.add_mul_div_left _ _ (Nat.two_pow_pos n), Nat.div_eq_of_lt hlt]; omega
theorem down_ev (l : List Bool) (s : Bool) (n : Nat) (hl : l.length ≤ 2000) : ∃ r, astrolaberef01_Down.f l s (n : Int) = some (r, s) ∧ val r = val l / 2 ^ n ∧ r.length ≤ 2000 := by
  unfold astrolaberef01_Down.f
  by_cases h : n > l.length
  · refine ⟨[], by rw [if_pos (by omega)], ?_, by simp⟩
    have h1 := val_lt l
    have h2 : 2 ^ l.length ≤ 2 ^ n := Nat.pow_le_pow_right (by decide) (by omega)
    rw [Nat.div_eq_of_lt (by omega)]; rfl
  · refine ⟨l.drop n, by rw [if_neg (by omega), if_pos (by omega), if_pos (by omega), Int.toNat_natCast], val_drop_div l n (by omega), by simp; omega⟩
theorem reflerp_j4 (a b m k : Int) (ha : In64 a) (hb : In64 b) : Ev (fun n => astrolaberef01_Lerp.j4 n a b (lerpK k : Int) (lerpM m (lerpK k) : Int)) ((lerpV a b m k).1, lerpF a b m k) := by
  have hK := lerpK_le k
  have hM := lerpM_le m (lerpK k)
  have hp := pow32 hK
  unfold lerpF lerpV lerpP lerpD
  generalize lerpM m (lerpK k) = M at *
  generalize lerpK k = K at *
  have hd := sat_bd (b - a)
  have hdiff := diff_ev b a hb ha
  generalize hdd : sat (b - a) = D at *
  have hf1 : D.2 = 0 ∨ D.2 = 1 := by rw [← hdd]; exact sat_flag01 _
  obtain ⟨p, hp1, vp, lp⟩ := of_ev D.1 hd
  obtain ⟨q, hq1, vq, lq⟩ := of_ev (M : Int) ⟨by omega, by omega⟩
  obtain ⟨r, hr, vr, lr⟩ := mul_ev p (decide (D.1 < 0)) q (decide ((M : Int) < 0)) (by omega) (by omega)
  obtain ⟨t, ht, vt, lt⟩ := down_ev r ((decide (D.1 < 0)) != (decide ((M : Int) < 0))) K (by omega)
  rw [vr, vp, vq, Int.natAbs_natCast] at vt
  have hh := heldref_ev t ((decide (D.1 < 0)) != (decide ((M : Int) < 0))) (by omega)
  rw [vt, decide_eq_false (show ¬ (M : Int) < 0 by omega), Bool.bne_false] at hh
  have hs := sum_ev a (sat (sg (decide (D.1 < 0)) (D.1.natAbs * M / 2 ^ K))).1 ha (sat_bd _)
  have f2 := sat_flag01 (sg (decide (D.1 < 0)) (D.1.natAbs * M / 2 ^ K))
  generalize sat (sg (decide (D.1 < 0)) (D.1.natAbs * M / 2 ^ K)) = G at *
  have f3 := sat_flag01 (a + G.1)
  generalize sat (a + G.1) = S at *
  refine Ev.step (f := fun k => (astrolaberef01_Diff.f k b a).bind fun bt406 => ((astrolaberef01_Of.f k bt406.1).bind fun bt408 => ((astrolaberef01_Of.f k (M : Int)).bind fun bt412 => ((astrolaberef01_Mul.f k bt408.1 bt408.2 bt412.1 bt412.2).bind fun bt416 => ((astrolaberef01_Down.f bt416.1 bt416.2 (K : Int)).bind fun bt420 => ((astrolaberef01_Held.f k bt420.1 bt420.2).bind fun bt424 => ((astrolaberef01_Sum.f k a bt424.1).bind fun bt426 => (if (wrap64 ((wrap64 (bt406.2 + bt424.2)) + bt426.2)) > 0 then (some (bt426.1, 1)) else (some (bt426.1, 0))))))))))
    (fun k => by simp only [astrolaberef01_Lerp.j4]) ?_
  refine Ev.bind hdiff (Ev.bind hp1 (Ev.bind hq1 (Ev.bind hr (Ev.bind (a := (t, (decide (D.1 < 0)) != (decide ((M : Int) < 0)))) (Ev.congr (fun k => ht) (Ev.now _)) ?_))))
  rw [decide_eq_false (show ¬ (M : Int) < 0 by omega), Bool.bne_false]
  refine Ev.bind hh (Ev.bind hs ?_)
  have w1 : wrap64 (D.2 + G.2) = D.2 + G.2 := wrap_in (by omega) (by omega)
  rw [w1, wrap_in (by omega) (by omega)]
  by_cases hz : D.2 = 0 ∧ G.2 = 0 ∧ S.2 = 0
  · rw [if_pos hz]
    exact Ev.congr (fun k => by rw [if_neg (by omega)]) (Ev.now _)
  · rw [if_neg hz]
    exact Ev.congr (fun k => by rw [if_pos (by omega)]) (Ev.now _)
theorem reflerp_loop (a b m : Int) (K : Nat) (hK : K ≤ 32) (res : Int × Int) (h : Ev (fun n => astrolaberef01_Lerp.j4 n a b (K : Int) (lerpM m K : Int)) res) : ∀ (d j : Nat), j + d = K →
    Ev (fun n => astrolaberef01_Lerp.l0 n a b m (K : Int) ((2 ^ j : Nat) : Int) (j : Int)) res
  | 0, j, hj => by
    obtain rfl : j = K := by omega
    refine Ev.step (f := fun n => astrolaberef01_Lerp.j3 n a b (j : Int) ((2 ^ j : Nat) : Int) (if m < 0 then 0 else m)) (fun k => ?_) ?_
    · simp only [astrolaberef01_Lerp.l0]
      rw [if_neg (by omega)]
      split <;> rfl
    · refine Ev.step (fun k => ?_) h
      simp only [astrolaberef01_Lerp.j3]
      unfold lerpM
      generalize 2 ^ j = P
      by_cases h1 : m < 0
      · rw [if_pos h1, if_pos h1, if_neg (by omega)]; rfl
      · rw [if_neg h1, if_neg h1]
        by_cases h2 : m > (P : Int)
        · rw [if_pos h2, if_pos h2]
        · rw [if_neg h2, if_neg h2]; congr 1; omega
  | d + 1, j, hj => by
    have hp := pow32 (K := j + 1) (by omega)
    have hps : 2 ^ (j + 1) = 2 * 2 ^ j := by rw [Nat.pow_succ, Nat.mul_comm]
    have ih := reflerp_loop a b m K hK res h d (j + 1) (by omega)
    refine Ev.step (fun k => ?_) ih
    simp only [astrolaberef01_Lerp.l0]
    have e1 : wrap64 (2 * ((2 ^ j : Nat) : Int)) = ((2 ^ (j + 1) : Nat) : Int) := by
      generalize 2 ^ (j + 1) = Q at *
      generalize 2 ^ j = P at *
      rw [wrap_in (by omega) (by omega)]; omega
    have e2 : wrap64 ((j : Int) + 1) = ((j + 1 : Nat) : Int) := by rw [wrap_in (by omega) (by omega)]; omega
    rw [if_pos (by omega), e1, e2]
theorem reflerp_ev (a b m k : Int) (ha : In64 a) (hb : In64 b) : Ev (fun n => astrolaberef01_Lerp.f n a b m k) ((lerpV a b m k).1, lerpF a b m k) := by
  have h := reflerp_loop a b m (lerpK k) (lerpK_le k) _ (reflerp_j4 a b m k ha hb) (lerpK k) 0 (by omega)
  refine Ev.congr (f := fun n => astrolaberef01_Lerp.j0 n a b m (if k < 0 then 0 else k)) (fun n => ?_) ?_
  · unfold astrolaberef01_Lerp.f; split <;> rfl
  · refine Ev.step (f := fun n => astrolaberef01_Lerp.j1 n a b m (lerpK k : Int)) (fun n => ?_) (Ev.step (fun n => ?_) h)
    · simp only [astrolaberef01_Lerp.j0]
      unfold lerpK
      by_cases h1 : k < 0
      · rw [if_pos h1, if_pos h1, if_neg (by decide)]; rfl
      · rw [if_neg h1, if_neg h1]
        by_cases h2 : k > 32
        · rw [if_pos h2, if_pos h2]; rfl
        · rw [if_neg h2, if_neg h2]; congr 1; omega
    · simp only [astrolaberef01_Lerp.j1]; rfl

/-- A part of a difference that is held: between 0 and it, and no nearer further along. -/
theorem part_in (d : Int) (hd : In64 d) (M K : Nat) (hM : M ≤ 2 ^ K) : lerpP d M K = (sg (decide (d < 0)) (d.natAbs * M / 2 ^ K), 0) ∧ d.natAbs * M / 2 ^ K ≤ d.natAbs := by
  have hle : d.natAbs * M / 2 ^ K ≤ d.natAbs := by
    have h1 : d.natAbs * M ≤ d.natAbs * 2 ^ K := Nat.mul_le_mul_left _ hM
    have := Nat.div_le_div_right (c := 2 ^ K) h1
    rwa [Nat.mul_div_cancel _ (Nat.two_pow_pos K)] at this
  refine ⟨?_, hle⟩
  unfold lerpP
  obtain ⟨h1, h2⟩ := hd
  generalize d.natAbs * M / 2 ^ K = p at *
  rw [sat_in]
  unfold sg In64
  by_cases hn : d < 0
  · rw [decide_eq_true hn, if_pos rfl]; omega
  · rw [decide_eq_false hn, if_neg (by decide)]; omega
end Go.Proofs.Ythgnpmchhikchaa.Q
