/- Plain arithmetic: the reference's Held, Sum, Diff are held sums and differences; the document's examples hold. -/
import Derived.Test.YthgnpmchhikchaaMFix
import Derived.Test.YthgnpmchhikchaaQ4
import Derived.Test.YthgnpmchhikchaaQ9
namespace Go.Proofs.Ythgnpmchhikchaa.Q
open Go.RowKit Go.Proofs.YthgnpmchhikchaaW.PrintWords Go.Proofs.YthgnpmchhikchaaW.PrintLast Go.Proofs.YthgnpmchhikchaaW.PrintMore
set_option linter.unusedVariables false

theorem val_drop_le (l : List Bool) (n : Nat) : val (l.drop n) ≤ val l := by
  have h : val l = val (l.take n) + 2 ^ (l.take n).length * val (l.drop n) := by rw [← val_append, List.take_append_drop]
  have : 1 * val (l.drop n) ≤ 2 ^ (l.take n).length * val (l.drop n) := Nat.mul_le_mul_right _ (Nat.two_pow_pos _)
  omega
theorem heldref_loop (l : List Bool) (m : List Bool) (s : Bool) (hv : val l < 9223372036854775808) (hl : l.length ≤ 100000) : ∀ n, n ≤ l.length →
    Ev (fun k => astrolaberef01_Held.l0 k l (val (l.drop n) : Int) ((n : Int) - 1) m s) (sg s (val l), 0)
  | 0, _ => by
    refine Ev.step (f := fun _ => some (sg s (val l), 0)) (fun k => ?_) (Ev.now _)
    simp only [astrolaberef01_Held.l0]
    rw [if_neg (by omega), List.drop_zero]
    cases s with
    | true => rw [if_pos rfl, wrap_in (by omega) (by omega)]; rfl
    | false => rfl
  | n + 1, hn => by
    have e1 : ((n + 1 : Nat) : Int) - 1 = (n : Int) := by omega
    rw [e1]
    have w : wrap64 ((n : Int) - 1) = (n : Int) - 1 := wrap_in (by omega) (by omega)
    have hd := val_drop l n
    have hle := val_drop_le l n
    refine Ev.step (fun k => ?_) (heldref_loop l m s hv hl n (by omega))
    simp only [astrolaberef01_Held.l0]
    rw [if_pos (by omega), if_pos (by omega), if_pos (by omega), rdOf_getD, w]
    have w2 : wrap64 (2 * (val (l.drop (n + 1)) : Int)) = 2 * (val (l.drop (n + 1)) : Int) := wrap_in (by omega) (by omega)
    rw [w2]
    cases hb : l.getD n false with
    | true =>
      rw [hb] at hd
      simp [bit] at hd
      rw [if_pos rfl, wrap_in (by omega) (by omega), hd]
      congr 1; omega
    | false =>
      rw [hb] at hd
      simp [bit] at hd
      rw [if_neg (by decide), hd]
      congr 1
theorem edge_val : val ((List.replicate 64 false).set 63 true) = 9223372036854775808 := by decide +kernel
theorem heldref_ev (l : List Bool) (s : Bool) (hl : l.length ≤ 100000) : Ev (fun k => astrolaberef01_Held.f k l s) (sat (sg s (val l))) := by
  have ht := tr_length_le l
  have htv := tr_val l
  have hc := cmp_ev (tr l) ((List.replicate 64 false).set 63 true) (by omega) (by simp)
  rw [htv, edge_val] at hc
  unfold astrolaberef01_Held.f
  refine Ev.bind (trim_ev l (by omega)) ?_
  refine Ev.congr (fun k => by rw [if_pos (by decide)]) ?_
  refine Ev.congr (f := fun k => (astrolaberef01_Cmp.f k (tr l) ((List.replicate 64 false).set 63 true)).bind fun t259 => if s = true then astrolaberef01_Held.j0 k (tr l) t259 (t259 == 0) l s else astrolaberef01_Held.j0 k (tr l) t259 false l s) (fun k => ?_) ?_
  · simp only [Option.bind_some]
    rw [if_pos (by simp)]
    rfl
  · refine Ev.bind hc ?_
    unfold cmpN
    by_cases hlt : val l < 9223372036854775808
    · rw [if_pos hlt]
      have hloop := heldref_loop (tr l) l s (by omega) (by omega) (tr l).length (Nat.le_refl _)
      rw [List.drop_length] at hloop
      have e : sat (sg s (val l)) = (sg s (val l), 0) := sat_in _ (by unfold sg In64; cases s <;> simp <;> omega)
      rw [e]
      rw [htv] at hloop
      refine Ev.congr (f := fun k => astrolaberef01_Held.j0 k (tr l) (-1) false l s) (fun k => by cases s <;> rfl) ?_
      refine Ev.step (fun k => ?_) hloop
      simp only [astrolaberef01_Held.j0]
      rw [if_neg (by decide), if_neg (by decide), wrap_in (by omega) (by omega)]
      rfl
    · rw [if_neg hlt]
      by_cases heq : val l = 9223372036854775808
      · rw [if_pos heq, heq]
        refine Ev.congr (f := fun k => astrolaberef01_Held.j0 k (tr l) 0 s l s) (fun k => by cases s <;> rfl) ?_
        refine Ev.step (f := fun _ => some (sat (sg s 9223372036854775808))) (fun k => ?_) (Ev.now _)
        cases s <;> rfl
      · rw [if_neg heq]
        refine Ev.congr (f := fun k => astrolaberef01_Held.j0 k (tr l) 1 false l s) (fun k => by cases s <;> rfl) ?_
        refine Ev.step (f := fun _ => some (sat (sg s (val l)))) (fun k => ?_) (Ev.now _)
        simp only [astrolaberef01_Held.j0]
        rw [if_neg (by decide), if_pos (by decide)]
        unfold sat sg
        cases s with
        | true => rw [if_pos rfl, if_pos rfl, if_pos (by omega)]
        | false => simp only [Bool.false_eq_true, if_false]; rw [if_neg (by omega), if_pos (by omega)]
theorem sum_ev (a b : Int) (ha : In64 a) (hb : In64 b) : Ev (fun k => astrolaberef01_Sum.f k a b) (sat (a + b)) := by
  obtain ⟨p, hp, vp, lp⟩ := of_ev a ha
  obtain ⟨q, hq, vq, lq⟩ := of_ev b hb
  obtain ⟨r, s, hr, hv, hl⟩ := add_ev p (decide (a < 0)) q (decide (b < 0)) (by omega) (by omega)
  rw [vp, vq, sg_of, sg_of] at hv
  unfold astrolaberef01_Sum.f
  refine Ev.bind hp (Ev.bind hq (Ev.bind hr (Ev.bind (heldref_ev r s (by omega)) ?_)))
  rw [hv]
  exact Ev.now _
theorem sg_not (s : Bool) (n : Nat) : sg (!s) n = -sg s n := by cases s <;> simp [sg]
theorem diff_ev (a b : Int) (ha : In64 a) (hb : In64 b) : Ev (fun k => astrolaberef01_Diff.f k a b) (sat (a - b)) := by
  obtain ⟨p, hp, vp, lp⟩ := of_ev a ha
  obtain ⟨q, hq, vq, lq⟩ := of_ev b hb
  obtain ⟨r, s, hr, hv, hl⟩ := add_ev p (decide (a < 0)) q (!decide (b < 0)) (by omega) (by omega)
  rw [vp, vq, sg_not, sg_of, sg_of] at hv
  unfold astrolaberef01_Diff.f
  refine Ev.bind hp (Ev.bind hq (Ev.bind (a := (q, !decide (b < 0))) (Ev.now _) (Ev.bind hr (Ev.bind (heldref_ev r s (by omega)) ?_))))
  rw [hv, show a + -b = a - b by omega]
  exact Ev.now _
theorem negheld_ev (a : Int) (ha : In64 a) : ∃ l, Ev (fun k => astrolaberef01_Of.f k a) (l, decide (a < 0)) ∧ astrolaberef01_Neg.f l (decide (a < 0)) = some (l, !decide (a < 0)) ∧ Ev (fun k => astrolaberef01_Held.f k l (!decide (a < 0))) (sat (-a)) := by
  obtain ⟨p, hp, vp, lp⟩ := of_ev a ha
  refine ⟨p, hp, rfl, ?_⟩
  have := heldref_ev p (!decide (a < 0)) (by omega)
  rw [vp, sg_not, sg_of] at this
  exact this
theorem alive_some : astrolabelaw01_alive.f 9 = some true := by decide +kernel
theorem alive_ev : Ev (fun k => astrolabelaw01_alive.f k) true := Ev.of (fun k => astrolabelaw01_alive.mono k) alive_some
theorem in64_of {a : Int} (h : (Lit.int .i64 a).wf = true) : In64 a := by
  simp [Lit.wf, IntKind.min, IntKind.max, IntKind.bits, IntKind.signed] at h
  unfold In64; omega
end Go.Proofs.Ythgnpmchhikchaa.Q
