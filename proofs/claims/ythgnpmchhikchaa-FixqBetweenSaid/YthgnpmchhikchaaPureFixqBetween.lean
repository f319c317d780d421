/- What is between two numbers, whose difference isn't held, is between them; further along it is no nearer to the first one. -/
import Derived.Test.YthgnpmchhikchaaMLerp2
import Derived.Test.YthgnpmchhikchaaQ12
namespace Go.Proofs.Ythgnpmchhikchaa.Pure
open Go.RowKit Go.Proofs.Ythgnpmchhikchaa.Q Go.Proofs.YthgnpmchhikchaaW.PrintWords Go.Proofs.YthgnpmchhikchaaW.PrintLast

theorem sat_flag1 {x : Int} (h : (sat x).2 = 0) : In64 x := by
  unfold sat at h
  split at h
  · simp at h
  · split at h
    · simp at h
    · exact ⟨by omega, by omega⟩
theorem u8_of {a : Int} (h : (Lit.int .u8 a).wf = true) : 0 ≤ a ∧ a ≤ 255 := by
  simp [Lit.wf, IntKind.min, IntKind.max, IntKind.bits, IntKind.signed] at h
  omega
/-- The part of a held difference, at m of 256. -/
def partN (d : Int) (m : Int) : Nat := d.natAbs * lerpM m 8 / 2 ^ 8
theorem lerp_at (a b m : Int) (ha : In64 a) (hb : In64 b) (hd : In64 (b - a)) :
    lerpV a b m 8 = (a + sg (decide (b - a < 0)) (partN (b - a) m), 0) ∧ lerpF a b m 8 = 0 ∧ partN (b - a) m ≤ (b - a).natAbs := by
  obtain ⟨h1, h2⟩ := part_in (b - a) hd (lerpM m 8) 8 (lerpM_le m 8)
  have hk : lerpK 8 = 8 := rfl
  have hv : lerpV a b m 8 = (a + sg (decide (b - a < 0)) (partN (b - a) m), 0) := by
    unfold lerpV lerpD
    rw [hk, sat_in _ hd, h1]
    rw [show (b - a).natAbs * lerpM m 8 / 2 ^ 8 = partN (b - a) m from rfl] at h2 ⊢
    rw [sat_in]
    obtain ⟨a1, a2⟩ := ha
    obtain ⟨b1, b2⟩ := hb
    generalize partN (b - a) m = p at *
    unfold sg In64
    by_cases hn : b - a < 0
    · rw [decide_eq_true hn, if_pos rfl]; omega
    · rw [decide_eq_false hn, if_neg (by decide)]; omega
  refine ⟨hv, ?_, h2⟩
  unfold lerpF lerpD
  rw [hv, hk, sat_in _ hd, h1]
  simp
theorem part_mono (d : Int) {m n : Int} (h0 : 0 ≤ m) (h : m ≤ n) : partN d m ≤ partN d n := by
  unfold partN
  refine Nat.div_le_div_right (Nat.mul_le_mul_left _ ?_)
  unfold lerpM
  rw [if_neg (show ¬ m < 0 by omega), if_neg (show ¬ n < 0 by omega)]
  split <;> split <;> omega

theorem FixqBetween : astrolabelaw01_FixqBetween.Pure := by
  intro a b m n ha hb hm hn
  have ha := in64_of ha
  have hb := in64_of hb
  have hm := u8_of hm
  have hn := u8_of hn
  refine Ev.rounds (g := fun k => astrolabelaw01_FixqBetween.f k a b m n) ?_
  unfold astrolabelaw01_FixqBetween.f
  refine Ev.bind alive_ev ?_
  refine Ev.congr (fun k => by rw [if_pos rfl]) ?_
  refine Ev.bind (diff_ev b a hb ha) ?_
  by_cases h : (sat (b - a)).2 = 0
  · have hd := sat_flag1 h
    have w1 : wrap64 m = m := wrap_in (by omega) (by omega)
    have w2 : wrap64 n = n := wrap_in (by omega) (by omega)
    have w3 : wrap64 (m + n) = m + n := wrap_in (by omega) (by omega)
    obtain ⟨x1, x2, x3⟩ := lerp_at a b m ha hb hd
    obtain ⟨y1, y2, y3⟩ := lerp_at a b (m + n) ha hb hd
    have hpm := part_mono (b - a) (show 0 ≤ m by omega) (show m ≤ m + n by omega)
    have e1 := lerp_ev a b m 8 ha hb
    have e2 := lerp_ev a b (m + n) 8 ha hb
    rw [x1, x2] at e1
    rw [y1, y2] at e2
    refine Ev.congr (fun k => by rw [if_pos h, w1, w2, w3]) ?_
    refine Ev.bind e1 (Ev.bind e2 ?_)
    refine Ev.congr (fun k => by rw [if_pos rfl]) ?_
    generalize partN (b - a) m = p at *
    generalize partN (b - a) (m + n) = q at *
    refine Ev.step (f := fun _ => some true) (fun k => ?_) (Ev.now true)
    simp only [astrolabelaw01_FixqBetween.j0]
    rw [if_neg (by decide)]
    unfold sg
    by_cases hlt : a ≤ b
    · rw [if_pos hlt, decide_eq_false (show ¬ b - a < 0 by omega)]
      simp only [Bool.false_eq_true, if_false]
      rw [if_pos (by omega), if_pos (by omega), decide_eq_true (by omega)]
    · rw [if_neg hlt, decide_eq_true (show b - a < 0 by omega)]
      simp only [if_true]
      rw [if_pos (by omega), if_pos (by omega), decide_eq_true (by omega)]
  · exact Ev.congr (fun k => by rw [if_neg h]) (Ev.now true)

end Go.Proofs.Ythgnpmchhikchaa.Pure
