/- Of two numbers the lesser one has no greater sum with a third one, nor a greater half, root, or quotient by what is above 0. -/
import Derived.Test.YthgnpmchhikchaaMRoot
import Derived.Test.YthgnpmchhikchaaMDiv3
namespace Go.Proofs.Ythgnpmchhikchaa.Pure
open Go.RowKit Go.Proofs.Ythgnpmchhikchaa.Q Go.Proofs.YthgnpmchhikchaaW.PrintWords Go.Proofs.YthgnpmchhikchaaW.PrintLast

theorem sat_mono {x y : Int} (h : x ≤ y) : (sat x).1 ≤ (sat y).1 := by
  unfold sat
  split <;> split <;> (try split) <;> (try split) <;> simp <;> omega
theorem sqrt_at (a : Int) (ha : In64 a) : ∃ R : Nat, ∃ f, fixq_Sqrt.f a = some ((R : Int), f) ∧ (a < 0 → R = 0) ∧ (0 ≤ a → IsRoot (a.natAbs * 4294967296) R) := by
  by_cases h : a < 0
  · exact ⟨0, 2, sqrt_neg a h, fun _ => rfl, fun h' => by omega⟩
  · obtain ⟨R, h1, h2, _⟩ := sqrt_eq a (by omega) ha
    exact ⟨R, 0, h1, fun h' => by omega, fun _ => h2⟩
theorem half_mono {a b : Int} (h : a ≤ b) (ha : In64 a) (hb : In64 b) : wrap64 (Int.tdiv a 2) ≤ wrap64 (Int.tdiv b 2) := by
  obtain ⟨h1, h2⟩ := ha
  obtain ⟨h3, h4⟩ := hb
  have e : ∀ x : Int, In64 x → wrap64 (Int.tdiv x 2) = if 0 ≤ x then x / 2 else -((-x) / 2) := fun x hx => by
    obtain ⟨k1, k2⟩ := hx
    have ht : Int.tdiv x 2 = if 0 ≤ x then x / 2 else -((-x) / 2) := by
      split
      · rw [Int.tdiv_eq_ediv_of_nonneg (by omega)]
      · have : Int.tdiv x 2 = -Int.tdiv (-x) 2 := by rw [Int.neg_tdiv]; omega
        rw [this, Int.tdiv_eq_ediv_of_nonneg (by omega)]
    rw [ht]
    split <;> rw [wrap_in (by omega) (by omega)]
  rw [e a ⟨h1, h2⟩, e b ⟨h3, h4⟩]
  split <;> split <;> omega
theorem sg_down {p q : Nat} (h : p ≤ q) : sg (true != false) q ≤ sg (true != false) p := by simp [sg] <;> omega
theorem sg_up {p q : Nat} (h : p ≤ q) : sg (false != false) p ≤ sg (false != false) q := by simp [sg] <;> omega
theorem sg_over (p q : Nat) : sg (true != false) p ≤ sg (false != false) q := by simp [sg] <;> omega
theorem quo_mono {a b c : Int} (h : a ≤ b) (hc : 0 < c) : sg ((decide (a < 0)) != (decide (c < 0))) (quoN a c) ≤ sg ((decide (b < 0)) != (decide (c < 0))) (quoN b c) := by
  rw [decide_eq_false (show ¬ c < 0 by omega)]
  unfold quoN
  generalize c.natAbs = y
  by_cases ha : a < 0
  · rw [decide_eq_true ha]
    by_cases hb : b < 0
    · rw [decide_eq_true hb]
      exact sg_down (Nat.div_le_div_right (by omega))
    · rw [decide_eq_false hb]
      exact sg_over _ _
  · rw [decide_eq_false ha, decide_eq_false (show ¬ b < 0 by omega)]
    exact sg_up (Nat.div_le_div_right (by omega))

theorem FixqMono : astrolabelaw01_FixqMono.Pure := by
  intro a b c ha hb hc
  have ha := in64_of ha
  have hb := in64_of hb
  have hc := in64_of hc
  refine Ev.rounds (g := fun k => astrolabelaw01_FixqMono.f k a b c) ?_
  unfold astrolabelaw01_FixqMono.f
  refine Ev.bind alive_ev ?_
  refine Ev.congr (fun k => by rw [if_pos rfl]) ?_
  by_cases hab : a > b
  · exact Ev.congr (fun k => by rw [if_pos hab]) (Ev.now true)
  · refine Ev.congr (fun k => by rw [if_neg hab, add_eq a c ha hc, add_eq b c hb hc]) ?_
    obtain ⟨R, f, hR, h1, h2⟩ := sqrt_at a ha
    obtain ⟨S, g, hS, h3, h4⟩ := sqrt_at b hb
    have hRS : R ≤ S := by
      by_cases hn : a < 0
      · rw [h1 hn]; exact Nat.zero_le _
      · exact root_mono (show a.natAbs * 4294967296 ≤ b.natAbs * 4294967296 by omega) (h2 (by omega)) (h4 (by omega))
    have hsum := sat_mono (show a + c ≤ b + c by omega)
    have hhalf := half_mono (show a ≤ b by omega) ha hb
    rw [hR, hS]
    simp only [Option.bind_some]
    refine Ev.congr (fun k => by rw [if_neg (by omega), if_neg (by omega), show fixq_Half.f a = some (wrap64 (Int.tdiv a 2)) from rfl, show fixq_Half.f b = some (wrap64 (Int.tdiv b 2)) from rfl]) ?_
    simp only [Option.bind_some]
    rw [decide_eq_false (show ¬ wrap64 (Int.tdiv a 2) > wrap64 (Int.tdiv b 2) by omega)]
    by_cases hc0 : c ≤ 0
    · refine Ev.step (f := fun _ => some true) (fun k => ?_) (Ev.now true)
      simp only [astrolabelaw01_FixqMono.j0]
      rw [if_neg (by decide), if_pos hc0]
    · refine Ev.step (f := fun k => (fixq_Div.f k a c).bind fun bt229 => (fixq_Div.f k b c).bind fun bt231 => some (decide (bt229.1 ≤ bt231.1))) (fun k => ?_) ?_
      · simp only [astrolabelaw01_FixqMono.j0]
        rw [if_neg (by decide), if_neg hc0]
      · refine Ev.bind (div_ev a c ha hc (by omega)) (Ev.bind (div_ev b c hb hc (by omega)) ?_)
        have := sat_mono (quo_mono (show a ≤ b by omega) (show 0 < c by omega))
        rw [decide_eq_true this]
        exact Ev.now true

end Go.Proofs.Ythgnpmchhikchaa.Pure
