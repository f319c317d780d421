/- Which are raised between any lists is the document's: what both sides compute is the same. -/
import Derived.Test.YtgalkkolbobmbaaGreatX2
namespace Go.Proofs.YtgalkkolbobmbaaGreat.Pure
open Go.RowKit Go.Proofs.YtgalkkolbobmbaaGreat.X Go.Proofs.YtgalkkolbobmbaaGreatW.PrintWords Go.Proofs.YtgalkkolbobmbaaGreatW.PrintLast
set_option linter.unusedVariables false

theorem wrap_up {i n : Nat} (h : i < n) (hn : n ≤ 140737488355328) : wrap64 ((i : Int) + 1) = ((i + 1 : Nat) : Int) := by
  simp only [wrap64]; omega
def raisV (l0 l1 : List Int) : Nat → List Bool
  | 0 => []
  | n + 1 => raisV l0 l1 n ++ [decide (rd l0 (n : Int) ≤ 0) && decide (rd l1 (n : Int) > 0)]
theorem raisV_length (l0 l1 : List Int) : ∀ n, (raisV l0 l1 n).length = n
  | 0 => rfl
  | n + 1 => by simp [raisV, raisV_length l0 l1 n]
theorem cross_loop (l0 l1 : List Int) (M : Nat) (h0 : M ≤ l0.length) (h1 : M ≤ l1.length) (hM : M ≤ 300) : ∀ (d i : Nat), i + d = M →
    Ev (fun K => cross_Raised.l0 K l0 l1 (raisV l0 l1 i) (M : Int) (i : Int)) (raisV l0 l1 M)
  | 0, i, hi => by
    obtain rfl : i = M := by omega
    exact Ev.step (f := fun _ => some (raisV l0 l1 i)) (fun k => by simp only [cross_Raised.l0]; rw [if_neg (by omega)]) (Ev.now _)
  | d + 1, i, hi => by
    have hL := raisV_length l0 l1 i
    refine Ev.step (fun k => ?_) (cross_loop l0 l1 M h0 h1 hM d (i + 1) (by omega))
    simp only [cross_Raised.l0]
    rw [if_pos (by omega), if_pos (by omega), if_pos (by omega), wrap_up (n := M) (by omega) (by omega)]
    by_cases c : rd l0 (i : Int) ≤ 0
    · rw [if_pos c, if_pos (by omega), if_pos (by omega)]
      simp only [raisV, decide_eq_true c, Bool.true_and]
    · rw [if_neg c, if_pos (by omega)]
      simp only [raisV, decide_eq_false c, Bool.false_and]
theorem ref_loop (l0 l1 : List Int) (M : Nat) (h0 : M ≤ l0.length) (h1 : M ≤ l1.length) (hm : M = l0.length ∨ M = l1.length) (hM : M ≤ 300) : ∀ (d i : Nat), i + d = M →
    Ev (fun K => astrolaberef20_Raised.l0 K l0 l1 (raisV l0 l1 i) (i : Int)) (raisV l0 l1 M)
  | 0, i, hi => by
    obtain rfl : i = M := by omega
    refine Ev.step (f := fun _ => some (raisV l0 l1 i)) (fun k => ?_) (Ev.now _)
    simp only [astrolaberef20_Raised.l0]
    by_cases c : (i : Int) < (l0.length : Int)
    · rw [if_pos c, if_neg (by omega)]
    · rw [if_neg c]
  | d + 1, i, hi => by
    have hL := raisV_length l0 l1 i
    refine Ev.step (fun k => ?_) (ref_loop l0 l1 M h0 h1 hm hM d (i + 1) (by omega))
    simp only [astrolaberef20_Raised.l0]
    rw [if_pos (by omega), if_pos (by omega), if_pos (by omega), wrap_up (n := M) (by omega) (by omega)]
    by_cases c : rd l0 (i : Int) ≤ 0
    · rw [if_pos c, if_pos (by omega)]
      simp only [raisV, decide_eq_true c, Bool.true_and]
    · rw [if_neg c, if_pos (by omega)]
      simp only [raisV, decide_eq_false c, Bool.false_and]
theorem bools_loop (l : List Bool) (hl : l.length ≤ 300) : ∀ (d i : Nat), i + d = l.length → Ev (fun K => astrolaberef20_Bools.l0 K l l (i : Int)) true
  | 0, i, hi => Ev.step (f := fun _ => some true) (fun k => by simp only [astrolaberef20_Bools.l0]; rw [if_neg (by omega)]) (Ev.now _)
  | d + 1, i, hi => by
    refine Ev.step (fun k => ?_) (bools_loop l hl d (i + 1) (by omega))
    simp only [astrolaberef20_Bools.l0]
    rw [if_pos (by omega), if_pos (by omega), if_pos (by omega), if_neg (by simp), wrap_up (n := l.length) (by omega) (by omega)]
theorem any_loop (l : List Bool) (hl : l.length ≤ 300) : ∀ (d i : Nat), i + d = l.length →
    ∃ r : Int, Ev (fun K => slices_Index_bool_bool.l0 K l true (l.length : Int) (i : Int)) r ∧ Ev (fun K => astrolaberef20_Any.l0 K l (i : Int)) (decide (r ≥ 0))
  | 0, i, hi => ⟨-1, Ev.step (f := fun _ => some (-1)) (fun k => by simp only [slices_Index_bool_bool.l0]; rw [if_neg (by omega)]) (Ev.now _),
      Ev.step (f := fun _ => some false) (fun k => by simp only [astrolaberef20_Any.l0]; rw [if_neg (by omega)]) (Ev.now _)⟩
  | d + 1, i, hi => by
    by_cases c : rdOf false l (i : Int) = true
    · refine ⟨(i : Int), Ev.step (f := fun _ => some (i : Int)) (fun k => ?_) (Ev.now _), ?_⟩
      · simp only [slices_Index_bool_bool.l0]
        rw [if_pos (by omega), if_pos (by omega), if_pos (by omega), if_pos (by rw [c]; rfl)]
      · rw [decide_eq_true (show (i : Int) ≥ 0 by omega)]
        refine Ev.step (f := fun _ => some true) (fun k => ?_) (Ev.now _)
        simp only [astrolaberef20_Any.l0]
        rw [if_pos (by omega), if_pos (by omega), if_pos c]
    · obtain ⟨r, h1, h2⟩ := any_loop l hl d (i + 1) (by omega)
      refine ⟨r, Ev.step (fun k => ?_) h1, Ev.step (fun k => ?_) h2⟩
      · simp only [slices_Index_bool_bool.l0]
        rw [if_pos (by omega), if_pos (by omega), if_pos (by omega), if_neg (by rw [Bool.eq_false_iff.mpr c]; decide), wrap_up (n := l.length) (by omega) (by omega)]
      · simp only [astrolaberef20_Any.l0]
        rw [if_pos (by omega), if_pos (by omega), if_neg c, wrap_up (n := l.length) (by omega) (by omega)]

theorem CrossRaised : astrolabelaw20_CrossRaised.Pure := by
  intro l0 l1 _ _ _ _ _ _
  refine Ev.rounds (g := fun n => astrolabelaw20_CrossRaised.f n l0 l1) ?_
  have out : Ev (fun K => astrolabelaw20_CrossRaised.j0 K l0 l1 true) true := Ev.step (f := fun _ => some true) (fun K => by simp only [astrolabelaw20_CrossRaised.j0, if_true]) (Ev.now _)
  refine Ev.congr (f := fun n => if (l0.length : Int) > 300 then (astrolabelaw20_CrossRaised.j0 n l0 l1 true) else (astrolabelaw20_CrossRaised.j0 n l0 l1 (decide ((l1.length : Int) > 300)))) (fun n => by unfold astrolabelaw20_CrossRaised.f; rfl) ?_
  by_cases c0 : (l0.length : Int) > 300
  · exact Ev.congr (fun n => by rw [if_pos c0]) out
  · refine Ev.congr (fun n => by rw [if_neg c0]) ?_
    by_cases c1 : (l1.length : Int) > 300
    · rw [decide_eq_true c1]; exact out
    · rw [decide_eq_false c1]
      obtain ⟨M, h0, h1, hm, hmn⟩ : ∃ M : Nat, M ≤ l0.length ∧ M ≤ l1.length ∧ (M = l0.length ∨ M = l1.length) ∧ mn (l0.length : Int) (l1.length : Int) = (M : Int) := by
        by_cases c : l0.length ≤ l1.length
        · exact ⟨l0.length, Nat.le_refl _, c, .inl rfl, by unfold mn; split <;> omega⟩
        · exact ⟨l1.length, by omega, Nat.le_refl _, .inr rfl, by unfold mn; split <;> omega⟩
      have hL := raisV_length l0 l1 M
      have e1 : Ev (fun K => cross_Raised.f K l0 l1) (raisV l0 l1 M) := Ev.congr (fun K => by unfold cross_Raised.f; rw [hmn]; rfl) (cross_loop l0 l1 M h0 h1 (by omega) M 0 (by omega))
      have e2 : Ev (fun K => astrolaberef20_Raised.f K l0 l1) (raisV l0 l1 M) := Ev.congr (fun K => by unfold astrolaberef20_Raised.f; rfl) (ref_loop l0 l1 M h0 h1 hm (by omega) M 0 (by omega))
      obtain ⟨r, a1, a2⟩ := any_loop (raisV l0 l1 M) (by omega) _ 0 (Nat.zero_add _)
      generalize raisV l0 l1 M = V at *
      have e3 : Ev (fun K => astrolaberef20_Bools.f K V V) true := Ev.congr (fun K => by unfold astrolaberef20_Bools.f; rw [if_pos rfl]; rfl) (bools_loop V (by omega) V.length 0 (by omega))
      have e4 : Ev (fun K => cross_Any.f K V) (decide (r ≥ 0)) := by
        refine Ev.congr (f := fun K => ((slices_Index_bool_bool.l0 K V true (V.length : Int) 0).bind fun t121 => (some (decide (t121 ≥ 0)))).bind fun t122 => some t122) (fun K => by unfold cross_Any.f slices_Contains_bool_bool.f slices_Index_bool_bool.f; rfl) (Ev.bind (Ev.bind a1 (Ev.now _)) (Ev.now _))
      have e5 : Ev (fun K => astrolaberef20_Any.f K V) (decide (r ≥ 0)) := Ev.congr (fun K => by unfold astrolaberef20_Any.f; rfl) a2
      refine Ev.step (f := fun K => (cross_Raised.f K l0 l1).bind fun t124 => ((astrolaberef20_Raised.f K l0 l1).bind fun t127 => ((astrolaberef20_Bools.f K t124 t127).bind fun t130 => (if t130 = true then ((cross_Any.f K t124).bind fun t131 => ((astrolaberef20_Any.f K t127).bind fun t132 => (some (t131 == t132)))) else (some false)))))
        (fun K => by simp only [astrolabelaw20_CrossRaised.j0, Bool.false_eq_true, if_false]) ?_
      refine Ev.bind e1 (Ev.bind e2 (Ev.bind e3 ?_))
      refine Ev.congr (fun K => by rw [if_pos rfl]) (Ev.bind e4 (Ev.bind e5 ?_))
      exact Ev.congr (fun K => by simp) (Ev.now true)

end Go.Proofs.YtgalkkolbobmbaaGreat.Pure
