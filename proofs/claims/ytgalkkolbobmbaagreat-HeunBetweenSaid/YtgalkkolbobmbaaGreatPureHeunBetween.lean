/- What is between any two lists is the document's: what both sides compute is the same. -/
import Derived.Test.YtgalkkolbobmbaaGreatMLc
import Derived.Test.YtgalkkolbobmbaaGreatMLb
import Derived.Test.YtgalkkolbobmbaaGreatQ8
namespace Go.Proofs.YtgalkkolbobmbaaGreat.Pure
open Go.RowKit Go.Proofs.YtgalkkolbobmbaaGreat.Q Go.Proofs.YtgalkkolbobmbaaGreatW.PrintWords Go.Proofs.YtgalkkolbobmbaaGreatW.PrintLast

theorem or_ev {p q : Int} (hp : p = 0 ∨ p = 1) (hq : q = 0 ∨ q = 1) : Ev (fun K => astrolaberef19_Or.f K p q) (if p = 0 ∧ q = 0 then 0 else 1) := by
  rcases hp with rfl | rfl <;> rcases hq with rfl | rfl <;> exact Ev.of (fun k => astrolaberef19_Or.mono _ _ k) (k := 1) (by decide +kernel)
theorem refbetween_loop (l0 l1 : List Int) (m k : Int) (h0 : ∀ x ∈ l0, In64 x) (h1 : ∀ x ∈ l1, In64 x) (hl : l0.length = l1.length) (hs : l0.length ≤ 300) : ∀ (d i : Nat), i + d = l0.length →
    Ev (fun K => astrolaberef19_Between.l0 K l0 l1 m k (betV l0 l1 m k i) (betF l0 l1 m k i) (i : Int)) (betV l0 l1 m k l0.length, betF l0 l1 m k l0.length)
  | 0, i, hi => by
    obtain rfl : i = l0.length := by omega
    exact Ev.step (f := fun _ => some (betV l0 l1 m k l0.length, betF l0 l1 m k l0.length)) (fun k => by simp only [astrolaberef19_Between.l0]; rw [if_neg (by omega)]) (Ev.now _)
  | d + 1, i, hi => by
    have ih := refbetween_loop l0 l1 m k h0 h1 hl hs d (i + 1) (by omega)
    have e : wrap64 ((i : Int) + 1) = ((i + 1 : Nat) : Int) := by rw [wrap_in (by omega) (by omega)]; omega
    have hL := betV_length l0 l1 m k i
    refine Ev.step (f := fun K => (astrolaberef01_Lerp.f K (rd l0 (i : Int)) (rd l1 (i : Int)) m k).bind fun bt271 => ((astrolaberef19_Or.f K (betF l0 l1 m k i) bt271.2).bind fun t273 => (if (betV l0 l1 m k i).length < 17592186044416 then (astrolaberef19_Between.l0 K l0 l1 m k (betV l0 l1 m k i ++ [bt271.1]) t273 (wrap64 ((i : Int) + 1))) else (none)))) (fun K => ?_) ?_
    · simp only [astrolaberef19_Between.l0]
      rw [if_pos (by omega), if_pos (by omega), if_pos (by omega)]
    · refine Ev.bind (reflerp_ev _ _ m k (in64_rd h0 i (by omega)) (in64_rd h1 i (by omega))) (Ev.bind (or_ev (betF01 _ _ _ _ _) (lerpF01 _ _ _ _)) ?_)
      refine Ev.congr (fun K => ?_) ih
      dsimp only
      rw [if_pos (by omega), e]
      rfl
theorem refbetween_ev (l0 l1 : List Int) (m k : Int) (h0 : ∀ x ∈ l0, In64 x) (h1 : ∀ x ∈ l1, In64 x) (hl : l0.length = l1.length) (hs : l0.length ≤ 300) :
    Ev (fun K => astrolaberef19_Between.f K l0 l1 m k) (betV l0 l1 m k l0.length, betF l0 l1 m k l0.length) :=
  Ev.congr (fun K => by unfold astrolaberef19_Between.f; rfl) (refbetween_loop l0 l1 m k h0 h1 hl hs l0.length 0 (by omega))

theorem HeunBetween : astrolabelaw19_HeunBetween.Pure := by
  intro l0 l1 m k _ _ h0 _ _ h1 _ _
  have h0 : ∀ x ∈ l0, In64 x := fun x hx => in64_of (h0 x hx)
  have h1 : ∀ x ∈ l1, In64 x := fun x hx => in64_of (h1 x hx)
  refine Ev.rounds (g := fun n => astrolabelaw19_HeunBetween.f n l0 l1 m k) ?_
  have out : Ev (fun K => astrolabelaw19_HeunBetween.j0 K l0 l1 m k true) true := Ev.step (f := fun _ => some true) (fun K => by simp only [astrolabelaw19_HeunBetween.j0, if_true]) (Ev.now _)
  refine Ev.congr (f := fun n => if (l0.length : Int) > 300 then (astrolabelaw19_HeunBetween.j0 n l0 l1 m k true) else (astrolabelaw19_HeunBetween.j0 n l0 l1 m k (decide ((l1.length : Int) > 300)))) (fun n => by unfold astrolabelaw19_HeunBetween.f; rfl) ?_
  by_cases c0 : (l0.length : Int) > 300
  · exact Ev.congr (fun n => by rw [if_pos c0]) out
  · refine Ev.congr (fun n => by rw [if_neg c0]) ?_
    by_cases c1 : (l1.length : Int) > 300
    · rw [decide_eq_true c1]; exact out
    · rw [decide_eq_false c1]
      refine Ev.step (f := fun K => (heun_Between.f K l0 l1 m k).bind fun bt278 => (if (l0.length : Int) = (l1.length : Int) then ((astrolaberef19_Between.f K l0 l1 m k).bind fun bt282 => ((astrolaberef14_Numbers.f K bt278.1 bt282.1).bind fun t286 => (if t286 = true then (some (bt278.2 == bt282.2)) else (some false)))) else (if (bt278.1.length : Int) = 0 then (some (bt278.2 == 0)) else (some false))))
        (fun K => by simp only [astrolabelaw19_HeunBetween.j0]; rw [if_neg (by decide)]) ?_
      by_cases hl : l0.length = l1.length
      · refine Ev.bind (between_ev l0 l1 m k h0 h1 hl (by omega)) ?_
        refine Ev.congr (fun K => by rw [if_pos (by omega)]) ?_
        refine Ev.bind (refbetween_ev l0 l1 m k h0 h1 hl (by omega)) ?_
        refine Ev.bind (numbers_ev (betV l0 l1 m k l0.length) (by rw [betV_length]; omega)) ?_
        exact Ev.congr (fun K => by rw [if_pos rfl]; simp) (Ev.now true)
      · refine Ev.bind (between_no l0 l1 m k hl) ?_
        exact Ev.congr (fun K => by rw [if_neg (by omega)]; rfl) (Ev.now true)

end Go.Proofs.YtgalkkolbobmbaaGreat.Pure
