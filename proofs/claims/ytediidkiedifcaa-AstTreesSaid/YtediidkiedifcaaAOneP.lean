/- The reference's One and the program's may are one. -/
import Derived.Test.YtediidkiedifcaaAOne
namespace Go.Proofs.Ytediidkiedifcaa.Q
set_option linter.unusedVariables false
set_option linter.unusedSimpArgs false
open Go.RowKit Go.Proofs.YtediidkiedifcaaW.PrintWords
theorem isE {l : List UInt8} : (l == []) = l.isEmpty := by cases l <;> rfl
set_option maxHeartbeats 4000000 in
theorem one_may (x : S31) (a : Int) : oneB x a = mayB x a := by
  unfold oneB mayB
  by_cases hr : x.f0 < 1 ∨ x.f0 > 21
  · rw [if_pos hr, if_pos hr]
  rw [if_neg hr, if_neg hr]
  unfold wrongB bareB
  cases hp : (partsF x).any (outB a) with
  | true => simp
  | false =>
  rw [if_neg (by decide), Bool.or_false]
  obtain ⟨f0, f1, f2, f3, f4, f5, f6, f7, f8⟩ := x
  dsimp only at hr ⊢
  clear hp
  have key : ∀ k ∈ [(1 : Int), 2, 3, 4, 5, 6, 7, 8, 9, 10, 11, 12, 13, 14, 15, 16, 17, 18, 19, 20, 21], f0 = k →
    (if tooB ⟨f0, f1, f2, f3, f4, f5, f6, f7, f8⟩ (manyF f0) = true then false
  else if (namedB f0 != !(f4.toList == [])) = true then false else if ((f0 == 20) != !(f5.toList == [])) = true then false
  else if f0 > 2 then f6 == 0 else decide (0 ≤ f6) && (f0 == 1 || decide (f6 ≤ 1))) =
  if (!(equalF ⟨f0, f1, f2, f3, f4, f5, f6, f7, f8⟩ (bareF ⟨f0, f1, f2, f3, f4, f5, f6, f7, f8⟩ (namedB f0) (f0 == 20) (valuedB f0)))) = true then false else if ((namedB f0 && f4.toList == []) || ((f0 == 20) && f5.toList == [])) = true then false else decide (0 ≤ f6) && (f0 != 2 || decide (f6 ≤ 1)) := by
    intro k hk e
    subst e
    simp only [List.mem_cons, List.not_mem_nil, or_false] at hk
    rcases hk with rfl | rfl | rfl | rfl | rfl | rfl | rfl | rfl | rfl | rfl | rfl | rfl | rfl | rfl | rfl | rfl | rfl | rfl | rfl | rfl | rfl
    all_goals (simp [tooB, manyF, namedB, valuedB, equalF, bareF, partsF, rd, isE]; grind)
  exact key f0 (by simp only [List.mem_cons, List.not_mem_nil, or_false]; omega) rfl
end Go.Proofs.Ytediidkiedifcaa.Q
