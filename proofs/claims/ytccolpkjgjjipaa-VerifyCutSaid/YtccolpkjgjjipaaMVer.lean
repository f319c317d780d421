/- The document's One is the program's right; what a list of wrong instructions tells. -/
import Derived.Test.YtccolpkjgjjipaaHOne4
import Derived.Test.YtccolpkjgjjipaaHRight2
namespace Go.Proofs.Ytccolpkjgjjipaa.Q
open Go.RowKit Go.Proofs.YtccolpkjgjjipaaW.PrintWords

theorem belowB_max (d c : Int) : belowB d (if 0 < c then c else 0) = belowB d c := by
  unfold belowB
  by_cases h : 0 < c
  · rw [if_pos h]
  · rw [if_neg h]
    by_cases h0 : 0 ≤ d
    · rw [decide_eq_false (show ¬ d < 0 by omega), decide_eq_false (show ¬ d < c by omega)]
    · rw [decide_eq_false h0]; rfl
theorem wrap_up {n : Int} (h0 : 0 ≤ n) (h : n < 9223372036854775807) : wrap64 (n + 1) = n + 1 := by
  unfold wrap64; omega
theorem max0_nonneg (c : Int) : 0 ≤ (if 0 < c then c else 0) := by split <;> omega
theorem one_right (n0 n1 n2 n3 : Nat) (cross piece : Int) (x : S47) (behind : Int) (hp0 : 0 ≤ piece) (hp3 : piece < 4) (hb0 : 0 ≤ behind) (hb : behind < 9223372036854775807) :
    oneB n0 n1 n2 n3 cross piece x behind = rightB n0 n1 n2 n3 cross piece x behind := by
  obtain ⟨op, d, a, b, c, v⟩ := x
  have hw : wrap64 (behind + 1) = behind + 1 := wrap_up hb0 hb
  have h1 : (0 : Int) ≤ behind + 1 := by omega
  have hm := max0_nonneg cross
  have z0 : ∀ n : Nat, (0 : Int) ≤ (n : Int) := fun n => by omega
  by_cases hr : 1 ≤ op ∧ op ≤ 22
  · obtain ⟨hlo, hhi⟩ := hr
    rcases (by omega : piece = 0 ∨ piece = 1 ∨ piece = 2 ∨ piece = 3) with rfl | rfl | rfl | rfl <;>
    rcases (by omega : op = 1 ∨ op = 2 ∨ op = 3 ∨ op = 4 ∨ op = 5 ∨ op = 6 ∨ op = 7 ∨ op = 8 ∨ op = 9 ∨ op = 10 ∨ op = 11 ∨ op = 12 ∨ op = 13 ∨ op = 14 ∨ op = 15 ∨ op = 16 ∨ op = 17 ∨ op = 18 ∨ op = 19 ∨ op = 20 ∨ op = 21 ∨ op = 22) with rfl | rfl | rfl | rfl | rfl | rfl | rfl | rfl | rfl | rfl | rfl | rfl | rfl | rfl | rfl | rfl | rfl | rfl | rfl | rfl | rfl | rfl <;>
    simp [oneB, rightB, oneD, oneA, oneBb, oneC, hereB, fieldB, isD, isA, isB, isC, placeD, placeA, placeB, hw, h1, hm, z0, belowB_max] <;>
    (by_cases hv : v = 0 <;> simp [hv])
  · have e1 : oneB n0 n1 n2 n3 cross piece ⟨op, d, a, b, c, v⟩ behind = false := by
      unfold oneB
      rw [if_pos (by dsimp only; omega)]
    have e2 : hereB piece op = false := by
      unfold hereB
      rw [if_neg (by omega), if_neg (by omega)]
      by_cases h2 : 1 ≤ op
      · rw [decide_eq_false (show ¬ op ≤ 22 by omega)]; simp
      · rw [decide_eq_false h2]; rfl
    rw [e1]
    simp only [rightB, e2, Bool.false_and]
end Go.Proofs.Ytccolpkjgjjipaa.Q
