/- Sums and products don't care for the order; what was added and taken away leaves what there was, if neither is held; Mul by One and Div by One leave it. -/
import Derived.Test.YthgnpmchhikchaaMSum
import Derived.Test.YthgnpmchhikchaaMDiv3
namespace Go.Proofs.Ythgnpmchhikchaa.Pure
open Go.RowKit Go.Proofs.Ythgnpmchhikchaa.Q Go.Proofs.YthgnpmchhikchaaW.PrintWords Go.Proofs.YthgnpmchhikchaaW.PrintLast

theorem one_sg (a : Int) (ha : In64 a) (n : Nat) (hn : n = a.natAbs) : sat (sg ((decide (a < 0)) != (decide ((4294967296 : Int) < 0))) n) = (a, 0) := by
  have e : sg ((decide (a < 0)) != (decide ((4294967296 : Int) < 0))) n = a := by
    rw [hn, show decide ((4294967296 : Int) < 0) = false from rfl, Bool.bne_false, sg_of]
  rw [e, sat_in a ha]
theorem sat_flag {x : Int} (h : (sat x).2 = 0) : In64 x ∧ sat x = (x, 0) := by
  unfold sat at h
  split at h
  · simp at h
  · split at h
    · simp at h
    · exact ⟨⟨by omega, by omega⟩, sat_in x ⟨by omega, by omega⟩⟩

theorem FixqLaws : astrolabelaw01_FixqLaws.Pure := by
  intro a b ha hb
  have ha := in64_of ha
  have hb := in64_of hb
  have h1 : In64 4294967296 := ⟨by decide, by decide⟩
  refine Ev.rounds (g := fun k => astrolabelaw01_FixqLaws.f k a b) ?_
  unfold astrolabelaw01_FixqLaws.f
  refine Ev.bind alive_ev ?_
  refine Ev.congr (fun k => by rw [if_pos rfl, add_eq a b ha hb, add_eq b a hb ha]) ?_
  simp only [Option.bind_some]
  have m1 := mul_eq a b ha hb
  have m2 := mul_eq b a hb ha
  have m3 := mul_eq a 4294967296 ha h1
  have d1 := div_ev a 4294967296 ha h1 (by decide)
  rw [Nat.mul_comm b.natAbs a.natAbs, show ((decide (b < 0)) != (decide (a < 0))) = ((decide (a < 0)) != (decide (b < 0))) by cases decide (a < 0) <;> cases decide (b < 0) <;> rfl] at m2
  rw [one_sg a ha _ (by show a.natAbs * 4294967296 / 4294967296 = a.natAbs; omega)] at m3
  rw [one_sg a ha _ (by show a.natAbs * 4294967296 / 4294967296 = a.natAbs; omega)] at d1
  refine Ev.bind m1 (Ev.bind m2 (Ev.bind m3 (Ev.bind d1 ?_)))
  refine Ev.congr (fun k => by rw [if_pos (by rw [Int.add_comm]), if_pos (by rw [Int.add_comm]), if_pos rfl, if_pos rfl, if_pos rfl, if_pos rfl, if_pos rfl]) ?_
  rw [show (((0 : Int) != 0) = false) from rfl]
  by_cases hf : (sat (a + b)).2 = 0
  · obtain ⟨hin, hs⟩ := sat_flag hf
    rw [hs]
    refine Ev.step (f := fun _ => some true) (fun k => ?_) (Ev.now true)
    simp only [astrolabelaw01_FixqLaws.j0]
    rw [if_neg (by decide), if_pos trivial, sub_eq (a + b) b hin hb, show a + b - b = a by omega, sat_in a ha]
    simp
  · refine Ev.step (f := fun _ => some true) (fun k => ?_) (Ev.now true)
    simp only [astrolabelaw01_FixqLaws.j0]
    rw [if_neg (by decide), if_neg hf]

end Go.Proofs.Ythgnpmchhikchaa.Pure
