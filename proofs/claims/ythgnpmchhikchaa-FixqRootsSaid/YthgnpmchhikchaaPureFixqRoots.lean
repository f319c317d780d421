/- The root, the size and the half of any number are the document's. -/
import Derived.Test.YthgnpmchhikchaaMRoot
namespace Go.Proofs.Ythgnpmchhikchaa.Pure
open Go.RowKit Go.Proofs.Ythgnpmchhikchaa.Q Go.Proofs.YthgnpmchhikchaaW.PrintWords Go.Proofs.YthgnpmchhikchaaW.PrintLast

theorem FixqRoots : astrolabelaw01_FixqRoots.Pure := by
  intro a ha
  have ha := in64_of ha
  refine Ev.rounds (g := fun k => astrolabelaw01_FixqRoots.f k a) ?_
  unfold astrolabelaw01_FixqRoots.f
  refine Ev.bind alive_ev ?_
  refine Ev.congr (fun k => by rw [if_pos rfl]) ?_
  have hh : fixq_Half.f a = some (wrap64 (Int.tdiv a 2)) := rfl
  by_cases hneg : a < 0
  · have hab : fixq_Abs.f a = some (sat (-a)) := by unfold fixq_Abs.f; rw [if_pos hneg, neg_eq a ha]; rfl
    obtain ⟨l, h1, h2, h3⟩ := negheld_ev a ha
    rw [sqrt_neg a hneg, hab, hh]
    simp only [Option.bind_some]
    refine Ev.congr (fun k => by rw [if_pos hneg]) ?_
    refine Ev.bind h1 (Ev.bind (a := (l, !decide (a < 0))) (Ev.congr (fun k => h2) (Ev.now _)) (Ev.bind h3 ?_))
    refine Ev.congr (fun k => ?_) (Ev.now true)
    simp
  · obtain ⟨R, hR, hroot, h3⟩ := sqrt_eq a (by omega) ha
    have hab : fixq_Abs.f a = some (a, 0) := by unfold fixq_Abs.f; rw [if_neg hneg]
    rw [hR, hab, hh]
    simp only [Option.bind_some]
    refine Ev.congr (fun k => by rw [if_neg hneg]) ?_
    refine Ev.bind (refsqrt_ev a (by omega) ha R hroot) ?_
    refine Ev.congr (fun k => ?_) (Ev.now true)
    simp

end Go.Proofs.Ythgnpmchhikchaa.Pure
