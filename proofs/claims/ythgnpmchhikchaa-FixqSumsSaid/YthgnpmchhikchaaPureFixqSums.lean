/- Sums, differences and negatives of any numbers are the document's. -/
import Derived.Test.YthgnpmchhikchaaMSum
namespace Go.Proofs.Ythgnpmchhikchaa.Pure
open Go.RowKit Go.Proofs.Ythgnpmchhikchaa.Q Go.Proofs.YthgnpmchhikchaaW.PrintWords Go.Proofs.YthgnpmchhikchaaW.PrintLast

theorem FixqSums : astrolabelaw01_FixqSums.Pure := by
  intro a b ha hb
  have ha := in64_of ha
  have hb := in64_of hb
  refine Ev.rounds (g := fun k => astrolabelaw01_FixqSums.f k a b) ?_
  unfold astrolabelaw01_FixqSums.f
  rw [add_eq a b ha hb, sub_eq a b ha hb, neg_eq a ha]
  obtain ⟨l, h1, h2, h3⟩ := negheld_ev a ha
  refine Ev.bind alive_ev ?_
  refine Ev.congr (fun k => by rw [if_pos rfl]) ?_
  simp only [Option.bind_some]
  refine Ev.bind (sum_ev a b ha hb) (Ev.bind (diff_ev a b ha hb) (Ev.bind h1 (Ev.bind (a := (l, !decide (a < 0))) (Ev.congr (fun k => h2) (Ev.now _)) (Ev.bind h3 ?_))))
  refine Ev.congr (fun k => ?_) (Ev.now true)
  simp

end Go.Proofs.Ythgnpmchhikchaa.Pure
