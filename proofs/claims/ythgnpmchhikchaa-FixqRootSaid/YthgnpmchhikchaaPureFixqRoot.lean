/- The root's square isn't above a number times 2^32, that of the next one is. -/
import Derived.Test.YthgnpmchhikchaaMRoot
namespace Go.Proofs.Ythgnpmchhikchaa.Pure
open Go.RowKit Go.Proofs.Ythgnpmchhikchaa.Q Go.Proofs.YthgnpmchhikchaaW.PrintWords Go.Proofs.YthgnpmchhikchaaW.PrintLast

theorem FixqRoot : astrolabelaw01_FixqRoot.Pure := by
  intro a ha
  have ha := in64_of ha
  refine Ev.rounds (g := fun k => astrolabelaw01_FixqRoot.f k a) ?_
  unfold astrolabelaw01_FixqRoot.f
  refine Ev.bind alive_ev ?_
  refine Ev.congr (fun k => by rw [if_pos rfl]) ?_
  by_cases hneg : a < 0
  · exact Ev.congr (fun k => by rw [if_pos hneg]) (Ev.now true)
  · refine Ev.congr (fun k => by rw [if_neg hneg]) ?_
    obtain ⟨R, hR, ⟨h1, h2⟩, h3⟩ := sqrt_eq a (by omega) ha
    rw [hR]
    simp only [Option.bind_some]
    obtain ⟨l, hl, vl, ll⟩ := of_ev a ha
    obtain ⟨r, hr, vr, lr⟩ := of_ev (R : Int) ⟨by omega, by omega⟩
    obtain ⟨s, hs, vs, ls⟩ := of_ev (wrap64 ((R : Int) + 1)) (by rw [wrap_in (by omega) (by omega)]; exact ⟨by omega, by omega⟩)
    have e1 : (wrap64 ((R : Int) + 1)).natAbs = R + 1 := by rw [wrap_in (by omega) (by omega)]; omega
    rw [e1] at vs
    obtain ⟨m, hm, vm, lm⟩ := mul_ev r (decide ((R : Int) < 0)) r (decide ((R : Int) < 0)) (by omega) (by omega)
    obtain ⟨n, hn, vn, ln⟩ := mul_ev s (decide (wrap64 ((R : Int) + 1) < 0)) s (decide (wrap64 ((R : Int) + 1) < 0)) (by omega) (by omega)
    have vw : val (List.replicate 32 false ++ l) = a.natAbs * 4294967296 := by rw [val_zeros, vl, Nat.mul_comm]
    have c1 := cmp_ev m (List.replicate 32 false ++ l) (by omega) (by simp; omega)
    have c2 := cmp_ev n (List.replicate 32 false ++ l) (by omega) (by simp; omega)
    rw [vm, vr, vw, Int.natAbs_natCast] at c1
    rw [vn, vs, vw] at c2
    have k1 : cmpN (R * R) (a.natAbs * 4294967296) ≤ 0 := by unfold cmpN; split; omega; split <;> omega
    have k2 : cmpN ((R + 1) * (R + 1)) (a.natAbs * 4294967296) > 0 := by unfold cmpN; rw [if_neg (by omega), if_neg (by omega)]; omega
    refine Ev.bind hl (Ev.bind (a := (List.replicate 32 false ++ l, decide (a < 0))) (Ev.congr (fun k => up_eq l _ (by omega)) (Ev.now _)) (Ev.bind hr (Ev.bind hr (Ev.bind hm (Ev.bind c1 ?_)))))
    refine Ev.congr (fun k => by rw [if_pos k1]) (Ev.bind hs (Ev.bind hs (Ev.bind hn (Ev.bind c2 ?_))))
    rw [decide_eq_true k2]
    exact Ev.now true

end Go.Proofs.Ythgnpmchhikchaa.Pure
