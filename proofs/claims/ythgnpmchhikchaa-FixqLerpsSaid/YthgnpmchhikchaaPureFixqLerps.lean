/- What is between any two numbers is the document's; at both ends it is these, if their difference isn't held. -/
import Derived.Test.YthgnpmchhikchaaMLerp2
import Derived.Test.YthgnpmchhikchaaQ12
namespace Go.Proofs.Ythgnpmchhikchaa.Pure
open Go.RowKit Go.Proofs.Ythgnpmchhikchaa.Q Go.Proofs.YthgnpmchhikchaaW.PrintWords Go.Proofs.YthgnpmchhikchaaW.PrintLast

theorem lerp_first (a b k : Int) (ha : In64 a) (hd : In64 (b - a)) : (lerpV a b 0 k).1 = a := by
  unfold lerpV lerpD
  rw [sat_in _ hd]
  have hm : lerpM 0 (lerpK k) = 0 := by
    unfold lerpM
    rw [if_neg (by decide)]
    generalize 2 ^ lerpK k = P
    split
    · omega
    · rfl
  rw [hm, (part_in (b - a) hd 0 (lerpK k) (Nat.zero_le _)).1]
  simp only [Nat.mul_zero, Nat.zero_div]
  have : sg (decide (b - a < 0)) 0 = 0 := by unfold sg; split <;> rfl
  rw [this, Int.add_zero, sat_in a ha]
theorem lerp_last (a b k : Int) (hb : In64 b) (hd : In64 (b - a)) : (lerpV a b 4294967296 k).1 = b := by
  unfold lerpV lerpD
  rw [sat_in _ hd]
  have hp := pow32 (lerpK_le k)
  have hm : lerpM 4294967296 (lerpK k) = 2 ^ lerpK k := by
    unfold lerpM
    generalize 2 ^ lerpK k = P at *
    rw [if_neg (by decide)]
    split
    · rfl
    · omega
  rw [hm, (part_in (b - a) hd _ (lerpK k) (Nat.le_refl _)).1]
  simp only [Nat.mul_div_cancel _ (Nat.two_pow_pos (lerpK k))]
  rw [sg_of, show a + (b - a) = b by omega, sat_in b hb]
theorem sat_flag {x : Int} (h : (sat x).2 = 0) : In64 x := by
  unfold sat at h
  split at h
  · simp at h
  · split at h
    · simp at h
    · exact ⟨by omega, by omega⟩

theorem FixqLerps : astrolabelaw01_FixqLerps.Pure := by
  intro a b m k ha hb hm hk
  have ha := in64_of ha
  have hb := in64_of hb
  refine Ev.rounds (g := fun n => astrolabelaw01_FixqLerps.f n a b m k) ?_
  unfold astrolabelaw01_FixqLerps.f
  refine Ev.bind alive_ev ?_
  refine Ev.congr (fun n => by rw [if_pos rfl]) ?_
  refine Ev.bind (lerp_ev a b m k ha hb) (Ev.bind (reflerp_ev a b m k ha hb) ?_)
  refine Ev.congr (fun n => by rw [if_pos rfl]) ?_
  rw [show (lerpF a b m k != lerpF a b m k) = false by simp]
  refine Ev.step (f := fun n => (astrolaberef01_Diff.f n b a).bind fun bt433 => (if bt433.2 = 0 then ((fixq_Lerp.f n a b 0 k).bind fun bt435 => ((fixq_Lerp.f n a b 4294967296 k).bind fun bt437 => (if bt435.1 = a then (some (bt437.1 == b)) else (some false)))) else (some true))) (fun n => ?_) ?_
  · simp only [astrolabelaw01_FixqLerps.j0]
    rw [if_neg (by decide)]
  · refine Ev.bind (diff_ev b a hb ha) ?_
    by_cases h : (sat (b - a)).2 = 0
    · have hd := sat_flag h
      refine Ev.congr (fun n => by rw [if_pos h]) ?_
      refine Ev.bind (lerp_ev a b 0 k ha hb) (Ev.bind (lerp_ev a b 4294967296 k ha hb) ?_)
      rw [lerp_first a b k ha hd, lerp_last a b k hb hd]
      exact Ev.congr (fun n => by rw [if_pos rfl]; simp) (Ev.now true)
    · exact Ev.congr (fun n => by rw [if_neg h]) (Ev.now true)

end Go.Proofs.Ythgnpmchhikchaa.Pure
