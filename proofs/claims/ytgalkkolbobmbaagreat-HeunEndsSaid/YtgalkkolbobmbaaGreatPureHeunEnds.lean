/- Between two lists at the part 0 is the first one, at the whole the second one, where no difference is held. -/
import Derived.Test.YtgalkkolbobmbaaGreatMLc
import Derived.Test.YtgalkkolbobmbaaGreatQE
namespace Go.Proofs.YtgalkkolbobmbaaGreat.Pure
open Go.RowKit Go.Proofs.YtgalkkolbobmbaaGreat.Q Go.Proofs.YtgalkkolbobmbaaGreatW.PrintWords Go.Proofs.YtgalkkolbobmbaaGreatW.PrintLast

theorem lerpF_diff {a b m k : Int} (h : lerpF a b m k = 0) : In64 (b - a) := by
  unfold lerpF at h
  split at h
  · rename_i h'; exact sat_flag h'.1
  · exact absurd h (by decide)
theorem lerp_first (a b k : Int) (ha : In64 a) (hd : In64 (b - a)) : (lerpV a b 0 k).1 = a := by
  unfold lerpV lerpD
  rw [sat_in _ hd]
  have hm : lerpM 0 (lerpK k) = 0 := by
    unfold lerpM
    rw [if_neg (by decide)]
    generalize 2 ^ lerpK k = P
    split
    · omega
    · rfl
  rw [hm, (part_in (b - a) hd 0 (lerpK k) (Nat.zero_le _)).1]
  simp only [Nat.mul_zero, Nat.zero_div]
  have : sg (decide (b - a < 0)) 0 = 0 := by unfold sg; split <;> rfl
  rw [this, Int.add_zero, sat_in a ha]
theorem lerp_last (a b k : Int) (hb : In64 b) (hd : In64 (b - a)) : (lerpV a b ((2 ^ lerpK k : Nat) : Int) k).1 = b := by
  unfold lerpV lerpD
  rw [sat_in _ hd]
  have hm : lerpM ((2 ^ lerpK k : Nat) : Int) (lerpK k) = 2 ^ lerpK k := by
    unfold lerpM
    generalize 2 ^ lerpK k = P at *
    rw [if_neg (by omega), if_neg (by omega), Int.toNat_natCast]
  rw [hm, (part_in (b - a) hd _ (lerpK k) (Nat.le_refl _)).1]
  simp only [Nat.mul_div_cancel _ (Nat.two_pow_pos (lerpK k))]
  rw [sg_of, show a + (b - a) = b by omega, sat_in b hb]
theorem rd_take {l : List Int} (n : Nat) (h : n < l.length) : l.take n ++ [rd l (n : Int)] = l.take (n + 1) := by
  unfold rd
  have e : l.getD (n : Int).toNat 0 = l[n] := by simp [List.getD, h]
  rw [e, List.take_succ_eq_append_getElem h]
theorem betV_first (l0 l1 : List Int) (k : Int) (h0 : ∀ x ∈ l0, In64 x) : ∀ n, n ≤ l0.length → betF l0 l1 0 k n = 0 → betV l0 l1 0 k n = l0.take n
  | 0, _, _ => by simp [betV]
  | n + 1, hn, hf => by
    unfold betF at hf
    split at hf
    · rename_i h
      rw [betV, betV_first l0 l1 k h0 n (by omega) h.1, lerp_first _ _ k (in64_rd h0 n (by omega)) (lerpF_diff h.2), rd_take n (by omega)]
    · exact absurd hf (by decide)
theorem betV_last (l0 l1 : List Int) (k : Int) (h1 : ∀ x ∈ l1, In64 x) : ∀ n, n ≤ l1.length → betF l0 l1 ((2 ^ lerpK k : Nat) : Int) k n = 0 → betV l0 l1 ((2 ^ lerpK k : Nat) : Int) k n = l1.take n
  | 0, _, _ => by simp [betV]
  | n + 1, hn, hf => by
    unfold betF at hf
    split at hf
    · rename_i h
      rw [betV, betV_last l0 l1 k h1 n (by omega) h.1, lerp_last _ _ k (in64_rd h1 n (by omega)) (lerpF_diff h.2), rd_take n (by omega)]
    · exact absurd hf (by decide)
theorem u8_in {a : Int} (h : (Lit.int .u8 a).wf = true) : 0 ≤ a ∧ a ≤ 255 := by
  simp [Lit.wf, IntKind.min, IntKind.max, IntKind.bits, IntKind.signed] at h
  omega
theorem pow_tab : ∀ n : Fin 33, shl .i64 1 (n.val : Int) = ((2 ^ n.val : Nat) : Int) := by decide +kernel
theorem HeunEnds : astrolabelaw19_HeunEnds.Pure := by
  intro l0 l1 a2 _ _ h0 _ _ h1 ha
  have h0 : ∀ x ∈ l0, In64 x := fun x hx => in64_of (h0 x hx)
  have h1 : ∀ x ∈ l1, In64 x := fun x hx => in64_of (h1 x hx)
  obtain ⟨u0, u1⟩ := u8_in ha
  refine Ev.rounds (g := fun n => astrolabelaw19_HeunEnds.f n l0 l1 a2) ?_
  have out : Ev (fun K => astrolabelaw19_HeunEnds.j0 K l0 l1 a2 true) true := Ev.step (f := fun _ => some true) (fun K => by simp only [astrolabelaw19_HeunEnds.j0, if_true]) (Ev.now _)
  refine Ev.congr (f := fun n => if (l0.length : Int) > 100 then (astrolabelaw19_HeunEnds.j0 n l0 l1 a2 true) else (astrolabelaw19_HeunEnds.j0 n l0 l1 a2 ((l0.length : Int) != (l1.length : Int)))) (fun n => by unfold astrolabelaw19_HeunEnds.f; rfl) ?_
  by_cases c0 : (l0.length : Int) > 100
  · exact Ev.congr (fun n => by rw [if_pos c0]) out
  · refine Ev.congr (fun n => by rw [if_neg c0]) ?_
    by_cases hl : l0.length = l1.length
    · rw [show ((l0.length : Int) != (l1.length : Int)) = false by simp [hl]]
      have hm : wrap64 (Int.tmod a2 33) = ((a2.toNat % 33 : Nat) : Int) := by
        rw [Int.tmod_eq_emod_of_nonneg u0, wrap_in (by omega) (by omega)]; omega
      have hn : a2.toNat % 33 < 33 := Nat.mod_lt _ (by decide)
      generalize a2.toNat % 33 = n at hm hn
      have hK : lerpK (n : Int) = n := by unfold lerpK; rw [if_neg (by omega)]; split <;> omega
      have hs : shl .i64 1 (n : Int) = ((2 ^ lerpK (n : Int) : Nat) : Int) := by rw [hK]; exact pow_tab ⟨n, hn⟩
      refine Ev.step (f := fun K => (heun_Between.f K l0 l1 0 (n : Int)).bind fun bt288 => ((heun_Between.f K l0 l1 ((2 ^ lerpK (n : Int) : Nat) : Int) (n : Int)).bind fun bt292 => (if bt288.2 = 0 then (if bt292.2 = 0 then ((astrolaberef14_Numbers.f K bt288.1 l0).bind fun t296 => (if t296 = true then ((astrolaberef14_Numbers.f K bt292.1 l1).bind fun t297 => (some t297)) else (some false))) else (some true)) else (some true))))
        (fun K => by have h0n : (0 : Int) ≤ (n : Int) := by omega
                     simp only [astrolabelaw19_HeunEnds.j0, Bool.false_eq_true, if_false, hm, hs, if_pos h0n]) ?_
      refine Ev.bind (between_ev l0 l1 0 n h0 h1 hl (by omega)) (Ev.bind (between_ev l0 l1 _ n h0 h1 hl (by omega)) ?_)
      dsimp only
      by_cases f0 : betF l0 l1 0 n l0.length = 0
      · refine Ev.congr (fun K => by rw [if_pos f0]) ?_
        by_cases f1 : betF l0 l1 ((2 ^ lerpK (n : Int) : Nat) : Int) n l0.length = 0
        · refine Ev.congr (fun K => by rw [if_pos f1]) ?_
          rw [betV_first l0 l1 n h0 l0.length (Nat.le_refl _) f0, betV_last l0 l1 n h1 l0.length (by omega) f1, List.take_length, hl, List.take_length]
          refine Ev.bind (numbers_ev l0 (by omega)) ?_
          refine Ev.congr (fun K => by rw [if_pos rfl]) (Ev.bind (numbers_ev l1 (by omega)) (Ev.now _))
        · exact Ev.congr (fun K => by rw [if_neg f1]) (Ev.now _)
      · exact Ev.congr (fun K => by rw [if_neg f0]) (Ev.now _)
    · rw [show ((l0.length : Int) != (l1.length : Int)) = true by simp; omega]
      exact out

end Go.Proofs.YtgalkkolbobmbaaGreat.Pure
