/- What a list of wrong instructions tells; lookups in an object's pieces. -/
import Derived.Test.YtccolpkjgjjipaaQ2
import Derived.Test.YtccolpkjgjjipaaMVer
import Derived.KernelRfl
namespace Go.Proofs.Ytccolpkjgjjipaa.Q
open Go.RowKit Go.Proofs.YtccolpkjgjjipaaW.PrintWords
set_option maxRecDepth 100000 in
theorem alive17_true : astrolabelaw17_alive.f = some true := by kernel_rfl

theorem rIf_le {b : Bool} {n out : Int} (ho : 0 ≤ out ∧ out ≤ 4000) (hb : b = true → n < 4000) : 0 ≤ rIf b n out ∧ rIf b n out ≤ 4000 := by
  unfold rIf
  by_cases h : b = true ∧ out ≤ n
  · rw [if_pos h]
    have := hb h.1
    rw [wrap_up (by omega) (by omega)]; omega
  · rw [if_neg h]; exact ho
theorem field_lt {n many : Int} {b : Bool} (h : fieldB n b many = true) : b = true → n < 4000 := by
  intro hb
  rw [fieldB, if_pos hb] at h
  simp [belowB] at h
  exact h.2
theorem right_fields {n0 n1 n2 n3 : Nat} {cross piece : Int} {x : S47} {behind : Int} (h : rightB n0 n1 n2 n3 cross piece x behind = true) :
    (isD x.f0 = true → x.f1 < 4000) ∧ (isA x.f0 = true → x.f2 < 4000) ∧ (isB x.f0 = true → x.f3 < 4000) ∧ (isC x.f0 = true → x.f4 < 4000) := by
  unfold rightB at h
  simp only [Bool.and_eq_true] at h
  exact ⟨field_lt h.2.1, field_lt h.2.2.1, field_lt h.2.2.2.1, field_lt h.2.2.2.2⟩
theorem step_le {x : S47} {out : Int} (ho : 0 ≤ out ∧ out ≤ 4000) (h : (isD x.f0 = true → x.f1 < 4000) ∧ (isA x.f0 = true → x.f2 < 4000) ∧ (isB x.f0 = true → x.f3 < 4000) ∧ (isC x.f0 = true → x.f4 < 4000)) : 0 ≤ regStep out x ∧ regStep out x ≤ 4000 := by
  unfold regStep
  split
  · exact ho
  · exact rIf_le (rIf_le (rIf_le (rIf_le ho h.1) h.2.1) h.2.2.1) h.2.2.2
theorem regs_le : ∀ (l : List S47) (out : Int), 0 ≤ out ∧ out ≤ 4000 → (∀ x ∈ l, (isD x.f0 = true → x.f1 < 4000) ∧ (isA x.f0 = true → x.f2 < 4000) ∧ (isB x.f0 = true → x.f3 < 4000) ∧ (isC x.f0 = true → x.f4 < 4000)) → 0 ≤ l.foldl regStep out ∧ l.foldl regStep out ≤ 4000
  | [], out, ho, _ => ho
  | x :: l, out, ho, h => regs_le l _ (step_le ho (h x (by simp))) (fun y hy => h y (by simp [hy]))
theorem rdT_mem {l : List S47} {n : Nat} (h : n < l.length) : rd_T47 l (n : Int) = l[n] := by
  unfold rd_T47
  simp [List.getD_eq_getElem?_getD, List.getElem?_eq_getElem h]
/-- What is in a piece's list of the wrong ones. -/
theorem wrongTo_mem {R : Int → S47 → Int → Bool} {piece : Int} {l : List S47} {x : Int × Int} : ∀ {n : Nat}, x ∈ wrongTo R piece l n ↔ ∃ m : Nat, m < n ∧ x = (piece, (m : Int)) ∧ R piece (rd_T47 l (m : Int)) ((l.length : Int) - m - 1) = false
  | 0 => by simp [wrongTo]
  | n + 1 => by
    rw [wrongTo, List.mem_append, wrongTo_mem]
    constructor
    · rintro (⟨m, h1, h2, h3⟩ | h)
      · exact ⟨m, by omega, h2, h3⟩
      · split at h
        · cases h
        · rename_i hr
          exact ⟨n, by omega, by simpa using h, by simpa using hr⟩
    · rintro ⟨m, h1, h2, h3⟩
      by_cases hm : m = n
      · subst hm
        right
        rw [if_neg (by simp [h3])]
        simpa using h2
      · exact .inl ⟨m, by omega, h2, h3⟩
theorem wrongPs_mem {R : Int → S47 → Int → Bool} {ps : Nat → List S47} {x : Int × Int} : ∀ {k : Nat}, x ∈ wrongPs R ps k ↔ ∃ j m : Nat, j < k ∧ m < (ps j).length ∧ x = ((j : Int), (m : Int)) ∧ R (j : Int) (rd_T47 (ps j) (m : Int)) (((ps j).length : Int) - m - 1) = false
  | 0 => by simp [wrongPs]
  | k + 1 => by
    rw [wrongPs, List.mem_append, wrongPs_mem, wrongTo_mem]
    constructor
    · rintro (⟨j, m, h0, h1, h2, h3⟩ | ⟨m, h1, h2, h3⟩)
      · exact ⟨j, m, by omega, h1, h2, h3⟩
      · exact ⟨k, m, by omega, h1, h2, h3⟩
    · rintro ⟨j, m, h0, h1, h2, h3⟩
      by_cases hj : j = k
      · subst hj; exact .inr ⟨m, h1, h2, h3⟩
      · exact .inl ⟨j, m, by omega, h1, h2, h3⟩
/-- Each piece of what is right asks for few registers. -/
theorem right_regs {l0_0 l0_1 l0_2 l0_3 : List Int} {a0_4 a0_5 : Int} {l0_6 l0_7 l0_8 l0_9 : List S47} (h : rightO l0_0 l0_1 l0_2 l0_3 a0_4 a0_5 l0_6 l0_7 l0_8 l0_9 = true) (j : Nat) (hj : j < 4) :
    0 ≤ (four l0_6 l0_7 l0_8 l0_9 j).foldl regStep 0 ∧ (four l0_6 l0_7 l0_8 l0_9 j).foldl regStep 0 ≤ 4000 := by
  unfold rightO at h
  simp only [Bool.and_eq_true, List.isEmpty_iff] at h
  have hw := h.2.2.2.2.2
  refine regs_le _ 0 (by omega) fun x hx => ?_
  obtain ⟨m, hm⟩ := List.getElem?_of_mem hx
  obtain ⟨hlt, he⟩ := List.getElem?_eq_some_iff.1 hm
  have hn : ¬ (((j : Int), (m : Int)) ∈ wrongPs (rightB l0_0.length l0_1.length l0_2.length l0_3.length a0_4) (four l0_6 l0_7 l0_8 l0_9) 4) := by rw [hw]; simp
  rw [wrongPs_mem] at hn
  have hr : rightB l0_0.length l0_1.length l0_2.length l0_3.length a0_4 (j : Int) (rd_T47 (four l0_6 l0_7 l0_8 l0_9 j) (m : Int)) (((four l0_6 l0_7 l0_8 l0_9 j).length : Int) - m - 1) = true := by
    cases hc : rightB l0_0.length l0_1.length l0_2.length l0_3.length a0_4 (j : Int) (rd_T47 (four l0_6 l0_7 l0_8 l0_9 j) (m : Int)) (((four l0_6 l0_7 l0_8 l0_9 j).length : Int) - m - 1) with
    | true => rfl
    | false => exact absurd ⟨j, m, hj, hlt, rfl, hc⟩ hn
  rw [rdT_mem hlt, he] at hr
  exact right_fields hr
theorem rdL_four (a b c d : List S47) (j : Nat) (hj : j < 4) : rd_L4 [a, b, c, d] (j : Int) = four a b c d j := by
  rcases (by omega : j = 0 ∨ j = 1 ∨ j = 2 ∨ j = 3) with rfl | rfl | rfl | rfl <;> rfl
end Go.Proofs.Ytccolpkjgjjipaa.Q
