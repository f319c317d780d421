/- The plain law of VerifyNumbers. -/
import Derived.Test.YtccolpkjgjjipaaDefVerifyNumbers
import Derived.Test.YtccolpkjgjjipaaMVer
import Derived.KernelRfl
namespace Go.Proofs.Ytccolpkjgjjipaa.Q
open Go.RowKit Go.Proofs.YtccolpkjgjjipaaW.PrintWords
set_option maxRecDepth 100000 in
theorem alive17_true : astrolabelaw17_alive.f = some true := by kernel_rfl

theorem rIf_le {b : Bool} {n out : Int} (ho : 0 ≤ out ∧ out ≤ 4000) (hb : b = true → n < 4000) : 0 ≤ rIf b n out ∧ rIf b n out ≤ 4000 := by
  unfold rIf
  by_cases h : b = true ∧ out ≤ n
  · rw [if_pos h]
    have := hb h.1
    rw [wrap_up (by omega) (by omega)]; omega
  · rw [if_neg h]; exact ho
theorem field_lt {n many : Int} {b : Bool} (h : fieldB n b many = true) : b = true → n < 4000 := by
  intro hb
  rw [fieldB, if_pos hb] at h
  simp [belowB] at h
  exact h.2
theorem right_fields {n0 n1 n2 n3 : Nat} {cross piece : Int} {x : S47} {behind : Int} (h : rightB n0 n1 n2 n3 cross piece x behind = true) :
    (isD x.f0 = true → x.f1 < 4000) ∧ (isA x.f0 = true → x.f2 < 4000) ∧ (isB x.f0 = true → x.f3 < 4000) ∧ (isC x.f0 = true → x.f4 < 4000) := by
  unfold rightB at h
  simp only [Bool.and_eq_true] at h
  exact ⟨field_lt h.2.1, field_lt h.2.2.1, field_lt h.2.2.2.1, field_lt h.2.2.2.2⟩
theorem step_le {x : S47} {out : Int} (ho : 0 ≤ out ∧ out ≤ 4000) (h : (isD x.f0 = true → x.f1 < 4000) ∧ (isA x.f0 = true → x.f2 < 4000) ∧ (isB x.f0 = true → x.f3 < 4000) ∧ (isC x.f0 = true → x.f4 < 4000)) : 0 ≤ regStep out x ∧ regStep out x ≤ 4000 := by
  unfold regStep
  split
  · exact ho
  · exact rIf_le (rIf_le (rIf_le (rIf_le ho h.1) h.2.1) h.2.2.1) h.2.2.2
theorem regs_le : ∀ (l : List S47) (out : Int), 0 ≤ out ∧ out ≤ 4000 → (∀ x ∈ l, (isD x.f0 = true → x.f1 < 4000) ∧ (isA x.f0 = true → x.f2 < 4000) ∧ (isB x.f0 = true → x.f3 < 4000) ∧ (isC x.f0 = true → x.f4 < 4000)) → 0 ≤ l.foldl regStep out ∧ l.foldl regStep out ≤ 4000
  | [], out, ho, _ => ho
  | x :: l, out, ho, h => regs_le l _ (step_le ho (h x (by simp))) (fun y hy => h y (by simp [hy]))
theorem rdT_mem {l : List S47} {n : Nat} (h : n < l.length) : rd_T47 l (n : Int) = l[n] := by
  unfold rd_T47
  simp [List.getD_eq_getElem?_getD, List.getElem?_eq_getElem h]
/-- What is in a piece's list of the wrong ones. -/
theorem wrongTo_mem {R : Int → S47 → Int → Bool} {piece : Int} {l : List S47} {x : Int × Int} : ∀ {n : Nat}, x ∈ wrongTo R piece l n ↔ ∃ m : Nat, m < n ∧ x = (piece, (m : Int)) ∧ R piece (rd_T47 l (m : Int)) ((l.length : Int) - m - 1) = false
  | 0 => by simp [wrongTo]
  | n + 1 => by
    rw [wrongTo, List.mem_append, wrongTo_mem]
    constructor
    · rintro (⟨m, h1, h2, h3⟩ | h)
      · exact ⟨m, by omega, h2, h3⟩
      · split at h
        · cases h
        · rename_i hr
          exact ⟨n, by omega, by simpa using h, by simpa using hr⟩
    · rintro ⟨m, h1, h2, h3⟩
      by_cases hm : m = n
      · subst hm
        right
        rw [if_neg (by simp [h3])]
        simpa using h2
      · exact .inl ⟨m, by omega, h2, h3⟩
theorem wrongPs_mem {R : Int → S47 → Int → Bool} {ps : Nat → List S47} {x : Int × Int} : ∀ {k : Nat}, x ∈ wrongPs R ps k ↔ ∃ j m : Nat, j < k ∧ m < (ps j).length ∧ x = ((j : Int), (m : Int)) ∧ R (j : Int) (rd_T47 (ps j) (m : Int)) (((ps j).length : Int) - m - 1) = false
  | 0 => by simp [wrongPs]
  | k + 1 => by
    rw [wrongPs, List.mem_append, wrongPs_mem, wrongTo_mem]
    constructor
    · rintro (⟨j, m, h0, h1, h2, h3⟩ | ⟨m, h1, h2, h3⟩)
      · exact ⟨j, m, by omega, h1, h2, h3⟩
      · exact ⟨k, m, by omega, h1, h2, h3⟩
    · rintro ⟨j, m, h0, h1, h2, h3⟩
      by_cases hj : j = k
      · subst hj; exact .inr ⟨m, h1, h2, h3⟩
      · exact .inl ⟨j, m, by omega, h1, h2, h3⟩
/-- Each piece of what is right asks for few registers. -/
theorem right_regs {l0_0 l0_1 l0_2 l0_3 : List Int} {a0_4 a0_5 : Int} {l0_6 l0_7 l0_8 l0_9 : List S47} (h : rightO l0_0 l0_1 l0_2 l0_3 a0_4 a0_5 l0_6 l0_7 l0_8 l0_9 = true) (j : Nat) (hj : j < 4) :
    0 ≤ (four l0_6 l0_7 l0_8 l0_9 j).foldl regStep 0 ∧ (four l0_6 l0_7 l0_8 l0_9 j).foldl regStep 0 ≤ 4000 := by
  unfold rightO at h
  simp only [Bool.and_eq_true, List.isEmpty_iff] at h
  have hw := h.2.2.2.2.2
  refine regs_le _ 0 (by omega) fun x hx => ?_
  obtain ⟨m, hm⟩ := List.getElem?_of_mem hx
  obtain ⟨hlt, he⟩ := List.getElem?_eq_some_iff.1 hm
  have hn : ¬ (((j : Int), (m : Int)) ∈ wrongPs (rightB l0_0.length l0_1.length l0_2.length l0_3.length a0_4) (four l0_6 l0_7 l0_8 l0_9) 4) := by rw [hw]; simp
  rw [wrongPs_mem] at hn
  have hr : rightB l0_0.length l0_1.length l0_2.length l0_3.length a0_4 (j : Int) (rd_T47 (four l0_6 l0_7 l0_8 l0_9 j) (m : Int)) (((four l0_6 l0_7 l0_8 l0_9 j).length : Int) - m - 1) = true := by
    cases hc : rightB l0_0.length l0_1.length l0_2.length l0_3.length a0_4 (j : Int) (rd_T47 (four l0_6 l0_7 l0_8 l0_9 j) (m : Int)) (((four l0_6 l0_7 l0_8 l0_9 j).length : Int) - m - 1) with
    | true => rfl
    | false => exact absurd ⟨j, m, hj, hlt, rfl, hc⟩ hn
  rw [rdT_mem hlt, he] at hr
  exact right_fields hr
theorem rdL_four (a b c d : List S47) (j : Nat) (hj : j < 4) : rd_L4 [a, b, c, d] (j : Int) = four a b c d j := by
  rcases (by omega : j = 0 ∨ j = 1 ∨ j = 2 ∨ j = 3) with rfl | rfl | rfl | rfl <;> rfl
theorem numbers_loop (a b c d : List S47) (h : ∀ j, j < 4 → 0 ≤ (four a b c d j).foldl regStep 0 ∧ (four a b c d j).foldl regStep 0 ≤ 4000) : ∀ (n j : Nat), j + n = 4 → Ev (fun k => astrolabelaw17_VerifyNumbers.l0 k [a, b, c, d] (j : Int)) true := by
  intro n
  induction n with
  | zero =>
    intro j hj
    exact Ev.step (f := fun _ => some true) (fun k => by rw [astrolabelaw17_VerifyNumbers.l0, if_neg (by omega)]) (Ev.now true)
  | succ n ih =>
    intro j hj
    have hr := h j (by omega)
    refine Ev.step (f := fun k => astrolabelaw17_VerifyNumbers.l0 k [a, b, c, d] ((j + 1 : Nat) : Int)) (fun k => ?_) (ih (j + 1) (by omega))
    rw [astrolabelaw17_VerifyNumbers.l0, if_pos (by omega), if_pos (by omega), if_pos (by simp; omega), verify_Registers.f, Option.bind_some, rdL_four _ _ _ _ _ (by omega), if_neg (by omega), wrap_up (by omega) (by omega), Int.natCast_succ]
end Go.Proofs.Ytccolpkjgjjipaa.Q
namespace Go.Proofs.Ytccolpkjgjjipaa
open Go.RowKit Go.Proofs.YtccolpkjgjjipaaW.PrintWords Q
theorem wrap_down {n : Int} (h0 : 0 ≤ n) (h : n ≤ 9223372036854775807) : wrap64 n = n := by
  unfold wrap64; omega
/-- What is told of the first wrong one. -/
def tellW (o : Int → S47 → Int → Option Bool) (t : List (List S47)) (b : Int × Int × Bool) : Option Bool :=
  if b.2.2 = true then (if b.1 ≥ 0 then (if b.1 < 4 then (if b.2.1 ≥ 0 then (if 0 ≤ b.1 then (if b.1 < (t.length : Int) then (if b.2.1 < ((rd_L4 t b.1).length : Int) then (if 0 ≤ b.2.1 then
    ((o b.1 (rd_T47 (rd_L4 t b.1) b.2.1) (wrap64 ((wrap64 (((rd_L4 t b.1).length : Int) - b.2.1)) - 1))).bind fun r => some (!r)) else none) else some false) else none) else none) else some false) else some false) else some false) else some true
theorem tellW_true (o : Int → S47 → Int → Option Bool) (R : Int → S47 → Int → Bool) (a b c d : List S47) (j m : Nat) (hj : j < 4) (hm : m < (four a b c d j).length) (hl : ((four a b c d j).length : Int) ≤ 140737488351232)
    (ho : ∀ x behind, 0 ≤ behind → behind < 9223372036854775807 → o (j : Int) x behind = some (R (j : Int) x behind)) (hR : R (j : Int) (rd_T47 (four a b c d j) (m : Int)) (((four a b c d j).length : Int) - m - 1) = false) :
    tellW o [a, b, c, d] ((j : Int), (m : Int), true) = some true := by
  have h1 : wrap64 (((four a b c d j).length : Int) - m) = ((four a b c d j).length : Int) - m := wrap_down (by omega) (by omega)
  have h2 : wrap64 (((four a b c d j).length : Int) - m - 1) = ((four a b c d j).length : Int) - m - 1 := wrap_down (by omega) (by omega)
  have h3 : ((j : Nat) : Int) < (([a, b, c, d] : List (List S47)).length : Int) := by simp; omega
  unfold tellW
  dsimp only
  rw [if_pos rfl, if_pos (by omega), if_pos (by omega), if_pos (by omega), if_pos (by omega), if_pos h3, rdL_four _ _ _ _ _ hj, if_pos (by omega), if_pos (by omega), h1, h2, ho _ _ (by omega) (by omega), hR]
  rfl
theorem Pure.VerifyNumbers : astrolabelaw17_VerifyNumbers.Pure := by
  intro x0 hG
  refine Ev.rounds (g := fun k => astrolabelaw17_VerifyNumbers.f k x0.f0 x0.f1 x0.f2 x0.f3 x0.f4 x0.f5 x0.f6 x0.f7 x0.f8 x0.f9) ?_
  obtain ⟨_, _, _, _, _, _, h6, h7, h8, h9⟩ := hG
  have hlen : ∀ j, j < 4 → ((four x0.f6 x0.f7 x0.f8 x0.f9 j).length : Int) ≤ 140737488351232 := by
    intro j hj
    rcases (by omega : j = 0 ∨ j = 1 ∨ j = 2 ∨ j = 3) with rfl | rfl | rfl | rfl <;> simp only [four] <;> omega
  clear h6 h7 h8 h9
  refine Ev.congr (f := fun k => (astrolaberef16_Great.f x0.f0 x0.f1 x0.f2 x0.f3 x0.f4 x0.f5 x0.f6 x0.f7 x0.f8 x0.f9).bind fun t => if t = true then some true else (verify_Right.f x0.f0 x0.f1 x0.f2 x0.f3 x0.f4 x0.f5 x0.f6 x0.f7 x0.f8 x0.f9).bind fun r => if r = true then astrolabelaw17_VerifyNumbers.l0 k [x0.f6, x0.f7, x0.f8, x0.f9] 0 else
    (verify_Wrong.f x0.f0 x0.f1 x0.f2 x0.f3 x0.f4 x0.f5 x0.f6 x0.f7 x0.f8 x0.f9).bind fun b => tellW (fun p x n => astrolaberef17_One.f x0.f0 x0.f1 x0.f2 x0.f3 x0.f4 x0.f5 x0.f6 x0.f7 x0.f8 x0.f9 p x.f0 x.f1 x.f2 x.f3 x.f4 x.f5 n) [x0.f6, x0.f7, x0.f8, x0.f9] b) (fun k => by
      rw [astrolabelaw17_VerifyNumbers.f, alive17_true, Option.bind_some, if_pos rfl]; simp only [astrolaberef17_Pieces.f, Option.bind_some, tellW]) ?_
  obtain ⟨g, hg⟩ : ∃ g, astrolaberef16_Great.f x0.f0 x0.f1 x0.f2 x0.f3 x0.f4 x0.f5 x0.f6 x0.f7 x0.f8 x0.f9 = some g := by
    unfold astrolaberef16_Great.f
    split <;> exact ⟨_, rfl⟩
  cases g with
  | true => exact Ev.congr (f := fun _ => some true) (fun k => by rw [hg, Option.bind_some, if_pos rfl]) (Ev.now true)
  | false =>
  obtain ⟨r, hr⟩ : ∃ r, rightO x0.f0 x0.f1 x0.f2 x0.f3 x0.f4 x0.f5 x0.f6 x0.f7 x0.f8 x0.f9 = r := ⟨_, rfl⟩
  cases r with
  | true =>
    refine Ev.congr (f := fun k => astrolabelaw17_VerifyNumbers.l0 k [x0.f6, x0.f7, x0.f8, x0.f9] 0) (fun k => by rw [hg, Option.bind_some, if_neg Bool.false_ne_true, verify_Right.f, hr, Option.bind_some, if_pos rfl]) ?_
    exact numbers_loop _ _ _ _ (right_regs hr) 4 0 rfl
  | false =>
    refine Ev.congr (f := fun _ => some true) (fun k => ?_) (Ev.now true)
    rw [hg, Option.bind_some, if_neg Bool.false_ne_true, verify_Right.f, hr, Option.bind_some, if_neg Bool.false_ne_true, verify_Wrong.f, Option.bind_some]
    cases hw : wrongPs (rightB x0.f0.length x0.f1.length x0.f2.length x0.f3.length x0.f4) (four x0.f6 x0.f7 x0.f8 x0.f9) 4 with
    | nil => simp only [tellW, Bool.false_eq_true, if_false]
    | cons x xs =>
      have hx : x ∈ wrongPs (rightB x0.f0.length x0.f1.length x0.f2.length x0.f3.length x0.f4) (four x0.f6 x0.f7 x0.f8 x0.f9) 4 := by rw [hw]; simp
      obtain ⟨j, m, hj, hm, rfl, hR⟩ := wrongPs_mem.1 hx
      exact tellW_true _ (rightB x0.f0.length x0.f1.length x0.f2.length x0.f3.length x0.f4) _ _ _ _ j m hj hm (hlen j hj) (fun x n h0 h1 => by
        rw [astrolaberef17_One.f]
        exact congrArg some (one_right _ _ _ _ _ _ x n (by omega) (by omega) h0 h1)) hR
end Go.Proofs.Ytccolpkjgjjipaa
