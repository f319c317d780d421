/- What an object's bytes tell is the object: plainly. -/
import Derived.Test.YtccolpkjgjjipaaCRefI
import Derived.Test.YtccolpkjgjjipaaCObject
namespace Go.Proofs.Ytccolpkjgjjipaa.K
set_option linter.unusedVariables false
set_option linter.unusedSimpArgs false
open Go.RowKit Go.Proofs.YtccolpkjgjjipaaW.PrintWords
theorem numGo_enc : ∀ (d j : Nat) (x u : Int) (r : List Int), j + (d + 1) = 10 → 0 ≤ x → x < 2 ^ (7 * j) → 0 ≤ u → u < 128 ^ (d + 1) → x + u * 2 ^ (7 * j) < 18446744073709551616 →
    numGo (d + 1) j x (vB (d + 1) u ++ r) = (rdFin (x + u * 2 ^ (7 * j)), r, false)
  | 0, j, x, u, r, hj, x0, x1, u0, u1, hu => by
    obtain rfl : j = 9 := by omega
    have hv : u < 128 := by simpa using u1
    have e0 : vB (0 + 1) u = [u] := by rw [vB, if_neg (by omega)]
    obtain ⟨e1, _, _⟩ := rdStep_eq x u 9 (by omega) x0 x1 u0 (by omega)
    simp only [Nat.reduceMul, Int.reducePow] at x1 hu e1 ⊢
    rw [e0, List.singleton_append, numGo, if_pos (by omega), e1, show x + u % 128 * 9223372036854775808 % 18446744073709551616 = x + u * 9223372036854775808 by omega]
  | d + 1, j, x, u, r, hj, x0, x1, u0, u1, hu => by
    have hj9 : j ≤ 9 := by omega
    by_cases hg : u ≥ 128
    · have e0 : vB (d + 1 + 1) u = (u % 128 + 128) :: vB (d + 1) (u / 128) := by rw [vB, if_pos hg]
      obtain ⟨e1, e2, e3⟩ := rdStep_eq x (u % 128 + 128) j hj9 x0 x1 (by omega) (by omega)
      have h2 : u / 128 < 128 ^ (d + 1) := by
        rw [Int.pow_succ] at u1
        exact Int.ediv_lt_of_lt_mul (by omega) u1
      have e4 := e3 (by omega)
      rw [e0, List.cons_append, numGo, if_neg (by omega)]
      rw [e1]
      have key : x + (u % 128 + 128) % 128 * 2 ^ (7 * j) % 18446744073709551616 = x + u % 128 * 2 ^ (7 * j) ∧ x + u % 128 * 2 ^ (7 * j) + u / 128 * 2 ^ (7 * (j + 1)) = x + u * 2 ^ (7 * j) := by
        rcases (by omega : j = 0 ∨ j = 1 ∨ j = 2 ∨ j = 3 ∨ j = 4 ∨ j = 5 ∨ j = 6 ∨ j = 7 ∨ j = 8) with rfl | rfl | rfl | rfl | rfl | rfl | rfl | rfl | rfl
        all_goals simp only [Nat.mul_zero, Nat.reduceMul, Nat.reduceAdd, Int.reducePow] at hu x1 ⊢
        all_goals omega
      rw [key.1] at e4 e1 ⊢
      rw [numGo_enc d (j + 1) _ (u / 128) r (by omega) (by have := e1; rw [← this]; rw [e1]; exact Int.add_nonneg x0 (Int.mul_nonneg (by omega) (Int.le_of_lt (Int.pow_pos (by omega))))) e4 (by omega) h2 (by rw [key.2]; exact hu), key.2]
    · have e0 : vB (d + 1 + 1) u = [u] := by rw [vB, if_neg hg]
      obtain ⟨e1, _, _⟩ := rdStep_eq x u j hj9 x0 x1 u0 (by omega)
      have key : x + u % 128 * 2 ^ (7 * j) % 18446744073709551616 = x + u * 2 ^ (7 * j) := by
        rcases (by omega : j = 0 ∨ j = 1 ∨ j = 2 ∨ j = 3 ∨ j = 4 ∨ j = 5 ∨ j = 6 ∨ j = 7 ∨ j = 8) with rfl | rfl | rfl | rfl | rfl | rfl | rfl | rfl | rfl
        all_goals simp only [Nat.mul_zero, Nat.reduceMul, Nat.reduceAdd, Int.reducePow] at hu x1 ⊢
        all_goals omega
      rw [e0, List.singleton_append, numGo, if_pos (by omega), e1, key]
theorem num_round {a : Int} (h : In64 a) (r : List Int) : numF (numB a ++ r) = (a, r, false) := by
  have hr := zg_range a
  have hz := zg_zz h
  have := numGo_enc 9 0 0 (zg a) r (by omega) (by omega) (by decide) hr.1 (by have := hr.2; omega) (by have := hr.2; simpa using this)
  unfold numF numB
  rw [this]
  simp only [Nat.mul_zero, Int.pow_zero, Int.mul_one, Int.zero_add]
  rw [rdFin_eq hr.1 hr.2, hz]
  unfold zz In64 at *
  congr 1
  by_cases h0 : 0 ≤ a
  · rw [if_pos h0, if_pos (by omega)]; omega
  · rw [if_neg h0, if_neg (by omega)]; omega
theorem one_round {a : Int} (h : In64 a) (r : List Int) : oneF (numB a ++ r) false = (a, r, false) := by
  unfold oneF
  rw [num_round h]
  rfl
theorem ins_round {x : S47} (h : InS x) (r : List Int) : insF (insB x ++ r) false = (x, r, false) := by
  obtain ⟨h0, h1, h2, h3, h4, h5⟩ := h
  unfold insB insF
  simp only [List.append_assoc, one_round h0, one_round h1, one_round h2, one_round h3, one_round h4, one_round h5]
theorem go_round {α : Type} {one : List Int → Bool → α × List Int × Bool} {enc : α → List Int} {P : α → Prop} (h : ∀ x, P x → ∀ r, one (enc x ++ r) false = (x, r, false)) : ∀ (l : List α) (r : List Int), (∀ x ∈ l, P x) → readGo one l.length (l.flatMap enc ++ r) false = (l, r, false)
  | [], r, _ => rfl
  | x :: l, r, hP => by
    rw [List.length_cons, readGo, if_neg (by decide), List.flatMap_cons, List.append_assoc, h x (hP x List.mem_cons_self)]
    dsimp only
    rw [go_round h l r (fun y hy => hP y (List.mem_cons_of_mem _ hy))]
theorem read_round {α : Type} {one : List Int → Bool → α × List Int × Bool} {enc : α → List Int} {P : α → Prop} (h : ∀ x, P x → ∀ r, one (enc x ++ r) false = (x, r, false)) (h1 : ∀ x, 1 ≤ (enc x).length) (l : List α) (r : List Int) (hP : ∀ x ∈ l, P x) (hl : l.length ≤ 9223372036854775806) :
    readF one (numB l.length ++ l.flatMap enc ++ r) false = (l, r, false) := by
  have hm : manyF (numB l.length ++ l.flatMap enc ++ r) false = ((l.length : Int), l.flatMap enc ++ r, false) := by
    unfold manyF
    rw [List.append_assoc, num_round (in64_len hl)]
    have := flat_ge enc h1 l
    dsimp only
    rw [if_neg (by rw [List.length_append]; omega)]
    rfl
  unfold readF
  rw [hm]
  exact go_round h l r hP
theorem list_round (l : List Int) (r : List Int) (hP : ∀ x ∈ l, In64 x) (hl : l.length ≤ 9223372036854775806) : readF oneF (listB l ++ r) false = (l, r, false) :=
  read_round (fun x hx r => one_round hx r) numB_pos l r hP hl
theorem piece_round (l : List S47) (r : List Int) (hP : ∀ x ∈ l, InS x) (hl : l.length ≤ 9223372036854775806) : readF insF (pieceB l ++ r) false = (l, r, false) :=
  read_round (fun x hx r => ins_round hx r) (fun x => by have := numB_pos x.f0; rw [insB, List.length_append]; omega) l r hP hl
theorem body_split (l0 l1 l2 l3 : List Int) (a4 a5 : Int) (l6 l7 l8 l9 : List S47) : bodyB l0 l1 l2 l3 a4 a5 l6 l7 l8 l9 = [65, 83, 84, 49] ++ (listB l0 ++ (listB l1 ++ (listB l2 ++ (listB l3 ++ (numB a4 ++ (numB a5 ++ (pieceB l6 ++ (pieceB l7 ++ (pieceB l8 ++ pieceB l9))))))))) := by
  unfold bodyB headB
  simp only [List.append_assoc]
theorem dec_round {l0 l1 l2 l3 : List Int} {a4 a5 : Int} {l6 l7 l8 l9 : List S47} (h : ObIn l0 l1 l2 l3 a4 a5 l6 l7 l8 l9) (r : List Int) (n0 : l0.length ≤ 9223372036854775806) (n1 : l1.length ≤ 9223372036854775806) (n2 : l2.length ≤ 9223372036854775806) (n3 : l3.length ≤ 9223372036854775806) (n6 : l6.length ≤ 9223372036854775806) (n7 : l7.length ≤ 9223372036854775806) (n8 : l8.length ≤ 9223372036854775806) (n9 : l9.length ≤ 9223372036854775806) :
    decF ((bodyB l0 l1 l2 l3 a4 a5 l6 l7 l8 l9 ++ r).drop 4) = ((l0, l1, l2, l3, a4, a5, l6, l7, l8, l9), false) := by
  rw [body_split, List.append_assoc]
  have e : ∀ X : List Int, ([65, 83, 84, 49] ++ X).drop 4 = X := fun _ => rfl
  rw [e]
  simp only [List.append_assoc]
  obtain ⟨r9, q9⟩ : ∃ t, pieceB l9 ++ r = t := ⟨_, rfl⟩
  have e9 : readF insF r9 false = (l9, r, false) := by rw [← q9]; exact piece_round l9 r h.h9 n9
  rw [q9]
  clear q9
  obtain ⟨r8, q8⟩ : ∃ t, pieceB l8 ++ r9 = t := ⟨_, rfl⟩
  have e8 : readF insF r8 false = (l8, r9, false) := by rw [← q8]; exact piece_round l8 r9 h.h8 n8
  rw [q8]
  clear q8
  obtain ⟨r7, q7⟩ : ∃ t, pieceB l7 ++ r8 = t := ⟨_, rfl⟩
  have e7 : readF insF r7 false = (l7, r8, false) := by rw [← q7]; exact piece_round l7 r8 h.h7 n7
  rw [q7]
  clear q7
  obtain ⟨r6, q6⟩ : ∃ t, pieceB l6 ++ r7 = t := ⟨_, rfl⟩
  have e6 : readF insF r6 false = (l6, r7, false) := by rw [← q6]; exact piece_round l6 r7 h.h6 n6
  rw [q6]
  clear q6
  obtain ⟨r5, q5⟩ : ∃ t, numB a5 ++ r6 = t := ⟨_, rfl⟩
  have e5 : oneF r5 false = (a5, r6, false) := by rw [← q5]; exact one_round h.h5 r6
  rw [q5]
  clear q5
  obtain ⟨r4, q4⟩ : ∃ t, numB a4 ++ r5 = t := ⟨_, rfl⟩
  have e4 : oneF r4 false = (a4, r5, false) := by rw [← q4]; exact one_round h.h4 r5
  rw [q4]
  clear q4
  obtain ⟨r3, q3⟩ : ∃ t, listB l3 ++ r4 = t := ⟨_, rfl⟩
  have e3 : readF oneF r3 false = (l3, r4, false) := by rw [← q3]; exact list_round l3 r4 h.h3 n3
  rw [q3]
  clear q3
  obtain ⟨r2, q2⟩ : ∃ t, listB l2 ++ r3 = t := ⟨_, rfl⟩
  have e2 : readF oneF r2 false = (l2, r3, false) := by rw [← q2]; exact list_round l2 r3 h.h2 n2
  rw [q2]
  clear q2
  obtain ⟨r1, q1⟩ : ∃ t, listB l1 ++ r2 = t := ⟨_, rfl⟩
  have e1 : readF oneF r1 false = (l1, r2, false) := by rw [← q1]; exact list_round l1 r2 h.h1 n1
  rw [q1]
  clear q1
  obtain ⟨r0, q0⟩ : ∃ t, listB l0 ++ r1 = t := ⟨_, rfl⟩
  have e0 : readF oneF r0 false = (l0, r1, false) := by rw [← q0]; exact list_round l0 r1 h.h0 n0
  rw [q0]
  clear q0
  simp only [decF, e0, e1, e2, e3, e4, e5, e6, e7, e8, e9]
theorem same_refl (l : List Int) : sameB l l = true := by unfold sameB; exact beq_self_eq_true _
theorem obj_round {l0 l1 l2 l3 : List Int} {a4 a5 : Int} {l6 l7 l8 l9 : List S47} (h : ObIn l0 l1 l2 l3 a4 a5 l6 l7 l8 l9) (n0 : l0.length ≤ 9223372036854775806) (n1 : l1.length ≤ 9223372036854775806) (n2 : l2.length ≤ 9223372036854775806) (n3 : l3.length ≤ 9223372036854775806) (n6 : l6.length ≤ 9223372036854775806) (n7 : l7.length ≤ 9223372036854775806) (n8 : l8.length ≤ 9223372036854775806) (n9 : l9.length ≤ 9223372036854775806)
    (hl : (bytesB l0 l1 l2 l3 a4 a5 l6 l7 l8 l9).length ≤ 1000000) : code_Object.f (bytesB l0 l1 l2 l3 a4 a5 l6 l7 l8 l9) = some (l0, l1, l2, l3, a4, a5, l6, l7, l8, l9, true) := by
  have hm : magicB (bytesB l0 l1 l2 l3 a4 a5 l6 l7 l8 l9) = true := by
    have e0 : ∀ X : List Int, ([65, 83, 84, 49] ++ X).take 4 = [65, 83, 84, 49] := fun _ => rfl
    have e : (bytesB l0 l1 l2 l3 a4 a5 l6 l7 l8 l9).take 4 = [65, 83, 84, 49] := by
      rw [bytesB, body_split, List.append_assoc, e0]
    unfold magicB
    rw [e, same_refl, Bool.and_true, decide_eq_true_eq]
    have : (bytesB l0 l1 l2 l3 a4 a5 l6 l7 l8 l9).length = (bodyB l0 l1 l2 l3 a4 a5 l6 l7 l8 l9).length + 4 := by
      unfold bytesB
      rw [List.length_append]
      rfl
    omega
  have hd := dec_round h (tailB (sumB (bodyB l0 l1 l2 l3 a4 a5 l6 l7 l8 l9))) n0 n1 n2 n3 n6 n7 n8 n9
  have hb : bytesB l0 l1 l2 l3 a4 a5 l6 l7 l8 l9 = bodyB l0 l1 l2 l3 a4 a5 l6 l7 l8 l9 ++ tailB (sumB (bodyB l0 l1 l2 l3 a4 a5 l6 l7 l8 l9)) := rfl
  rw [← hb] at hd
  rw [code_Object_f_eq hl]
  unfold objF
  rw [if_pos hm, hd, if_neg (show ¬ false = true by decide)]
  have : obBytes ((l0, l1, l2, l3, a4, a5, l6, l7, l8, l9) : OB) = bytesB l0 l1 l2 l3 a4 a5 l6 l7 l8 l9 := rfl
  rw [if_pos (by rw [this]; exact same_refl _)]
  rfl
#print axioms obj_round
end Go.Proofs.Ytccolpkjgjjipaa.K
