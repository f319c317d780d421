/- Parts, bare and equal, plainly. -/
import Derived.Test.YtediidkiedifcaaQ1
import Derived.Test.YtediidkiedifcaaQ2
import Derived.Test.YtediidkiedifcaaQ3
import Derived.Test.YtediidkiedifcaaAOut
namespace Go.Proofs.Ytediidkiedifcaa.Q
set_option linter.unusedVariables false
set_option linter.unusedSimpArgs false
open Go.RowKit Go.Proofs.YtediidkiedifcaaW.PrintWords
def partsF (x : S31) : List Int :=
  if x.f0 = 4 ∨ x.f0 = 5 ∨ x.f0 = 16 ∨ x.f0 = 21 then [x.f1] else if (6 ≤ x.f0 ∧ x.f0 ≤ 14) ∨ x.f0 = 17 ∨ x.f0 = 18 then [x.f1, x.f2] else if x.f0 = 15 then [x.f1, x.f2, x.f3] else if x.f0 = 19 then x.f7 else []
theorem clone_f {l : List Int} (h : l.length ≤ 10000000000000) : slices_Clone_int_int.f l = some l := by
  unfold slices_Clone_int_int.f
  rw [if_pos h]
theorem parts_f (k : Nat) (x : S31) (h : x.f7.length ≤ 10000000000000) : ast_Parts.f (k + 2) x.f0 x.f1 x.f2 x.f3 x.f4 x.f5 x.f6 x.f7 x.f8 = some (partsF x) := by
  obtain ⟨a0, a1, a2, a3, a4, a5, a6, a7, a8⟩ := x
  dsimp only at h ⊢
  unfold ast_Parts.f partsF
  simp only [ast_Parts.j0, ast_Parts.j1, clone_f h, Option.bind_some, beq_iff_eq, if_true]
  by_cases h4 : a0 = 4
  · rw [if_pos h4, if_pos (.inl h4)]
  by_cases h5 : a0 = 5
  · rw [if_neg h4, if_pos h5, if_pos (.inr (.inl h5))]
  by_cases h16 : a0 = 16
  · rw [if_neg h4, if_neg h5, if_pos h16, if_pos (.inr (.inr (.inl h16)))]
  by_cases h21 : a0 = 21
  · rw [if_neg h4, if_neg h5, if_neg h16, if_pos h21, if_pos (.inr (.inr (.inr h21)))]
  simp only [h4, h5, h16, h21, if_false, or_self, ge_iff_le]
  by_cases h17 : a0 = 17
  · subst h17; simp
  by_cases h18 : a0 = 18
  · subst h18; simp
  by_cases h15 : a0 = 15
  · subst h15; simp
  by_cases h19 : a0 = 19
  · subst h19; simp
  by_cases h6 : 6 ≤ a0
  · by_cases h14 : a0 ≤ 14
    · simp [h6, h14]
    · simp [h6, h14, h17, h18, h15, h19]
  · simp [h6, h17, h18, h15, h19]
def bareF (x : S31) (n s v : Bool) : S31 :=
  if x.f0 = 19 then ⟨x.f0, 0, 0, 0, if n = true then x.f4 else ⟨#[]⟩, if s = true then x.f5 else ⟨#[]⟩, if v = true then x.f6 else 0, partsF x, x.f8⟩
  else ⟨x.f0, rd (partsF x ++ [0, 0, 0]) 0, rd (partsF x ++ [0, 0, 0]) 1, rd (partsF x ++ [0, 0, 0]) 2, if n = true then x.f4 else ⟨#[]⟩, if s = true then x.f5 else ⟨#[]⟩, if v = true then x.f6 else 0, [], x.f8⟩
theorem parts_len (x : S31) (h : x.f0 ≠ 19) : (partsF x).length ≤ 3 := by
  unfold partsF
  repeat' split
  all_goals first | (simp; done) | (exfalso; omega)
theorem bare_f (k : Nat) (x : S31) (n s v : Bool) (h : x.f7.length ≤ 10000000000000) : ast_bare.f (k + 2) x.f0 x.f1 x.f2 x.f3 x.f4 x.f5 x.f6 x.f7 x.f8 n s v = some ((bareF x n s v).f0, (bareF x n s v).f1, (bareF x n s v).f2, (bareF x n s v).f3, (bareF x n s v).f4, (bareF x n s v).f5, (bareF x n s v).f6, (bareF x n s v).f7, (bareF x n s v).f8) := by
  have hl := parts_len x
  unfold ast_bare.f
  rw [parts_f k x h, Option.bind_some]
  unfold bareF
  by_cases h19 : x.f0 = 19
  · rw [if_pos h19, if_pos h19]
    cases n <;> cases s <;> cases v <;> rfl
  · have hl := hl h19
    rw [if_neg h19, if_neg h19, Option.bind_some, if_pos (by simp; omega), Option.bind_some, if_pos (by simp; omega), if_pos (by simp; omega), if_pos (by simp; omega)]
    cases n <;> cases s <;> cases v <;> rfl
theorem aeq_loop (a b : List Int) (hab : a.length = b.length) (hl : a.length ≤ 4000000000000000000) : ∀ (d i k : Nat), i + d = a.length → d < k → slices_Equal_int_int.l0 k a b (a.length : Int) (i : Int) = some (a.drop i == b.drop i)
  | 0, i, k, hi, hk => by
    obtain ⟨k, rfl⟩ : ∃ m, k = m + 1 := ⟨k - 1, by omega⟩
    rw [slices_Equal_int_int.l0, if_neg (by omega), List.drop_of_length_le (by omega), List.drop_of_length_le (by omega)]
    rfl
  | d + 1, i, k, hi, hk => by
    obtain ⟨k, rfl⟩ : ∃ m, k = m + 1 := ⟨k - 1, by omega⟩
    have h1 : i < a.length := by omega
    have h2 : i < b.length := by omega
    rw [slices_Equal_int_int.l0, if_pos (by omega), if_pos (by omega), if_pos (by omega), if_pos (by omega), rd_nat' h1, rd_nat' h2, List.drop_eq_getElem_cons h1, List.drop_eq_getElem_cons h2]
    show _ = some (a[i] == b[i] && (a.drop (i + 1) == b.drop (i + 1)))
    by_cases e : a[i] = b[i]
    · rw [if_pos e, wrap_i64' (by omega) (by omega), ← Int.natCast_succ, aeq_loop a b hab hl d (i + 1) k (by omega) (by omega), e, beq_self_eq_true, Bool.true_and]
    · rw [if_neg e, beq_false_of_ne e, Bool.false_and]
theorem aeq_f (k : Nat) (a b : List Int) (hk : a.length < k) (hl : a.length ≤ 4000000000000000000) : slices_Equal_int_int.f k a b = some (a == b) := by
  unfold slices_Equal_int_int.f
  by_cases h : a.length = b.length
  · rw [if_pos (by omega)]
    have := aeq_loop a b h hl a.length 0 k (by omega) (by omega)
    simpa using this
  · rw [if_neg (by omega)]
    have : (a == b) = false := by
      rw [beq_eq_false_iff_ne]
      intro e
      rw [e] at h
      exact h rfl
    rw [this]
def equalF (x y : S31) : Bool := x.f0 == y.f0 && (x.f1 == y.f1 && (x.f2 == y.f2 && (x.f3 == y.f3 && (x.f4.toList == y.f4.toList && (x.f5.toList == y.f5.toList && (x.f6 == y.f6 && x.f7 == y.f7))))))
theorem equal_f (k : Nat) (x y : S31) (hk : x.f7.length < k) (hl : x.f7.length ≤ 4000000000000000000) : ast_equal.f k x.f0 x.f1 x.f2 x.f3 x.f4 x.f5 x.f6 x.f7 x.f8 y.f0 y.f1 y.f2 y.f3 y.f4 y.f5 y.f6 y.f7 y.f8 = some (equalF x y) := by
  unfold ast_equal.f equalF
  rw [aeq_f k _ _ hk hl, Option.bind_some]
  by_cases e0 : x.f0 = y.f0 <;> by_cases e1 : x.f1 = y.f1 <;> by_cases e2 : x.f2 = y.f2 <;> by_cases e3 : x.f3 = y.f3 <;> by_cases e4 : x.f4.toList = y.f4.toList <;> by_cases e5 : x.f5.toList = y.f5.toList <;> by_cases e6 : x.f6 = y.f6 <;> simp only [e0, e1, e2, e3, e4, e5, e6, if_true, if_false, beq_self_eq_true, Bool.true_and, Bool.false_and, beq_eq_false_iff_ne.2, ne_eq, not_false_eq_true, beq_false_of_ne]
#print axioms bare_f
#print axioms equal_f
end Go.Proofs.Ytediidkiedifcaa.Q
