/- Which names an expression has, plainly; what stands while they are gathered. -/
import Derived.Test.YtediidkiedifcaaAPure
namespace Go.Proofs.Ytediidkiedifcaa.Q
set_option linter.unusedVariables false
set_option linter.unusedSimpArgs false
open Go.RowKit Go.Proofs.YtediidkiedifcaaW.PrintWords
theorem info4 : (Try.prog.info? 4).map (fun i => (i.zero, i.size, i.bytes)) = some (some (.bool false), 1, 1) := by kernel_rfl
theorem info9 : (Try.prog.info? 9).map (fun i => (i.zero, i.size, i.bytes)) = some (some (.string (⟨#[]⟩ : ByteArray)), 1, 16) := by kernel_rfl
def hasS (l : List ByteArray) (s : ByteArray) : Bool := l.any fun t => s.toList == t.toList
theorem index_s (l : List ByteArray) (s : ByteArray) (hl : l.length ≤ 4000000000000000000) : ∀ (d i k : Nat), i + d = l.length → d < k → ∃ r, slices_Index_string_string.l0 k l s (l.length : Int) (i : Int) = some r ∧ decide (r ≥ 0) = hasS (l.drop i) s
  | 0, i, k, hi, hk => by
    obtain ⟨k, rfl⟩ : ∃ m, k = m + 1 := ⟨k - 1, by omega⟩
    rw [slices_Index_string_string.l0, if_neg (by omega), List.drop_of_length_le (by omega)]
    exact ⟨_, rfl, rfl⟩
  | d + 1, i, k, hi, hk => by
    obtain ⟨k, rfl⟩ : ∃ m, k = m + 1 := ⟨k - 1, by omega⟩
    have h1 : i < l.length := by omega
    have hr : rdOf ByteArray.empty l (i : Int) = l[i] := by
      unfold rdOf
      simp [List.getD_eq_getElem?_getD, List.getElem?_eq_getElem h1]
    rw [slices_Index_string_string.l0, if_pos (by omega), if_pos (by omega), if_pos (by omega), hr, List.drop_eq_getElem_cons h1]
    by_cases e : s.toList = l[i].toList
    · rw [if_pos e]
      refine ⟨_, rfl, ?_⟩
      unfold hasS
      rw [List.any_cons, e, beq_self_eq_true, Bool.true_or]
      exact decide_eq_true (by omega)
    · rw [if_neg e, wrap_i64' (by omega) (by omega), ← Int.natCast_succ]
      obtain ⟨r, h2, h3⟩ := index_s l s hl d (i + 1) k (by omega) (by omega)
      refine ⟨r, h2, ?_⟩
      rw [h3]
      unfold hasS
      rw [List.any_cons, beq_false_of_ne e, Bool.false_or]
theorem contains_s (l : List ByteArray) (s : ByteArray) (hl : l.length ≤ 4000000000000000000) : slices_Contains_string_string.f (l.length + 1) l s = some (hasS l s) := by
  obtain ⟨r, h1, h2⟩ := index_s l s hl l.length 0 (l.length + 1) (by omega) (by omega)
  unfold slices_Contains_string_string.f slices_Index_string_string.f
  have h3 : slices_Index_string_string.l0 (l.length + 1) l s (l.length : Int) 0 = some r := h1
  rw [h3, Option.bind_some, h2, List.drop_zero]
abbrev St := List Bool × List ByteArray
/-- An expression is met: its own name, its parts. -/
def ownS (xs : List S31) (e : Nat) (s : St) : St :=
  (s.1.set e true, if (rd_T31 xs e).f0 == 3 && !(hasS s.2 (rd_T31 xs e).f4) then s.2 ++ [(rd_T31 xs e).f4] else s.2)
def meetF : Nat → List S31 → Nat → St → St
  | 0, _, _, s => s
  | n + 1, xs, e, s => if s.1.getD e false = true then s else (partsF (rd_T31 xs e)).foldl (fun t c => meetF n xs c.toNat t) (ownS xs e s)
def namesP (xs : List S31) (e : Nat) : List ByteArray := (meetF (e + 1) xs e (List.replicate xs.length false, [])).2
theorem ownS_len (xs : List S31) (e : Nat) (s : St) : (ownS xs e s).1.length = s.1.length ∧ (ownS xs e s).2.length ≤ s.2.length + 1 := by
  unfold ownS
  refine ⟨by simp, ?_⟩
  dsimp only
  split
  · simp
  · omega
end Go.Proofs.Ytediidkiedifcaa.Q
