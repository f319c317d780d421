/- The document's bytes of an object are the program's, plainly. -/
import Derived.Test.YtccolpkjgjjipaaCLen
import Derived.Test.YtccolpkjgjjipaaK5
namespace Go.Proofs.Ytccolpkjgjjipaa.K
set_option linter.unusedVariables false
set_option linter.unusedSimpArgs false
open Go.RowKit Go.Proofs.YtccolpkjgjjipaaW.PrintWords
theorem tmod_nn {u : Int} (h : 0 ≤ u) (n : Int) : Int.tmod u n = u % n := Int.tmod_eq_emod_of_nonneg h
theorem tdiv_nn {u : Int} (h : 0 ≤ u) (n : Int) : Int.tdiv u n = u / n := Int.tdiv_eq_ediv_of_nonneg h
theorem refNumber_loop : ∀ (d k : Nat) (x : List Int) (u : Int), 0 ≤ u → u < 128 ^ (d + 1) → u < 18446744073709551616 → d < k → x.length + d < 140737488355328 → astrolaberef16_Number.l0 k x u = some (x ++ vB (d + 1) u)
  | 0, k, x, u, h0, h1, h2, hk, hx => by
    obtain ⟨k, rfl⟩ : ∃ m, k = m + 1 := ⟨k - 1, by omega⟩
    have hu : u < 128 := by simpa using h1
    rw [astrolaberef16_Number.l0, if_neg (by omega), if_pos (by omega), vB, if_neg (by omega), show u % 256 = u by omega]
  | d + 1, k, x, u, h0, h1, h2, hk, hx => by
    obtain ⟨k, rfl⟩ : ∃ m, k = m + 1 := ⟨k - 1, by omega⟩
    rw [astrolaberef16_Number.l0, vB]
    by_cases hu : u ≥ 128
    · rw [if_pos hu, if_pos (by omega), if_pos hu, tmod_nn h0, tdiv_nn h0, u64_mod]
      have h3 : u / 128 < 128 ^ (d + 1) := by
        rw [Int.pow_succ] at h1
        exact Int.ediv_lt_of_lt_mul (by omega) h1
      rw [show u / 128 % 18446744073709551616 = u / 128 by omega, refNumber_loop d k _ (u / 128) (by omega) h3 (by omega) (by omega) (by simp; omega)]
      rw [List.append_assoc]
      congr 2
      simp only [List.singleton_append]
      congr 1
      omega
    · rw [if_neg hu, if_pos (by omega), if_neg hu]
      congr 2
      rw [show u % 256 = u by omega]
theorem refNumber_f (k : Nat) (hk : 11 < k) (x : List Int) (a : Int) (h : In64 a) (hx : x.length + 10 < 140737488355328) : astrolaberef16_Number.f k x a = some (x ++ numB a) := by
  obtain ⟨k, rfl⟩ : ∃ m, k = m + 1 := ⟨k - 1, by omega⟩
  have hr := zg_range a
  have hz := zg_zz h
  have e : (if a ≥ 0 then IntKind.u64.wrap (2 * (IntKind.u64.wrap a)) else IntKind.u64.wrap ((IntKind.u64.wrap (2 * (IntKind.u64.wrap (wrap64 (-(wrap64 (a + 1))))))) + 1)) = zg a := by
    rw [hz]
    unfold zz In64 at *
    simp only [u64_mod, wrap64]
    by_cases h0 : a ≥ 0
    · rw [if_pos h0, if_pos h0]; omega
    · rw [if_neg h0, if_neg h0]; omega
  have := refNumber_loop 9 k x (zg a) hr.1 (by have := hr.2; omega) hr.2 (by omega) (by omega)
  unfold astrolaberef16_Number.f
  split
  · rename_i h0
    rw [if_pos h0] at e
    rw [e]
    exact this
  · rename_i h0
    rw [if_neg h0] at e
    rw [e]
    exact this
theorem in64_len {n : Nat} (h : n ≤ 9223372036854775806) : In64 n := ⟨by omega, by omega⟩
theorem refInts_loop (l : List Int) (h : ∀ a ∈ l, In64 a) : ∀ (d i k : Nat) (x : List Int), i + d = l.length → d + 13 < k → x.length + ((l.drop i).flatMap numB).length + 10 < 140737488355328 → l.length ≤ 9223372036854775806 →
    astrolaberef16_ints.l0 k x l (i : Int) = some (x ++ (l.drop i).flatMap numB)
  | 0, i, k, x, hi, hk, hx, hl => by
    obtain ⟨k, rfl⟩ : ∃ m, k = m + 1 := ⟨k - 1, by omega⟩
    rw [astrolaberef16_ints.l0, if_neg (by omega), List.drop_of_length_le (by omega)]
    simp
  | d + 1, i, k, x, hi, hk, hx, hl => by
    obtain ⟨k, rfl⟩ : ∃ m, k = m + 1 := ⟨k - 1, by omega⟩
    have hlt : i < l.length := by omega
    rw [List.drop_eq_getElem_cons hlt, List.flatMap_cons, List.length_append] at hx
    rw [astrolaberef16_ints.l0, if_pos (by omega), if_pos (by omega), rd_nat hlt, refNumber_f k (by omega) x _ (h _ (List.getElem_mem hlt)) (by omega), Option.bind_some, wrap_i64 (by omega) (by omega), ← Int.natCast_succ, refInts_loop l h d (i + 1) k _ (by omega) (by omega) (by rw [List.length_append]; omega) hl, List.drop_eq_getElem_cons hlt, List.flatMap_cons, List.append_assoc]
theorem refInts_f (k : Nat) (x l : List Int) (hk : l.length + 13 < k) (h : ∀ a ∈ l, In64 a) (hx : x.length + (listB l).length + 10 < 140737488355328) (hl : l.length ≤ 9223372036854775806) : astrolaberef16_ints.f k x l = some (x ++ listB l) := by
  rw [listB, List.length_append] at hx
  rw [astrolaberef16_ints.f, refNumber_f _ (by omega) x _ (in64_len hl) (by omega), Option.bind_some]
  have := refInts_loop l h l.length 0 k (x ++ numB l.length) (by omega) (by omega) (by rw [List.length_append, List.drop_zero]; omega) hl
  rw [List.drop_zero] at this
  rw [show (0 : Int) = ((0 : Nat) : Int) from rfl, this, listB, List.append_assoc]
theorem refNumbers_loop : ∀ (k : Nat) (x l : List Int) (i : Int), astrolaberef16_numbers.l0 k x l i = astrolaberef16_ints.l0 k x l i
  | 0, _, _, _ => rfl
  | k + 1, x, l, i => by
    rw [astrolaberef16_numbers.l0, astrolaberef16_ints.l0]
    simp only [refNumbers_loop k]
theorem refNumbers_f (k : Nat) (x l : List Int) (hk : l.length + 13 < k) (h : ∀ a ∈ l, In64 a) (hx : x.length + (listB l).length + 10 < 140737488355328) (hl : l.length ≤ 9223372036854775806) : astrolaberef16_numbers.f k x l = some (x ++ listB l) := by
  rw [← refInts_f k x l hk h hx hl, astrolaberef16_numbers.f, astrolaberef16_ints.f]
  simp only [refNumbers_loop]
def InS (x : S47) : Prop := In64 x.f0 ∧ In64 x.f1 ∧ In64 x.f2 ∧ In64 x.f3 ∧ In64 x.f4 ∧ In64 x.f5
theorem refPiece_loop (l : List S47) (h : ∀ a ∈ l, InS a) : ∀ (d i k : Nat) (x : List Int), i + d = l.length → d + 13 < k → x.length + ((l.drop i).flatMap insB).length + 10 < 140737488355328 → l.length ≤ 9223372036854775806 →
    astrolaberef16_piece.l0 k x l (i : Int) = some (x ++ (l.drop i).flatMap insB)
  | 0, i, k, x, hi, hk, hx, hl => by
    obtain ⟨k, rfl⟩ : ∃ m, k = m + 1 := ⟨k - 1, by omega⟩
    rw [astrolaberef16_piece.l0, if_neg (by omega), List.drop_of_length_le (by omega)]
    simp
  | d + 1, i, k, x, hi, hk, hx, hl => by
    obtain ⟨k, rfl⟩ : ∃ m, k = m + 1 := ⟨k - 1, by omega⟩
    have hlt : i < l.length := by omega
    obtain ⟨h0, h1, h2, h3, h4, h5⟩ := h _ (List.getElem_mem hlt)
    rw [List.drop_eq_getElem_cons hlt, List.flatMap_cons, List.length_append] at hx
    have hx' := hx
    simp only [insB, List.length_append] at hx'
    rw [astrolaberef16_piece.l0, if_pos (by omega), if_pos (by omega), rd47_nat hlt,
      refNumber_f k (by omega) x _ h0 (by omega), Option.bind_some,
      refNumber_f k (by omega) _ _ h1 (by simp only [List.length_append]; omega), Option.bind_some,
      refNumber_f k (by omega) _ _ h2 (by simp only [List.length_append]; omega), Option.bind_some,
      refNumber_f k (by omega) _ _ h3 (by simp only [List.length_append]; omega), Option.bind_some,
      refNumber_f k (by omega) _ _ h4 (by simp only [List.length_append]; omega), Option.bind_some,
      refNumber_f k (by omega) _ _ h5 (by simp only [List.length_append]; omega), Option.bind_some,
      wrap_i64 (by omega) (by omega), ← Int.natCast_succ, refPiece_loop l h d (i + 1) k _ (by omega) (by omega) (by simp only [List.length_append]; omega) hl, List.drop_eq_getElem_cons hlt, List.flatMap_cons, insB]
    simp only [List.append_assoc]
theorem refPiece_f (k : Nat) (x : List Int) (l : List S47) (hk : l.length + 13 < k) (h : ∀ a ∈ l, InS a) (hx : x.length + (pieceB l).length + 10 < 140737488355328) (hl : l.length ≤ 9223372036854775806) : astrolaberef16_piece.f k x l = some (x ++ pieceB l) := by
  rw [pieceB, List.length_append] at hx
  rw [astrolaberef16_piece.f, refNumber_f _ (by omega) x _ (in64_len hl) (by omega), Option.bind_some]
  have := refPiece_loop l h l.length 0 k (x ++ numB l.length) (by omega) (by omega) (by rw [List.length_append, List.drop_zero]; omega) hl
  rw [List.drop_zero] at this
  rw [show (0 : Int) = ((0 : Nat) : Int) from rfl, this, pieceB, List.append_assoc]
theorem sumStep_range (x c : Int) : 0 ≤ sumStep x c ∧ sumStep x c < 4294967296 := by
  unfold sumStep; omega
theorem foldl_range : ∀ (l : List Int) (x : Int), 0 ≤ x → x < 4294967296 → 0 ≤ l.foldl sumStep x ∧ l.foldl sumStep x < 4294967296
  | [], x, h0, h1 => ⟨h0, h1⟩
  | c :: l, x, h0, h1 => by
    rw [List.foldl_cons]
    exact foldl_range l _ (sumStep_range x c).1 (sumStep_range x c).2
theorem sumB_range (l : List Int) : 0 ≤ sumB l ∧ sumB l < 4294967296 := foldl_range l _ (by omega) (by omega)
theorem refTail (k : Nat) (hk : 5 ≤ k) (s : Int) (h0 : 0 ≤ s) (h1 : s < 4294967296) (x : List Int) (hx : x.length + 4 < 140737488355328) : astrolaberef16_Sum.l1 k s x 0 = some (x ++ tailB s) := by
  obtain ⟨k, rfl⟩ : ∃ m, k = m + 5 := ⟨k - 5, by omega⟩
  have w1 : wrap64 (0 + 1) = 1 := wrap_i64 (by omega) (by omega)
  have w2 : wrap64 (1 + 1) = 2 := wrap_i64 (by omega) (by omega)
  have w3 : wrap64 (2 + 1) = 3 := wrap_i64 (by omega) (by omega)
  have w4 : wrap64 (3 + 1) = 4 := wrap_i64 (by omega) (by omega)
  have e1 : Int.tdiv s 256 % 4294967296 = s / 256 := by rw [tdiv_nn h0]; omega
  have e2 : Int.tdiv (s / 256) 256 % 4294967296 = s / 256 / 256 := by rw [tdiv_nn (by omega)]; omega
  have e3 : Int.tdiv (s / 256 / 256) 256 % 4294967296 = s / 256 / 256 / 256 := by rw [tdiv_nn (by omega)]; omega
  have f0 : Int.tmod s 256 % 256 = s % 256 := by rw [tmod_nn h0]; omega
  have f1 : Int.tmod (s / 256) 256 % 256 = s / 256 % 256 := by rw [tmod_nn (by omega)]; omega
  have f2 : Int.tmod (s / 256 / 256) 256 % 256 = s / 256 / 256 % 256 := by rw [tmod_nn (by omega)]; omega
  have f3 : Int.tmod (s / 256 / 256 / 256) 256 % 256 = s / 256 / 256 / 256 % 256 := by rw [tmod_nn (by omega)]; omega
  rw [astrolaberef16_Sum.l1, if_pos (by omega), if_pos (by omega), w1, e1, f0,
    astrolaberef16_Sum.l1, if_pos (by omega), if_pos (by simp; omega), w2, e2, f1,
    astrolaberef16_Sum.l1, if_pos (by omega), if_pos (by simp; omega), w3, e3, f2,
    astrolaberef16_Sum.l1, if_pos (by omega), if_pos (by simp; omega), w4, f3,
    astrolaberef16_Sum.l1, if_neg (by omega)]
  simp [tailB]
theorem refSum_loop (l : List Int) (hl : l.length + 10 < 140737488355328) : ∀ (d i k : Nat) (s : Int), i + d = l.length → d + 5 < k → 0 ≤ s → s < 4294967296 → astrolaberef16_Sum.l0 k l s (i : Int) = some (l ++ tailB ((l.drop i).foldl sumStep s))
  | 0, i, k, s, hi, hk, h0, h1 => by
    obtain ⟨k, rfl⟩ : ∃ m, k = m + 1 := ⟨k - 1, by omega⟩
    rw [astrolaberef16_Sum.l0, if_neg (by omega), Option.bind_some, if_pos (by simp; omega), List.nil_append, List.drop_of_length_le (by omega), refTail k (by omega) s h0 h1 l (by omega)]
    rfl
  | d + 1, i, k, s, hi, hk, h0, h1 => by
    obtain ⟨k, rfl⟩ : ∃ m, k = m + 1 := ⟨k - 1, by omega⟩
    have hlt : i < l.length := by omega
    have hs := sumStep_range s l[i]
    rw [astrolaberef16_Sum.l0, if_pos (by omega), if_pos (by omega), rd_nat hlt, wrap_i64 (by omega) (by omega), ← Int.natCast_succ]
    show astrolaberef16_Sum.l0 k l (sumStep s l[i]) _ = _
    rw [refSum_loop l hl d (i + 1) k _ (by omega) (by omega) hs.1 hs.2, List.drop_eq_getElem_cons hlt, List.foldl_cons]
theorem refSum_f (k : Nat) (l : List Int) (hk : l.length + 6 < k) (hl : l.length + 10 < 140737488355328) : astrolaberef16_Sum.f k l = some (l ++ tailB (sumB l)) := by
  rw [astrolaberef16_Sum.f, show (0 : Int) = ((0 : Nat) : Int) from rfl, refSum_loop l hl l.length 0 k _ (by omega) (by omega) (by omega) (by omega), List.drop_zero]
  rfl
/-- An object whose numbers are of their kinds. -/
structure ObIn (l0 l1 l2 l3 : List Int) (a4 a5 : Int) (l6 l7 l8 l9 : List S47) : Prop where
  h0 : ∀ a ∈ l0, In64 a
  h1 : ∀ a ∈ l1, In64 a
  h2 : ∀ a ∈ l2, In64 a
  h3 : ∀ a ∈ l3, In64 a
  h4 : In64 a4
  h5 : In64 a5
  h6 : ∀ a ∈ l6, InS a
  h7 : ∀ a ∈ l7, InS a
  h8 : ∀ a ∈ l8, InS a
  h9 : ∀ a ∈ l9, InS a
theorem refBytes_f (k : Nat) {l0 l1 l2 l3 : List Int} {a4 a5 : Int} {l6 l7 l8 l9 : List S47} (h : ObIn l0 l1 l2 l3 a4 a5 l6 l7 l8 l9) (hk : (bytesB l0 l1 l2 l3 a4 a5 l6 l7 l8 l9).length + 20 < k) (hn : (bytesB l0 l1 l2 l3 a4 a5 l6 l7 l8 l9).length + 100 < 140737488355328) :
    astrolaberef16_Bytes.f k l0 l1 l2 l3 a4 a5 l6 l7 l8 l9 = some (bytesB l0 l1 l2 l3 a4 a5 l6 l7 l8 l9) := by
  have g0 := listB_ge l0
  have g1 := listB_ge l1
  have g2 := listB_ge l2
  have g3 := listB_ge l3
  have g6 := pieceB_ge l6
  have g7 := pieceB_ge l7
  have g8 := pieceB_ge l8
  have g9 := pieceB_ge l9
  have e : bytesB l0 l1 l2 l3 a4 a5 l6 l7 l8 l9 = bodyB l0 l1 l2 l3 a4 a5 l6 l7 l8 l9 ++ tailB (sumB (bodyB l0 l1 l2 l3 a4 a5 l6 l7 l8 l9)) := rfl
  have eb : bodyB l0 l1 l2 l3 a4 a5 l6 l7 l8 l9 = [65, 83, 84, 49] ++ listB l0 ++ listB l1 ++ listB l2 ++ listB l3 ++ numB a4 ++ numB a5 ++ pieceB l6 ++ pieceB l7 ++ pieceB l8 ++ pieceB l9 := rfl
  rw [e, List.length_append] at hk hn
  have hb := congrArg List.length eb
  simp only [List.length_append, List.length_cons, List.length_nil] at hb
  have ht : (tailB (sumB (bodyB l0 l1 l2 l3 a4 a5 l6 l7 l8 l9))).length = 4 := rfl
  rw [astrolaberef16_Bytes.f,
    refInts_f k _ l0 (by omega) h.h0 (by simp only [List.length_append, List.length_cons, List.length_nil]; omega) (by omega), Option.bind_some,
    refInts_f k _ l1 (by omega) h.h1 (by simp only [List.length_append, List.length_cons, List.length_nil]; omega) (by omega), Option.bind_some,
    refNumbers_f k _ l2 (by omega) h.h2 (by simp only [List.length_append, List.length_cons, List.length_nil]; omega) (by omega), Option.bind_some,
    refNumbers_f k _ l3 (by omega) h.h3 (by simp only [List.length_append, List.length_cons, List.length_nil]; omega) (by omega), Option.bind_some,
    refNumber_f k (by omega) _ a4 h.h4 (by simp only [List.length_append, List.length_cons, List.length_nil]; omega), Option.bind_some,
    refNumber_f k (by omega) _ a5 h.h5 (by simp only [List.length_append, List.length_cons, List.length_nil]; omega), Option.bind_some,
    refPiece_f k _ l6 (by omega) h.h6 (by simp only [List.length_append, List.length_cons, List.length_nil]; omega) (by omega), Option.bind_some,
    refPiece_f k _ l7 (by omega) h.h7 (by simp only [List.length_append, List.length_cons, List.length_nil]; omega) (by omega), Option.bind_some,
    refPiece_f k _ l8 (by omega) h.h8 (by simp only [List.length_append, List.length_cons, List.length_nil]; omega) (by omega), Option.bind_some,
    refPiece_f k _ l9 (by omega) h.h9 (by simp only [List.length_append, List.length_cons, List.length_nil]; omega) (by omega), Option.bind_some,
    ← eb, refSum_f k _ (by omega) (by omega), Option.bind_some, e]
#print axioms refBytes_f
end Go.Proofs.Ytccolpkjgjjipaa.K
