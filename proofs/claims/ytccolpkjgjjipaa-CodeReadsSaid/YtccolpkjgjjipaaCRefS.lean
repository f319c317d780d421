/- The document's reader, function by function, is the program's. -/
import Derived.Test.YtccolpkjgjjipaaCRefR
namespace Go.Proofs.Ytccolpkjgjjipaa.K
set_option linter.unusedVariables false
set_option linter.unusedSimpArgs false
open Go.RowKit Go.Proofs.YtccolpkjgjjipaaW.PrintWords
/-- Bytes, as many as statements look at. -/
def Byt (s : List Int) : Prop := ∀ x ∈ s, 0 ≤ x ∧ x < 256
set_option linter.unusedSectionVars false
section
variable {s : List Int} (hs : Byt s) (hl : s.length ≤ 1000000)
include hs hl
theorem refNum_loop (bad : Bool) : ∀ (d j k a : Nat) (x p : Int), j + d = 10 → d < k → a ≤ s.length → 0 ≤ x → (j ≤ 9 → x < 2 ^ (7 * j)) → (j ≤ 9 → p = 2 ^ (7 * j)) →
    ∃ a' : Nat, a' ≤ s.length ∧ (numGo d j x (s.drop a)).2.1 = s.drop a' ∧ astrolaberef16_Reader_Number.l0 k x p (j : Int) s (a : Int) bad = some ((numGo d j x (s.drop a)).1, (a' : Int), bad || (numGo d j x (s.drop a)).2.2)
  | 0, j, k, a, x, p, hj, hk, ha, h0, hx, hp => by
    obtain ⟨k, rfl⟩ : ∃ m, k = m + 1 := ⟨k - 1, by omega⟩
    refine ⟨a, ha, rfl, ?_⟩
    rw [astrolaberef16_Reader_Number.l0, if_neg (by omega)]
    simp [numGo]
  | d + 1, j, k, a, x, p, hj, hk, ha, h0, hx, hp => by
    obtain ⟨k, rfl⟩ : ∃ m, k = m + 1 := ⟨k - 1, by omega⟩
    rw [astrolaberef16_Reader_Number.l0, if_pos (by omega)]
    by_cases he : a = s.length
    · subst he
      refine ⟨s.length, Nat.le_refl _, ?_, ?_⟩
      · rw [List.drop_length]; rfl
      · rw [if_pos (by omega), List.drop_length]
        simp [numGo]
    · have hlt : a < s.length := by omega
      obtain ⟨b0, b1⟩ := hs _ (List.getElem_mem hlt)
      have hj9 : j ≤ 9 := by omega
      obtain ⟨e1, e2, e3⟩ := rdStep_eq x s[a] j hj9 h0 (hx hj9) b0 b1
      rw [hp hj9]
      rw [if_neg (by omega), if_pos (by omega), if_pos (by omega), rd_nat hlt, List.drop_eq_getElem_cons hlt]
      have f1 : IntKind.u64.wrap s[a] = s[a] := by rw [u64_mod]; omega
      have f2 : IntKind.u64.wrap (x + IntKind.u64.wrap (Int.tmod s[a] 128 * 2 ^ (7 * j))) = rdStep x s[a] j := by
        rw [tmod_nn b0, e1, u64_mod (s[a] % 128 * 2 ^ (7 * j)), u64_mod]
        have : 0 ≤ (s[a] % 128 * 2 ^ (7 * j)) % 18446744073709551616 := by omega
        omega
      have g0 : 0 ≤ rdStep x s[a] j := by rw [e1]; omega
      have g1 : rdStep x s[a] j < 18446744073709551616 := by rw [e1]; exact e2
      rw [f1, f2, wrap_i64 (n := (a : Int) + 1) (by omega) (by omega), ← Int.natCast_succ, numGo]
      by_cases h : s[a] < 128
      · rw [if_pos h, if_pos h]
        refine ⟨a + 1, by omega, rfl, ?_⟩
        rw [rdFin_eq g0 g1, tmod_nn g0, tdiv_nn g0, u64_mod]
        have w1 : wrap64 (rdStep x s[a] j / 2 % 18446744073709551616) = rdStep x s[a] j / 2 := by unfold wrap64; omega
        have w2 : wrap64 (wrap64 (-(rdStep x s[a] j / 2)) - 1) = -(rdStep x s[a] j / 2) - 1 := by unfold wrap64; omega
        split
        · rw [w1]; simp
        · rw [w1, w2]; simp
      · rw [if_neg h, if_neg h, wrap_i64 (n := (j : Int) + 1) (by omega) (by omega), ← Int.natCast_succ]
        refine refNum_loop bad d (j + 1) k (a + 1) _ _ (by omega) (by omega) (by omega) g0 (fun hj => by rw [e1]; exact e3 (by omega)) (fun hj => ?_)
        rw [u64_mod]
        rcases (by omega : j = 0 ∨ j = 1 ∨ j = 2 ∨ j = 3 ∨ j = 4 ∨ j = 5 ∨ j = 6 ∨ j = 7 ∨ j = 8) with rfl | rfl | rfl | rfl | rfl | rfl | rfl | rfl | rfl <;> decide
theorem refOne (bad : Bool) (k a : Nat) (hk : 11 ≤ k) (ha : a ≤ s.length) :
    ∃ a' : Nat, a' ≤ s.length ∧ (oneF (s.drop a) bad).2.1 = s.drop a' ∧ astrolaberef16_Reader_Number.f k s (a : Int) bad = some ((oneF (s.drop a) bad).1, (a' : Int), (oneF (s.drop a) bad).2.2) :=
  refNum_loop hs hl bad 10 0 k a 0 1 (by omega) (by omega) ha (by omega) (fun _ => by decide) (fun _ => by decide)
theorem refMany (bad : Bool) (k a : Nat) (hk : 11 ≤ k) (ha : a ≤ s.length) :
    ∃ a' : Nat, a' ≤ s.length ∧ (manyF (s.drop a) bad).2.1 = s.drop a' ∧ astrolaberef16_Reader_Many.f k s (a : Int) bad = some ((manyF (s.drop a) bad).1, (a' : Int), (manyF (s.drop a) bad).2.2) := by
  obtain ⟨a', h1, h2, h3⟩ := refOne hs hl bad k a hk ha
  have h2' : (numF (s.drop a)).2.1 = s.drop a' := h2
  have h3' : astrolaberef16_Reader_Number.f k s (a : Int) bad = some ((numF (s.drop a)).1, (a' : Int), bad || (numF (s.drop a)).2.2) := h3
  refine ⟨a', h1, ?_, ?_⟩
  · unfold manyF
    split <;> exact h2'
  · rw [astrolaberef16_Reader_Many.f, h3', Option.bind_some]
    unfold manyF
    dsimp only
    rw [h2', List.length_drop, wrap_i64 (by omega) (by omega)]
    by_cases c1 : (numF (s.drop a)).1 < 0
    · rw [if_pos c1, if_pos (.inl c1)]
    · rw [if_neg c1]
      by_cases c2 : (numF (s.drop a)).1 > (s.length : Int) - (a' : Int)
      · rw [if_pos c2, if_pos (.inr (by omega))]
      · rw [if_neg c2, if_neg (by omega)]
theorem refInts_go (n : Nat) (hn : n ≤ 1000000) : ∀ (m i k a : Nat) (bad : Bool) (acc : List Int), i + m = n → m + 12 ≤ k → a ≤ s.length → acc.length = i →
    ∃ a' : Nat, a' ≤ s.length ∧ (readGo oneF m (s.drop a) bad).2.1 = s.drop a' ∧ astrolaberef16_Reader_ints.l0 k acc (n : Int) (i : Int) s (a : Int) bad = some (acc ++ (readGo oneF m (s.drop a) bad).1, (a' : Int), (readGo oneF m (s.drop a) bad).2.2)
  | 0, i, k, a, bad, acc, hi, hk, ha, hc => by
    obtain ⟨k, rfl⟩ : ∃ m, k = m + 1 := ⟨k - 1, by omega⟩
    refine ⟨a, ha, rfl, ?_⟩
    rw [astrolaberef16_Reader_ints.l0, if_neg (by omega)]
    simp [readGo]
  | m + 1, i, k, a, bad, acc, hi, hk, ha, hc => by
    obtain ⟨k, rfl⟩ : ∃ m, k = m + 1 := ⟨k - 1, by omega⟩
    rw [astrolaberef16_Reader_ints.l0, if_pos (by omega), readGo]
    cases bad with
    | true => exact ⟨a, ha, rfl, by simp⟩
    | false =>
      obtain ⟨a1, h1, h2, h3⟩ := refOne hs hl false k a (by omega) ha
      rw [if_neg (by decide), if_neg (by decide), h3, Option.bind_some, h2, if_pos (by omega), wrap_i64 (by omega) (by omega), ← Int.natCast_succ]
      obtain ⟨a2, g1, g2, g3⟩ := refInts_go n hn m (i + 1) k a1 (oneF (s.drop a) false).2.2 (acc ++ [(oneF (s.drop a) false).1]) (by omega) (by omega) h1 (by simp; omega)
      exact ⟨a2, g1, g2, by rw [g3]; simp⟩
theorem refNumbers_go : ∀ (k : Nat) (acc : List Int) (n i : Int) (a : Int) (bad : Bool), astrolaberef16_Reader_numbers.l0 k acc n i s a bad = astrolaberef16_Reader_ints.l0 k acc n i s a bad
  | 0, _, _, _, _, _ => rfl
  | k + 1, acc, n, i, a, bad => by
    rw [astrolaberef16_Reader_numbers.l0, astrolaberef16_Reader_ints.l0]
    simp only [refNumbers_go k]
theorem refReadInts (bad : Bool) (k a : Nat) (hk : s.length + 13 ≤ k) (ha : a ≤ s.length) :
    ∃ a' : Nat, a' ≤ s.length ∧ (readF oneF (s.drop a) bad).2.1 = s.drop a' ∧ astrolaberef16_Reader_ints.f k s (a : Int) bad = some ((readF oneF (s.drop a) bad).1, (a' : Int), (readF oneF (s.drop a) bad).2.2) := by
  obtain ⟨a1, h1, h2, h3⟩ := refMany hs hl bad k a (by omega) ha
  have hr := manyF_range (s.drop a) bad
  rw [List.length_drop] at hr
  obtain ⟨n, hn⟩ := Int.eq_ofNat_of_zero_le hr.1
  obtain ⟨a2, g1, g2, g3⟩ := refInts_go hs hl n (by omega) n 0 k a1 (manyF (s.drop a) bad).2.2 [] (by omega) (by omega) h1 rfl
  rw [astrolaberef16_Reader_ints.f, h3, Option.bind_some]
  unfold readF
  rw [h2, hn, show ((n : Nat) : Int).toNat = n from rfl]
  exact ⟨a2, g1, g2, by simpa using g3⟩
theorem refReadNumbers (bad : Bool) (k a : Nat) (hk : s.length + 13 ≤ k) (ha : a ≤ s.length) :
    ∃ a' : Nat, a' ≤ s.length ∧ (readF oneF (s.drop a) bad).2.1 = s.drop a' ∧ astrolaberef16_Reader_numbers.f k s (a : Int) bad = some ((readF oneF (s.drop a) bad).1, (a' : Int), (readF oneF (s.drop a) bad).2.2) := by
  obtain ⟨a1, h1, h2, h3⟩ := refReadInts hs hl bad k a hk ha
  refine ⟨a1, h1, h2, ?_⟩
  rw [← h3, astrolaberef16_Reader_numbers.f, astrolaberef16_Reader_ints.f]
  simp only [refNumbers_go hs hl]
theorem refIns (bad : Bool) (k a : Nat) (hk : 11 ≤ k) (ha : a ≤ s.length) {α : Type} (F : Int → Int → Int → Int → Int → Int → Int → Bool → Option α) :
    ∃ a' : Nat, a' ≤ s.length ∧ (insF (s.drop a) bad).2.1 = s.drop a' ∧
      ((astrolaberef16_Reader_Number.f k s (a : Int) bad).bind fun p => ((astrolaberef16_Reader_Number.f k s p.2.1 p.2.2).bind fun q => ((astrolaberef16_Reader_Number.f k s q.2.1 q.2.2).bind fun r => ((astrolaberef16_Reader_Number.f k s r.2.1 r.2.2).bind fun t => ((astrolaberef16_Reader_Number.f k s t.2.1 t.2.2).bind fun u => ((astrolaberef16_Reader_Number.f k s u.2.1 u.2.2).bind fun v => F p.1 q.1 r.1 t.1 u.1 v.1 v.2.1 v.2.2)))))) =
      F (insF (s.drop a) bad).1.f0 (insF (s.drop a) bad).1.f1 (insF (s.drop a) bad).1.f2 (insF (s.drop a) bad).1.f3 (insF (s.drop a) bad).1.f4 (insF (s.drop a) bad).1.f5 (a' : Int) (insF (s.drop a) bad).2.2 := by
  obtain ⟨a1, h1, h2, h3⟩ := refOne hs hl bad k a hk ha
  obtain ⟨a2, i1, i2, i3⟩ := refOne hs hl (oneF (s.drop a) bad).2.2 k a1 hk h1
  obtain ⟨a3, j1, j2, j3⟩ := refOne hs hl (oneF (s.drop a1) (oneF (s.drop a) bad).2.2).2.2 k a2 hk i1
  obtain ⟨a4, l1, l2, l3⟩ := refOne hs hl (oneF (s.drop a2) (oneF (s.drop a1) (oneF (s.drop a) bad).2.2).2.2).2.2 k a3 hk j1
  obtain ⟨a5, m1, m2, m3⟩ := refOne hs hl (oneF (s.drop a3) (oneF (s.drop a2) (oneF (s.drop a1) (oneF (s.drop a) bad).2.2).2.2).2.2).2.2 k a4 hk l1
  obtain ⟨a6, n1, n2, n3⟩ := refOne hs hl (oneF (s.drop a4) (oneF (s.drop a3) (oneF (s.drop a2) (oneF (s.drop a1) (oneF (s.drop a) bad).2.2).2.2).2.2).2.2).2.2 k a5 hk m1
  refine ⟨a6, n1, ?_, ?_⟩
  · simp only [insF, h2, i2, j2, l2, m2, n2]
  · simp only [insF, h3, i3, j3, l3, m3, n3, Option.bind_some, h2, i2, j2, l2, m2, n2]
theorem refPiece_go (n : Nat) (hn : n ≤ 1000000) : ∀ (m i k a : Nat) (bad : Bool) (acc : List S47), i + m = n → 2 * m + 14 ≤ k → a ≤ s.length → acc.length = i →
    ∃ a' : Nat, a' ≤ s.length ∧ (readGo insF m (s.drop a) bad).2.1 = s.drop a' ∧ astrolaberef16_Reader_piece.l0 k acc (n : Int) (i : Int) s (a : Int) bad = some (acc ++ (readGo insF m (s.drop a) bad).1, (a' : Int), (readGo insF m (s.drop a) bad).2.2)
  | 0, i, k, a, bad, acc, hi, hk, ha, hc => by
    obtain ⟨k, rfl⟩ : ∃ m, k = m + 2 := ⟨k - 2, by omega⟩
    refine ⟨a, ha, rfl, ?_⟩
    rw [astrolaberef16_Reader_piece.l0, if_neg (by omega), astrolaberef16_Reader_piece.j1, if_neg (by decide)]
    simp [readGo]
  | m + 1, i, k, a, bad, acc, hi, hk, ha, hc => by
    obtain ⟨k, rfl⟩ : ∃ m, k = m + 2 := ⟨k - 2, by omega⟩
    rw [astrolaberef16_Reader_piece.l0, if_pos (by omega), astrolaberef16_Reader_piece.j1, readGo]
    cases bad with
    | true => exact ⟨a, ha, rfl, by simp⟩
    | false =>
      obtain ⟨a1, h1, h2, h3⟩ := refIns hs hl false k a (by omega) ha (fun p q r t u v at_ b => if acc.length < 2932031007402 then astrolaberef16_Reader_piece.l0 k (acc ++ [(⟨p, q, r, t, u, v⟩ : S47)]) (n : Int) (wrap64 ((i : Int) + 1)) s at_ b else none)
      rw [if_neg (by decide), if_pos (by decide), h3, h2, if_pos (by omega), wrap_i64 (by omega) (by omega), ← Int.natCast_succ]
      obtain ⟨a2, g1, g2, g3⟩ := refPiece_go n hn m (i + 1) k a1 (insF (s.drop a) false).2.2 (acc ++ [(insF (s.drop a) false).1]) (by omega) (by omega) h1 (by simp; omega)
      exact ⟨a2, g1, g2, by rw [g3]; simp⟩
theorem refReadPiece (bad : Bool) (k a : Nat) (hk : 2 * s.length + 15 ≤ k) (ha : a ≤ s.length) :
    ∃ a' : Nat, a' ≤ s.length ∧ (readF insF (s.drop a) bad).2.1 = s.drop a' ∧ astrolaberef16_Reader_piece.f k s (a : Int) bad = some ((readF insF (s.drop a) bad).1, (a' : Int), (readF insF (s.drop a) bad).2.2) := by
  obtain ⟨a1, h1, h2, h3⟩ := refMany hs hl bad k a (by omega) ha
  have hr := manyF_range (s.drop a) bad
  rw [List.length_drop] at hr
  obtain ⟨n, hn⟩ := Int.eq_ofNat_of_zero_le hr.1
  obtain ⟨a2, g1, g2, g3⟩ := refPiece_go hs hl n (by omega) n 0 k a1 (manyF (s.drop a) bad).2.2 [] (by omega) (by omega) h1 rfl
  rw [astrolaberef16_Reader_piece.f, h3, Option.bind_some]
  unfold readF
  rw [h2, hn, show ((n : Nat) : Int).toNat = n from rfl]
  exact ⟨a2, g1, g2, by simpa using g3⟩
end
#print axioms refReadPiece
#print axioms refReadNumbers
end Go.Proofs.Ytccolpkjgjjipaa.K
