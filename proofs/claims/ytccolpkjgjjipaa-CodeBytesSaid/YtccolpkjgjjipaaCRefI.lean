/- What is read is of its kind; what is written are bytes. -/
import Derived.Test.YtccolpkjgjjipaaCRefR
import Derived.Test.YtccolpkjgjjipaaCObj
namespace Go.Proofs.Ytccolpkjgjjipaa.K
set_option linter.unusedVariables false
set_option linter.unusedSimpArgs false
open Go.RowKit Go.Proofs.YtccolpkjgjjipaaW.PrintWords
theorem Byt.tail {x : Int} {s : List Int} (h : Byt (x :: s)) : Byt s := fun y hy => h y (List.mem_cons_of_mem _ hy)
theorem Byt.drop {s : List Int} (h : Byt s) (n : Nat) : Byt (s.drop n) := fun y hy => h y (List.mem_of_mem_drop hy)
theorem Byt.append {s t : List Int} (h : Byt s) (g : Byt t) : Byt (s ++ t) := fun y hy => (List.mem_append.1 hy).elim (h y) (g y)
theorem Byt.flatMap {α : Type} {f : α → List Int} {l : List α} (h : ∀ a ∈ l, Byt (f a)) : Byt (l.flatMap f) := fun y hy => by
  obtain ⟨a, ha, hy⟩ := List.mem_flatMap.1 hy
  exact h a ha y hy
theorem vB_byt : ∀ (k : Nat) (u : Int), 0 ≤ u → u < 128 ^ k → Byt (vB k u)
  | 0, u, h0, h1 => fun x hx => by simp [vB] at hx
  | k + 1, u, h0, h1 => by
    rw [vB]
    by_cases hu : u ≥ 128
    · rw [if_pos hu]
      have h2 : u / 128 < 128 ^ k := by
        rw [Int.pow_succ] at h1
        exact Int.ediv_lt_of_lt_mul (by omega) h1
      intro x hx
      rcases List.mem_cons.1 hx with rfl | hx
      · omega
      · exact vB_byt k _ (by omega) h2 x hx
    · rw [if_neg hu]
      intro x hx
      rw [List.mem_singleton] at hx
      subst hx
      omega
theorem numB_byt (a : Int) : Byt (numB a) := vB_byt 10 _ (zg_range a).1 (by have := (zg_range a).2; omega)
theorem listB_byt (l : List Int) : Byt (listB l) := (numB_byt _).append (Byt.flatMap fun a _ => numB_byt a)
theorem insB_byt (x : S47) : Byt (insB x) := (numB_byt _).append ((numB_byt _).append ((numB_byt _).append ((numB_byt _).append ((numB_byt _).append (numB_byt _)))))
theorem pieceB_byt (l : List S47) : Byt (pieceB l) := (numB_byt _).append (Byt.flatMap fun a _ => insB_byt a)
theorem tailB_byt (s : Int) : Byt (tailB s) := by
  intro x hx
  simp only [tailB, List.mem_cons, List.not_mem_nil, or_false] at hx
  rcases hx with rfl | rfl | rfl | rfl <;> omega
theorem bodyB_byt (l0 l1 l2 l3 : List Int) (a4 a5 : Int) (l6 l7 l8 l9 : List S47) : Byt (bodyB l0 l1 l2 l3 a4 a5 l6 l7 l8 l9) := by
  have hm : Byt [65, 83, 84, 49] := by
    intro x hx
    simp only [List.mem_cons, List.not_mem_nil, or_false] at hx
    rcases hx with rfl | rfl | rfl | rfl <;> omega
  unfold bodyB headB
  exact ((((((((((hm.append (listB_byt _)).append (listB_byt _)).append (listB_byt _)).append (listB_byt _)).append (numB_byt _)).append (numB_byt _)).append (pieceB_byt _)).append (pieceB_byt _)).append (pieceB_byt _)).append (pieceB_byt _))
theorem bytesB_byt (l0 l1 l2 l3 : List Int) (a4 a5 : Int) (l6 l7 l8 l9 : List S47) : Byt (bytesB l0 l1 l2 l3 a4 a5 l6 l7 l8 l9) := (bodyB_byt _ _ _ _ _ _ _ _ _ _).append (tailB_byt _)
theorem numGo_in : ∀ (d j : Nat) (x : Int) (bs : List Int), j + d = 10 → Byt bs → 0 ≤ x → (j ≤ 9 → x < 2 ^ (7 * j)) → In64 (numGo d j x bs).1 ∧ Byt (numGo d j x bs).2.1
  | 0, j, x, bs, hj, hb, h0, hx => ⟨by simp [numGo, In64], hb⟩
  | d + 1, j, x, [], hj, hb, h0, hx => ⟨by simp [numGo, In64], hb⟩
  | d + 1, j, x, b :: bs, hj, hb, h0, hx => by
    obtain ⟨b0, b1⟩ := hb b (List.mem_cons_self)
    have hj9 : j ≤ 9 := by omega
    obtain ⟨e1, e2, e3⟩ := rdStep_eq x b j hj9 h0 (hx hj9) b0 b1
    have g0 : 0 ≤ rdStep x b j := by rw [e1]; omega
    have g1 : rdStep x b j < 18446744073709551616 := by rw [e1]; exact e2
    rw [numGo]
    split
    · exact ⟨rdFin_in64 g0 g1, hb.tail⟩
    · exact numGo_in d (j + 1) _ bs (by omega) hb.tail g0 (fun hj => by rw [e1]; exact e3 (by omega))
theorem oneF_in (bs : List Int) (bad : Bool) (h : Byt bs) : In64 (oneF bs bad).1 ∧ Byt (oneF bs bad).2.1 := numGo_in 10 0 0 bs (by omega) h (by omega) (fun _ => by decide)
theorem insF_in (bs : List Int) (bad : Bool) (h : Byt bs) : InS (insF bs bad).1 ∧ Byt (insF bs bad).2.1 := by
  have h1 := oneF_in bs bad h
  have h2 := oneF_in _ (oneF bs bad).2.2 h1.2
  have h3 := oneF_in _ (oneF (oneF bs bad).2.1 (oneF bs bad).2.2).2.2 h2.2
  have h4 := oneF_in _ (oneF (oneF (oneF bs bad).2.1 (oneF bs bad).2.2).2.1 (oneF (oneF bs bad).2.1 (oneF bs bad).2.2).2.2).2.2 h3.2
  have h5 := oneF_in _ (oneF (oneF (oneF (oneF bs bad).2.1 (oneF bs bad).2.2).2.1 (oneF (oneF bs bad).2.1 (oneF bs bad).2.2).2.2).2.1 (oneF (oneF (oneF bs bad).2.1 (oneF bs bad).2.2).2.1 (oneF (oneF bs bad).2.1 (oneF bs bad).2.2).2.2).2.2).2.2 h4.2
  have h6 := oneF_in _ (oneF (oneF (oneF (oneF (oneF bs bad).2.1 (oneF bs bad).2.2).2.1 (oneF (oneF bs bad).2.1 (oneF bs bad).2.2).2.2).2.1 (oneF (oneF (oneF bs bad).2.1 (oneF bs bad).2.2).2.1 (oneF (oneF bs bad).2.1 (oneF bs bad).2.2).2.2).2.2).2.1 (oneF (oneF (oneF (oneF bs bad).2.1 (oneF bs bad).2.2).2.1 (oneF (oneF bs bad).2.1 (oneF bs bad).2.2).2.2).2.1 (oneF (oneF (oneF bs bad).2.1 (oneF bs bad).2.2).2.1 (oneF (oneF bs bad).2.1 (oneF bs bad).2.2).2.2).2.2).2.2).2.2 h5.2
  exact ⟨⟨h1.1, h2.1, h3.1, h4.1, h5.1, h6.1⟩, h6.2⟩
theorem readGo_in {α : Type} {one : List Int → Bool → α × List Int × Bool} {P : α → Prop} (h1 : ∀ bs bad, Byt bs → P (one bs bad).1 ∧ Byt (one bs bad).2.1) : ∀ (n : Nat) (bs : List Int) (bad : Bool), Byt bs → (∀ a ∈ (readGo one n bs bad).1, P a) ∧ Byt (readGo one n bs bad).2.1
  | 0, bs, bad, h => ⟨fun a ha => by simp [readGo] at ha, h⟩
  | n + 1, bs, bad, h => by
    rw [readGo]
    split
    · exact ⟨fun a ha => by simp at ha, h⟩
    · obtain ⟨g1, g2⟩ := h1 bs bad h
      obtain ⟨g3, g4⟩ := readGo_in h1 n (one bs bad).2.1 (one bs bad).2.2 g2
      refine ⟨fun a ha => ?_, g4⟩
      rcases List.mem_cons.1 ha with rfl | ha
      · exact g1
      · exact g3 a ha
theorem manyF_byt (bs : List Int) (bad : Bool) (h : Byt bs) : Byt (manyF bs bad).2.1 := by
  have := (oneF_in bs bad h).2
  unfold manyF
  split <;> exact this
theorem readF_in {α : Type} {one : List Int → Bool → α × List Int × Bool} {P : α → Prop} (h1 : ∀ bs bad, Byt bs → P (one bs bad).1 ∧ Byt (one bs bad).2.1) (bs : List Int) (bad : Bool) (h : Byt bs) : (∀ a ∈ (readF one bs bad).1, P a) ∧ Byt (readF one bs bad).2.1 :=
  readGo_in h1 _ _ _ (manyF_byt bs bad h)
theorem decF_in (bs : List Int) (h : Byt bs) : ObIn (decF bs).1.1 (decF bs).1.2.1 (decF bs).1.2.2.1 (decF bs).1.2.2.2.1 (decF bs).1.2.2.2.2.1 (decF bs).1.2.2.2.2.2.1 (decF bs).1.2.2.2.2.2.2.1 (decF bs).1.2.2.2.2.2.2.2.1 (decF bs).1.2.2.2.2.2.2.2.2.1 (decF bs).1.2.2.2.2.2.2.2.2.2 := by
  obtain ⟨r0, e0⟩ : ∃ r, readF oneF bs false = r := ⟨_, rfl⟩
  have i0 := readF_in oneF_in bs false h
  rw [e0] at i0
  obtain ⟨r1, e1⟩ : ∃ r, readF oneF r0.2.1 r0.2.2 = r := ⟨_, rfl⟩
  have i1 := readF_in oneF_in r0.2.1 r0.2.2 i0.2
  rw [e1] at i1
  obtain ⟨r2, e2⟩ : ∃ r, readF oneF r1.2.1 r1.2.2 = r := ⟨_, rfl⟩
  have i2 := readF_in oneF_in r1.2.1 r1.2.2 i1.2
  rw [e2] at i2
  obtain ⟨r3, e3⟩ : ∃ r, readF oneF r2.2.1 r2.2.2 = r := ⟨_, rfl⟩
  have i3 := readF_in oneF_in r2.2.1 r2.2.2 i2.2
  rw [e3] at i3
  obtain ⟨r4, e4⟩ : ∃ r, oneF r3.2.1 r3.2.2 = r := ⟨_, rfl⟩
  have i4 := oneF_in r3.2.1 r3.2.2 i3.2
  rw [e4] at i4
  obtain ⟨r5, e5⟩ : ∃ r, oneF r4.2.1 r4.2.2 = r := ⟨_, rfl⟩
  have i5 := oneF_in r4.2.1 r4.2.2 i4.2
  rw [e5] at i5
  obtain ⟨r6, e6⟩ : ∃ r, readF insF r5.2.1 r5.2.2 = r := ⟨_, rfl⟩
  have i6 := readF_in insF_in r5.2.1 r5.2.2 i5.2
  rw [e6] at i6
  obtain ⟨r7, e7⟩ : ∃ r, readF insF r6.2.1 r6.2.2 = r := ⟨_, rfl⟩
  have i7 := readF_in insF_in r6.2.1 r6.2.2 i6.2
  rw [e7] at i7
  obtain ⟨r8, e8⟩ : ∃ r, readF insF r7.2.1 r7.2.2 = r := ⟨_, rfl⟩
  have i8 := readF_in insF_in r7.2.1 r7.2.2 i7.2
  rw [e8] at i8
  obtain ⟨r9, e9⟩ : ∃ r, readF insF r8.2.1 r8.2.2 = r := ⟨_, rfl⟩
  have i9 := readF_in insF_in r8.2.1 r8.2.2 i8.2
  rw [e9] at i9
  have hd : decF bs = ((r0.1, r1.1, r2.1, r3.1, r4.1, r5.1, r6.1, r7.1, r8.1, r9.1), r9.2.2) := by
    simp only [decF, e0, e1, e2, e3, e4, e5, e6, e7, e8, e9]
  rw [hd]
  exact ⟨i0.1, i1.1, i2.1, i3.1, i4.1, i5.1, i6.1, i7.1, i8.1, i9.1⟩
#print axioms decF_in
end Go.Proofs.Ytccolpkjgjjipaa.K
