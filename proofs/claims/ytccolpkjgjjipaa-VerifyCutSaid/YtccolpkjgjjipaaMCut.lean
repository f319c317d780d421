/- The document's Right comes to an answer; where it says yes, so does the program's. -/
import Derived.Test.YtccolpkjgjjipaaMVer2
import Derived.Test.YtccolpkjgjjipaaQ5
namespace Go.Proofs.Ytccolpkjgjjipaa.Q
open Go.RowKit Go.Proofs.YtccolpkjgjjipaaW.PrintWords
theorem wrap_id {n : Int} (h0 : 0 ≤ n) (h : n ≤ 9223372036854775807) : wrap64 n = n := by
  unfold wrap64; omega
section
variable (a b c d : List Int) (x y : Int) (e f g h : List S47)
/-- All instructions from piece j on are right. -/
def From (j : Nat) : Prop := ∀ i, j ≤ i → i < 4 → ∀ m, m < (four e f g h i).length → rightB a.length b.length c.length d.length x (i : Int) (rd_T47 (four e f g h i) (m : Int)) (((four e f g h i).length : Int) - m - 1) = true
def Rest (j m : Nat) : Prop := ∀ i, m ≤ i → i < (four e f g h j).length → rightB a.length b.length c.length d.length x (j : Int) (rd_T47 (four e f g h j) (i : Int)) (((four e f g h j).length : Int) - i - 1) = true
variable (hlen : ∀ j, j < 4 → ((four e f g h j).length : Int) ≤ 140737488351232)
include hlen
theorem refwrong_in (j : Nat) (hj : j < 4) (hF : ∃ r : Int × Int × Bool, Ev (fun k => astrolaberef17_Wrong.l0 k [e, f, g, h] ((j + 1 : Nat) : Int) a b c d x y e f g h) r ∧ (r.2.2 = false → From a b c d x e f g h (j + 1))) :
    ∀ (n m : Nat), m + n = (four e f g h j).length → ∃ r : Int × Int × Bool, Ev (fun k => astrolaberef17_Wrong.l1 k [e, f, g, h] (j : Int) (m : Int) a b c d x y e f g h) r ∧ (r.2.2 = false → Rest a b c d x e f g h j m ∧ From a b c d x e f g h (j + 1)) := by
  have h3 : ((j : Nat) : Int) < (([e, f, g, h] : List (List S47)).length : Int) := by simp; omega
  have hl := hlen j hj
  intro n
  induction n with
  | zero =>
    intro m hm
    obtain ⟨r, hr, hrr⟩ := hF
    refine ⟨r, Ev.step (fun k => ?_) hr, fun hb => ⟨fun i h1 h2 => by omega, hrr hb⟩⟩
    rw [astrolaberef17_Wrong.l1, if_pos (by omega), if_pos h3, rdL_four _ _ _ _ _ hj, if_neg (by omega), wrap_up (by omega) (by omega), Int.natCast_succ]
  | succ n ih =>
    intro m hm
    have h1 : wrap64 (((four e f g h j).length : Int) - m) = ((four e f g h j).length : Int) - m := wrap_id (by omega) (by omega)
    have h2 : wrap64 (((four e f g h j).length : Int) - m - 1) = ((four e f g h j).length : Int) - m - 1 := wrap_id (by omega) (by omega)
    have ho := one_right a.length b.length c.length d.length x (j : Int) (rd_T47 (four e f g h j) (m : Int)) (((four e f g h j).length : Int) - m - 1) (by omega) (by omega) (by omega) (by omega)
    obtain ⟨q, hq⟩ : ∃ q, rightB a.length b.length c.length d.length x (j : Int) (rd_T47 (four e f g h j) (m : Int)) (((four e f g h j).length : Int) - m - 1) = q := ⟨_, rfl⟩
    have ho2 : astrolaberef17_One.f a b c d x y e f g h (j : Int) (rd_T47 (four e f g h j) (m : Int)).f0 (rd_T47 (four e f g h j) (m : Int)).f1 (rd_T47 (four e f g h j) (m : Int)).f2 (rd_T47 (four e f g h j) (m : Int)).f3 (rd_T47 (four e f g h j) (m : Int)).f4 (rd_T47 (four e f g h j) (m : Int)).f5 (((four e f g h j).length : Int) - m - 1) = some q := by
      rw [astrolaberef17_One.f]
      exact congrArg some (ho.trans hq)
    cases q with
    | true =>
      obtain ⟨r, hr, hrr⟩ := ih (m + 1) (by omega)
      refine ⟨r, Ev.step (fun k => ?_) hr, fun hb => ⟨fun i h4 h5 => ?_, (hrr hb).2⟩⟩
      · rw [astrolaberef17_Wrong.l1, if_pos (by omega), if_pos h3, rdL_four _ _ _ _ _ hj, if_pos (by omega), if_pos (by omega), h1, h2, ho2, Option.bind_some, if_pos rfl, wrap_up (by omega) (by omega), Int.natCast_succ]
      · by_cases him : i = m
        · subst him; exact hq
        · exact (hrr hb).1 i (by omega) h5
    | false =>
      refine ⟨((j : Int), (m : Int), true), Ev.step (f := fun _ => some ((j : Int), (m : Int), true)) (fun k => ?_) (Ev.now _), fun hb => by simp at hb⟩
      rw [astrolaberef17_Wrong.l1, if_pos (by omega), if_pos h3, rdL_four _ _ _ _ _ hj, if_pos (by omega), if_pos (by omega), h1, h2, ho2, Option.bind_some, if_neg Bool.false_ne_true]
theorem wrong_from : ∀ (n j : Nat), j + n = 4 → ∃ r : Int × Int × Bool, Ev (fun k => astrolaberef17_Wrong.l0 k [e, f, g, h] (j : Int) a b c d x y e f g h) r ∧ (r.2.2 = false → From a b c d x e f g h j) := by
  intro n
  induction n with
  | zero =>
    intro j hj
    refine ⟨(0, 0, false), Ev.step (f := fun _ => some (0, 0, false)) (fun k => by rw [astrolaberef17_Wrong.l0, if_neg (by omega)]) (Ev.now _), fun _ i h1 h2 => by omega⟩
  | succ n ih =>
    intro j hj
    obtain ⟨r, hr, hrr⟩ := refwrong_in a b c d x y e f g h hlen j (by omega) (ih (j + 1) (by omega)) (four e f g h j).length 0 (by omega)
    refine ⟨r, Ev.step (fun k => by rw [astrolaberef17_Wrong.l0, if_pos (by omega)]; rfl) hr, fun hb i h1 h2 m hm => ?_⟩
    by_cases hij : i = j
    · subst hij; exact (hrr hb).1 m (by omega) hm
    · exact (hrr hb).2 i (by omega) h2 m hm
def Short (j : Nat) : Prop := ∀ i, j ≤ i → i < 4 → ((four e f g h i).length : Int) ≤ 4000
theorem right_l2 : ∀ (n j : Nat), j + n = 4 → ∃ r : Bool, Ev (fun k => astrolaberef17_Right.l2 k [e, f, g, h] (j : Int) a b c d x y e f g h) r ∧ (r = true → Short e f g h j ∧ From a b c d x e f g h 0) := by
  intro n
  induction n with
  | zero =>
    intro j hj
    obtain ⟨r, hr, hrr⟩ := wrong_from a b c d x y e f g h hlen 4 0 rfl
    refine ⟨!r.2.2, Ev.step (f := fun k => (astrolaberef17_Wrong.f k a b c d x y e f g h).bind fun bt132 => some (!bt132.2.2)) (fun k => by rw [astrolaberef17_Right.l2, if_neg (by omega)]) (Ev.bind (g := fun k => astrolaberef17_Wrong.f k a b c d x y e f g h) (Ev.congr (fun k => by rw [astrolaberef17_Wrong.f, astrolaberef17_Pieces.f, Option.bind_some]; rfl) hr) (Ev.now _)), fun hb => ⟨fun i h1 h2 => by omega, hrr (by simpa using hb)⟩⟩
  | succ n ih =>
    intro j hj
    have h3 : ((j : Nat) : Int) < (([e, f, g, h] : List (List S47)).length : Int) := by simp; omega
    by_cases hl : ((four e f g h j).length : Int) > 4000
    · exact ⟨false, Ev.step (f := fun _ => some false) (fun k => by rw [astrolaberef17_Right.l2, if_pos (by omega), if_pos (by omega), if_pos h3, rdL_four _ _ _ _ _ (by omega), if_pos hl]) (Ev.now _), fun hb => by cases hb⟩
    · obtain ⟨r, hr, hrr⟩ := ih (j + 1) (by omega)
      refine ⟨r, Ev.step (fun k => by rw [astrolaberef17_Right.l2, if_pos (by omega), if_pos (by omega), if_pos h3, rdL_four _ _ _ _ _ (by omega), if_neg hl, wrap_up (by omega) (by omega), Int.natCast_succ]) hr, fun hb => ⟨fun i h1 h2 => ?_, (hrr hb).2⟩⟩
      by_cases hij : i = j
      · subst hij; omega
      · exact (hrr hb).1 i (by omega) h2
theorem right_j2 (t : Bool) : ∃ r : Bool, Ev (fun k => astrolaberef17_Right.j2 k t a b c d x y e f g h) r ∧ (r = true → t = false ∧ Short e f g h 0 ∧ From a b c d x e f g h 0) := by
  cases t with
  | true => exact ⟨false, Ev.step (f := fun _ => some false) (fun k => by rw [astrolaberef17_Right.j2, if_pos rfl]) (Ev.now _), fun hb => by cases hb⟩
  | false =>
    obtain ⟨r, hr, hrr⟩ := right_l2 a b c d x y e f g h hlen 4 0 rfl
    exact ⟨r, Ev.step (fun k => by rw [astrolaberef17_Right.j2, if_neg Bool.false_ne_true, astrolaberef17_Pieces.f, Option.bind_some]; rfl) hr, fun hb => ⟨rfl, hrr hb⟩⟩
def Banks : Prop := ((a.length : Int) ≤ 200 ∧ (b.length : Int) ≤ 200 ∧ (c.length : Int) ≤ 200 ∧ (d.length : Int) ≤ 200) ∧ 0 ≤ x ∧ x ≤ 200 ∧ 0 ≤ y ∧ y ≤ 3
theorem right_end (k0 : Nat → Option Bool) (hk : ∀ k, k0 (k + 1) = if (a.length : Int) > 200 then (astrolaberef17_Right.j2 k true a b c d x y e f g h) else (if (b.length : Int) > 200 then (astrolaberef17_Right.j2 k true a b c d x y e f g h) else (if (c.length : Int) > 200 then (astrolaberef17_Right.j2 k true a b c d x y e f g h) else (if (d.length : Int) > 200 then (astrolaberef17_Right.j2 k true a b c d x y e f g h) else (if x < 0 then (astrolaberef17_Right.j2 k true a b c d x y e f g h) else (if x > 200 then (astrolaberef17_Right.j2 k true a b c d x y e f g h) else (if y < 0 then (astrolaberef17_Right.j2 k true a b c d x y e f g h) else (astrolaberef17_Right.j2 k (decide (y > 3)) a b c d x y e f g h)))))))) :
    ∃ r : Bool, Ev k0 r ∧ (r = true → Banks a b c d x y ∧ Short e f g h 0 ∧ From a b c d x e f g h 0) := by
  have no : ∀ t : Bool, t = true → ∃ r : Bool, Ev (fun k => astrolaberef17_Right.j2 k t a b c d x y e f g h) r ∧ (r = true → Banks a b c d x y ∧ Short e f g h 0 ∧ From a b c d x e f g h 0) := by
    intro t ht
    obtain ⟨r, hr, hrr⟩ := right_j2 a b c d x y e f g h hlen t
    exact ⟨r, hr, fun hb => by have := (hrr hb).1; rw [ht] at this; cases this⟩
  by_cases c1 : (a.length : Int) > 200
  · obtain ⟨r, hr, hrr⟩ := no true rfl; exact ⟨r, Ev.step (fun k => by rw [hk, if_pos c1]) hr, hrr⟩
  by_cases c2 : (b.length : Int) > 200
  · obtain ⟨r, hr, hrr⟩ := no true rfl; exact ⟨r, Ev.step (fun k => by rw [hk, if_neg c1, if_pos c2]) hr, hrr⟩
  by_cases c3 : (c.length : Int) > 200
  · obtain ⟨r, hr, hrr⟩ := no true rfl; exact ⟨r, Ev.step (fun k => by rw [hk, if_neg c1, if_neg c2, if_pos c3]) hr, hrr⟩
  by_cases c4 : (d.length : Int) > 200
  · obtain ⟨r, hr, hrr⟩ := no true rfl; exact ⟨r, Ev.step (fun k => by rw [hk, if_neg c1, if_neg c2, if_neg c3, if_pos c4]) hr, hrr⟩
  by_cases c5 : x < 0
  · obtain ⟨r, hr, hrr⟩ := no true rfl; exact ⟨r, Ev.step (fun k => by rw [hk, if_neg c1, if_neg c2, if_neg c3, if_neg c4, if_pos c5]) hr, hrr⟩
  by_cases c6 : x > 200
  · obtain ⟨r, hr, hrr⟩ := no true rfl; exact ⟨r, Ev.step (fun k => by rw [hk, if_neg c1, if_neg c2, if_neg c3, if_neg c4, if_neg c5, if_pos c6]) hr, hrr⟩
  by_cases c7 : y < 0
  · obtain ⟨r, hr, hrr⟩ := no true rfl; exact ⟨r, Ev.step (fun k => by rw [hk, if_neg c1, if_neg c2, if_neg c3, if_neg c4, if_neg c5, if_neg c6, if_pos c7]) hr, hrr⟩
  obtain ⟨r, hr, hrr⟩ := right_j2 a b c d x y e f g h hlen (decide (y > 3))
  refine ⟨r, Ev.step (fun k => by rw [hk, if_neg c1, if_neg c2, if_neg c3, if_neg c4, if_neg c5, if_neg c6, if_neg c7]) hr, fun hb => ⟨⟨⟨by omega, by omega, by omega, by omega⟩, by omega, by omega, by omega, ?_⟩, (hrr hb).2⟩⟩
  have := of_decide_eq_false (hrr hb).1
  omega
def Kinds (l : List Int) (j : Nat) : Prop := ∀ i, j ≤ i → i < l.length → rd l (i : Int) = 1 ∨ rd l (i : Int) = 2
theorem right_l1 (hb2 : (b.length : Int) ≤ 140737488351232) : ∀ (n j : Nat), j + n = b.length → ∃ r : Bool, Ev (fun k => astrolaberef17_Right.l1 k (j : Int) a b c d x y e f g h) r ∧ (r = true → Kinds b j ∧ Banks a b c d x y ∧ Short e f g h 0 ∧ From a b c d x e f g h 0) := by
  intro n
  induction n with
  | zero =>
    intro j hj
    obtain ⟨r, hr, hrr⟩ := right_end a b c d x y e f g h hlen (fun k => astrolaberef17_Right.l1 k (j : Int) a b c d x y e f g h) (fun k => by rw [astrolaberef17_Right.l1, if_neg (by omega)])
    exact ⟨r, hr, fun hb => ⟨fun i h1 h2 => by omega, hrr hb⟩⟩
  | succ n ih =>
    intro j hj
    obtain ⟨r, hr, hrr⟩ := ih (j + 1) (by omega)
    by_cases c1 : rd b (j : Int) = 1
    · refine ⟨r, Ev.step (fun k => by rw [astrolaberef17_Right.l1, if_pos (by omega), if_pos (by omega), if_pos c1, wrap_up (by omega) (by omega), Int.natCast_succ]) hr, fun hb => ⟨fun i h1 h2 => ?_, (hrr hb).2⟩⟩
      by_cases hij : i = j
      · subst hij; exact .inl c1
      · exact (hrr hb).1 i (by omega) h2
    by_cases c2 : rd b (j : Int) = 2
    · refine ⟨r, Ev.step (fun k => by rw [astrolaberef17_Right.l1, if_pos (by omega), if_pos (by omega), if_neg c1, if_pos c2, wrap_up (by omega) (by omega), Int.natCast_succ]) hr, fun hb => ⟨fun i h1 h2 => ?_, (hrr hb).2⟩⟩
      by_cases hij : i = j
      · subst hij; exact .inr c2
      · exact (hrr hb).1 i (by omega) h2
    · exact ⟨false, Ev.step (f := fun _ => some false) (fun k => by rw [astrolaberef17_Right.l1, if_pos (by omega), if_pos (by omega), if_neg c1, if_neg c2]) (Ev.now _), fun hb => by cases hb⟩
theorem right_l0 (ha2 : (a.length : Int) ≤ 140737488351232) (hb2 : (b.length : Int) ≤ 140737488351232) : ∀ (n j : Nat), j + n = a.length → ∃ r : Bool, Ev (fun k => astrolaberef17_Right.l0 k (j : Int) a b c d x y e f g h) r ∧ (r = true → Kinds a j ∧ Kinds b 0 ∧ Banks a b c d x y ∧ Short e f g h 0 ∧ From a b c d x e f g h 0) := by
  intro n
  induction n with
  | zero =>
    intro j hj
    obtain ⟨r, hr, hrr⟩ := right_l1 a b c d x y e f g h hlen hb2 b.length 0 (by omega)
    exact ⟨r, Ev.step (fun k => by rw [astrolaberef17_Right.l0, if_neg (by omega)]; rfl) hr, fun hb => ⟨fun i h1 h2 => by omega, hrr hb⟩⟩
  | succ n ih =>
    intro j hj
    obtain ⟨r, hr, hrr⟩ := ih (j + 1) (by omega)
    by_cases c1 : rd a (j : Int) = 1
    · refine ⟨r, Ev.step (fun k => by rw [astrolaberef17_Right.l0, if_pos (by omega), if_pos (by omega), if_pos c1, wrap_up (by omega) (by omega), Int.natCast_succ]) hr, fun hb => ⟨fun i h1 h2 => ?_, (hrr hb).2⟩⟩
      by_cases hij : i = j
      · subst hij; exact .inl c1
      · exact (hrr hb).1 i (by omega) h2
    by_cases c2 : rd a (j : Int) = 2
    · refine ⟨r, Ev.step (fun k => by rw [astrolaberef17_Right.l0, if_pos (by omega), if_pos (by omega), if_neg c1, if_pos c2, wrap_up (by omega) (by omega), Int.natCast_succ]) hr, fun hb => ⟨fun i h1 h2 => ?_, (hrr hb).2⟩⟩
      by_cases hij : i = j
      · subst hij; exact .inr c2
      · exact (hrr hb).1 i (by omega) h2
    · exact ⟨false, Ev.step (f := fun _ => some false) (fun k => by rw [astrolaberef17_Right.l0, if_pos (by omega), if_pos (by omega), if_neg c1, if_neg c2]) (Ev.now _), fun hb => by cases hb⟩
theorem right_some (ha2 : (a.length : Int) ≤ 140737488351232) (hb2 : (b.length : Int) ≤ 140737488351232) : ∃ r : Bool, Ev (fun k => astrolaberef17_Right.f k a b c d x y e f g h) r ∧ (r = true → Kinds a 0 ∧ Kinds b 0 ∧ Banks a b c d x y ∧ Short e f g h 0 ∧ From a b c d x e f g h 0) := by
  obtain ⟨r, hr, hrr⟩ := right_l0 a b c d x y e f g h hlen ha2 hb2 a.length 0 (by omega)
  exact ⟨r, Ev.congr (fun k => by rw [astrolaberef17_Right.f]; rfl) hr, hrr⟩
end
theorem no_kind {l : List Int} (h : Kinds l 0) : l.any kindB = false := by
  rw [Bool.eq_false_iff]
  intro hc
  obtain ⟨z, hz, hk⟩ := List.any_eq_true.1 hc
  obtain ⟨i, hi⟩ := List.getElem?_of_mem hz
  obtain ⟨hlt, he⟩ := List.getElem?_eq_some_iff.1 hi
  have := h i (by omega) hlt
  rw [rd, Int.toNat_natCast, List.getD_eq_getElem?_getD, hi, Option.getD_some] at this
  rcases this with rfl | rfl <;> simp [kindB] at hk
/-- A piece's instruction but in the step: how many are behind it is of no matter. -/
theorem right_behind {n0 n1 n2 n3 : Nat} {cross p : Int} {z : S47} {q q' : Int} (hp : p ≠ 2) : rightB n0 n1 n2 n3 cross p z q = rightB n0 n1 n2 n3 cross p z q' := by
  unfold rightB placeB
  by_cases h : z.f0 = 19
  · have : hereB p z.f0 = false := by simp [hereB, h, hp]
    rw [this]; rfl
  · rw [if_neg h, if_neg h]
theorem rdT_take {l : List S47} {n m : Nat} (h : m < (l.take n).length) : rd_T47 (l.take n) (m : Int) = rd_T47 l (m : Int) := by
  have h1 : m < n ∧ m < l.length := by rw [List.length_take] at h; omega
  unfold rd_T47
  simp [List.getD_eq_getElem?_getD, h1.1]
end Go.Proofs.Ytccolpkjgjjipaa.Q
