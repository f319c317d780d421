/- The document's Right comes to an answer; where it says yes, so does the program's. -/
import Derived.Test.YtgalkkolbobmbaaGreatVMVer2
import Derived.Test.YtgalkkolbobmbaaGreatVRR
import Derived.Test.YtgalkkolbobmbaaGreatV2
import Derived.Test.YtgalkkolbobmbaaGreatVRunW
import Derived.SizedLaws
import Derived.ChangeSlices
import Derived.Test.YtgalkkolbobmbaaGreatWMore
import Derived.ChangeArms
import Derived.DataReads
import Derived.DataElems
import Derived.Test.YtgalkkolbobmbaaGreatVClone
import Derived.KernelRfl
import Derived.Test.YtgalkkolbobmbaaGreatVMade
import Derived.Test.YtgalkkolbobmbaaGreatVMDiv2

namespace Go.Proofs.YtgalkkolbobmbaaGreat.V
open Go.RowKit Go.Proofs.YtgalkkolbobmbaaGreatW.PrintWords
theorem wrap_id {n : Int} (h0 : 0 ≤ n) (h : n ≤ 9223372036854775807) : wrap64 n = n := by
 unfold wrap64; omega
section
variable (a b c d : List Int) (x y : Int) (e f g h : List S49)
/-- All instructions from piece j on are right. -/
def From (j : Nat) : Prop := ∀ i, j ≤ i → i < 4 → ∀ m, m < (four e f g h i).length → rightB a.length b.length c.length d.length x (i : Int) (rd_T49 (four e f g h i) (m : Int)) (((four e f g h i).length : Int) - m - 1) = true
def Rest (j m : Nat) : Prop := ∀ i, m ≤ i → i < (four e f g h j).length → rightB a.length b.length c.length d.length x (j : Int) (rd_T49 (four e f g h j) (i : Int)) (((four e f g h j).length : Int) - i - 1) = true
variable (hlen : ∀ j, j < 4 → ((four e f g h j).length : Int) ≤ 140737488351232)
include hlen
theorem refwrong_in (j : Nat) (hj : j < 4) (hF : ∃ r : Int × Int × Bool, Ev (fun k => astrolaberef17_Wrong.l0 k [e, f, g, h] ((j + 1 : Nat) : Int) a b c d x y e f g h) r ∧ (r.2.2 = false → From a b c d x e f g h (j + 1))) :
 ∀ (n m : Nat), m + n = (four e f g h j).length → ∃ r : Int × Int × Bool, Ev (fun k => astrolaberef17_Wrong.l1 k [e, f, g, h] (j : Int) (m : Int) a b c d x y e f g h) r ∧ (r.2.2 = false → Rest a b c d x e f g h j m ∧ From a b c d x e f g h (j + 1)) := by
 have h3 : ((j : Nat) : Int) < (([e, f, g, h] : List (List S49)).length : Int) := by simp; omega
 have hl := hlen j hj
 intro n
 induction n with
 | zero =>
  intro m hm
  obtain ⟨r, hr, hrr⟩ := hF
  refine ⟨r, Ev.step (fun k => ?_) hr, fun hb => ⟨fun i h1 h2 => by omega, hrr hb⟩⟩
  rw [astrolaberef17_Wrong.l1, if_pos (by omega), if_pos h3, rdL_four _ _ _ _ _ hj, if_neg (by omega), wrap_up (by omega) (by omega), Int.natCast_succ]
 | succ n ih =>
  intro m hm
  have h1 : wrap64 (((four e f g h j).length : Int) - m) = ((four e f g h j).length : Int) - m := wrap_id (by omega) (by omega)
  have h2 : wrap64 (((four e f g h j).length : Int) - m - 1) = ((four e f g h j).length : Int) - m - 1 := wrap_id (by omega) (by omega)
  have ho := one_right a.length b.length c.length d.length x (j : Int) (rd_T49 (four e f g h j) (m : Int)) (((four e f g h j).length : Int) - m - 1) (by omega) (by omega) (by omega) (by omega)
  obtain ⟨q, hq⟩ : ∃ q, rightB a.length b.length c.length d.length x (j : Int) (rd_T49 (four e f g h j) (m : Int)) (((four e f g h j).length : Int) - m - 1) = q := ⟨_, rfl⟩
  have ho2 : astrolaberef17_One.f a b c d x y e f g h (j : Int) (rd_T49 (four e f g h j) (m : Int)).f0 (rd_T49 (four e f g h j) (m : Int)).f1 (rd_T49 (four e f g h j) (m : Int)).f2 (rd_T49 (four e f g h j) (m : Int)).f3 (rd_T49 (four e f g h j) (m : Int)).f4 (rd_T49 (four e f g h j) (m : Int)).f5 (((four e f g h j).length : Int) - m - 1) = some q := by
   rw [astrolaberef17_One.f]
   exact congrArg some (ho.trans hq)
  cases q with
  | true =>
   obtain ⟨r, hr, hrr⟩ := ih (m + 1) (by omega)
   refine ⟨r, Ev.step (fun k => ?_) hr, fun hb => ⟨fun i h4 h5 => ?_, (hrr hb).2⟩⟩
   · rw [astrolaberef17_Wrong.l1, if_pos (by omega), if_pos h3, rdL_four _ _ _ _ _ hj, if_pos (by omega), if_pos (by omega), h1, h2, ho2, Option.bind_some, if_pos rfl, wrap_up (by omega) (by omega), Int.natCast_succ]
   · by_cases him : i = m
     · subst him; exact hq
     · exact (hrr hb).1 i (by omega) h5
  | false =>
   refine ⟨((j : Int), (m : Int), true), Ev.step (f := fun _ => some ((j : Int), (m : Int), true)) (fun k => ?_) (Ev.now _), fun hb => by simp at hb⟩
   rw [astrolaberef17_Wrong.l1, if_pos (by omega), if_pos h3, rdL_four _ _ _ _ _ hj, if_pos (by omega), if_pos (by omega), h1, h2, ho2, Option.bind_some, if_neg Bool.false_ne_true]
theorem wrong_from : ∀ (n j : Nat), j + n = 4 → ∃ r : Int × Int × Bool, Ev (fun k => astrolaberef17_Wrong.l0 k [e, f, g, h] (j : Int) a b c d x y e f g h) r ∧ (r.2.2 = false → From a b c d x e f g h j) := by
 intro n
 induction n with
 | zero =>
  intro j hj
  refine ⟨(0, 0, false), Ev.step (f := fun _ => some (0, 0, false)) (fun k => by rw [astrolaberef17_Wrong.l0, if_neg (by omega)]) (Ev.now _), fun _ i h1 h2 => by omega⟩
 | succ n ih =>
  intro j hj
  obtain ⟨r, hr, hrr⟩ := refwrong_in a b c d x y e f g h hlen j (by omega) (ih (j + 1) (by omega)) (four e f g h j).length 0 (by omega)
  refine ⟨r, Ev.step (fun k => by rw [astrolaberef17_Wrong.l0, if_pos (by omega)]; rfl) hr, fun hb i h1 h2 m hm => ?_⟩
  by_cases hij : i = j
  · subst hij; exact (hrr hb).1 m (by omega) hm
  · exact (hrr hb).2 i (by omega) h2 m hm
def Short (j : Nat) : Prop := ∀ i, j ≤ i → i < 4 → ((four e f g h i).length : Int) ≤ 4000
theorem right_l2 : ∀ (n j : Nat), j + n = 4 → ∃ r : Bool, Ev (fun k => astrolaberef17_Right.l2 k [e, f, g, h] (j : Int) a b c d x y e f g h) r ∧ (r = true → Short e f g h j ∧ From a b c d x e f g h 0) := by
 intro n
 induction n with
 | zero =>
  intro j hj
  obtain ⟨r, hr, hrr⟩ := wrong_from a b c d x y e f g h hlen 4 0 rfl
  refine ⟨!r.2.2, Ev.step (f := fun k => (astrolaberef17_Wrong.f k a b c d x y e f g h).bind fun bt132 => some (!bt132.2.2)) (fun k => by rw [astrolaberef17_Right.l2, if_neg (by omega)]) (Ev.bind (g := fun k => astrolaberef17_Wrong.f k a b c d x y e f g h) (Ev.congr (fun k => by rw [astrolaberef17_Wrong.f, astrolaberef17_Pieces.f, Option.bind_some]; rfl) hr) (Ev.now _)), fun hb => ⟨fun i h1 h2 => by omega, hrr (by simpa using hb)⟩⟩
 | succ n ih =>
  intro j hj
  have h3 : ((j : Nat) : Int) < (([e, f, g, h] : List (List S49)).length : Int) := by simp; omega
  by_cases hl : ((four e f g h j).length : Int) > 4000
  · exact ⟨false, Ev.step (f := fun _ => some false) (fun k => by rw [astrolaberef17_Right.l2, if_pos (by omega), if_pos (by omega), if_pos h3, rdL_four _ _ _ _ _ (by omega), if_pos hl]) (Ev.now _), fun hb => by cases hb⟩
  · obtain ⟨r, hr, hrr⟩ := ih (j + 1) (by omega)
    refine ⟨r, Ev.step (fun k => by rw [astrolaberef17_Right.l2, if_pos (by omega), if_pos (by omega), if_pos h3, rdL_four _ _ _ _ _ (by omega), if_neg hl, wrap_up (by omega) (by omega), Int.natCast_succ]) hr, fun hb => ⟨fun i h1 h2 => ?_, (hrr hb).2⟩⟩
    by_cases hij : i = j
    · subst hij; omega
    · exact (hrr hb).1 i (by omega) h2
theorem right_j2 (t : Bool) : ∃ r : Bool, Ev (fun k => astrolaberef17_Right.j2 k t a b c d x y e f g h) r ∧ (r = true → t = false ∧ Short e f g h 0 ∧ From a b c d x e f g h 0) := by
 cases t with
 | true => exact ⟨false, Ev.step (f := fun _ => some false) (fun k => by rw [astrolaberef17_Right.j2, if_pos rfl]) (Ev.now _), fun hb => by cases hb⟩
 | false =>
  obtain ⟨r, hr, hrr⟩ := right_l2 a b c d x y e f g h hlen 4 0 rfl
  exact ⟨r, Ev.step (fun k => by rw [astrolaberef17_Right.j2, if_neg Bool.false_ne_true, astrolaberef17_Pieces.f, Option.bind_some]; rfl) hr, fun hb => ⟨rfl, hrr hb⟩⟩
def Banks : Prop := ((a.length : Int) ≤ 200 ∧ (b.length : Int) ≤ 200 ∧ (c.length : Int) ≤ 200 ∧ (d.length : Int) ≤ 200) ∧ 0 ≤ x ∧ x ≤ 200 ∧ 0 ≤ y ∧ y ≤ 3
theorem right_end (k0 : Nat → Option Bool) (hk : ∀ k, k0 (k + 1) = if (a.length : Int) > 200 then (astrolaberef17_Right.j2 k true a b c d x y e f g h) else (if (b.length : Int) > 200 then (astrolaberef17_Right.j2 k true a b c d x y e f g h) else (if (c.length : Int) > 200 then (astrolaberef17_Right.j2 k true a b c d x y e f g h) else (if (d.length : Int) > 200 then (astrolaberef17_Right.j2 k true a b c d x y e f g h) else (if x < 0 then (astrolaberef17_Right.j2 k true a b c d x y e f g h) else (if x > 200 then (astrolaberef17_Right.j2 k true a b c d x y e f g h) else (if y < 0 then (astrolaberef17_Right.j2 k true a b c d x y e f g h) else (astrolaberef17_Right.j2 k (decide (y > 3)) a b c d x y e f g h)))))))) :
 ∃ r : Bool, Ev k0 r ∧ (r = true → Banks a b c d x y ∧ Short e f g h 0 ∧ From a b c d x e f g h 0) := by
 have no : ∀ t : Bool, t = true → ∃ r : Bool, Ev (fun k => astrolaberef17_Right.j2 k t a b c d x y e f g h) r ∧ (r = true → Banks a b c d x y ∧ Short e f g h 0 ∧ From a b c d x e f g h 0) := by
  intro t ht
  obtain ⟨r, hr, hrr⟩ := right_j2 a b c d x y e f g h hlen t
  exact ⟨r, hr, fun hb => by have := (hrr hb).1; rw [ht] at this; cases this⟩
 by_cases c1 : (a.length : Int) > 200
 · obtain ⟨r, hr, hrr⟩ := no true rfl; exact ⟨r, Ev.step (fun k => by rw [hk, if_pos c1]) hr, hrr⟩
 by_cases c2 : (b.length : Int) > 200
 · obtain ⟨r, hr, hrr⟩ := no true rfl; exact ⟨r, Ev.step (fun k => by rw [hk, if_neg c1, if_pos c2]) hr, hrr⟩
 by_cases c3 : (c.length : Int) > 200
 · obtain ⟨r, hr, hrr⟩ := no true rfl; exact ⟨r, Ev.step (fun k => by rw [hk, if_neg c1, if_neg c2, if_pos c3]) hr, hrr⟩
 by_cases c4 : (d.length : Int) > 200
 · obtain ⟨r, hr, hrr⟩ := no true rfl; exact ⟨r, Ev.step (fun k => by rw [hk, if_neg c1, if_neg c2, if_neg c3, if_pos c4]) hr, hrr⟩
 by_cases c5 : x < 0
 · obtain ⟨r, hr, hrr⟩ := no true rfl; exact ⟨r, Ev.step (fun k => by rw [hk, if_neg c1, if_neg c2, if_neg c3, if_neg c4, if_pos c5]) hr, hrr⟩
 by_cases c6 : x > 200
 · obtain ⟨r, hr, hrr⟩ := no true rfl; exact ⟨r, Ev.step (fun k => by rw [hk, if_neg c1, if_neg c2, if_neg c3, if_neg c4, if_neg c5, if_pos c6]) hr, hrr⟩
 by_cases c7 : y < 0
 · obtain ⟨r, hr, hrr⟩ := no true rfl; exact ⟨r, Ev.step (fun k => by rw [hk, if_neg c1, if_neg c2, if_neg c3, if_neg c4, if_neg c5, if_neg c6, if_pos c7]) hr, hrr⟩
 obtain ⟨r, hr, hrr⟩ := right_j2 a b c d x y e f g h hlen (decide (y > 3))
 refine ⟨r, Ev.step (fun k => by rw [hk, if_neg c1, if_neg c2, if_neg c3, if_neg c4, if_neg c5, if_neg c6, if_neg c7]) hr, fun hb => ⟨⟨⟨by omega, by omega, by omega, by omega⟩, by omega, by omega, by omega, ?_⟩, (hrr hb).2⟩⟩
 have := of_decide_eq_false (hrr hb).1
 omega
def Kinds (l : List Int) (j : Nat) : Prop := ∀ i, j ≤ i → i < l.length → rd l (i : Int) = 1 ∨ rd l (i : Int) = 2
theorem right_l1 (hb2 : (b.length : Int) ≤ 140737488351232) : ∀ (n j : Nat), j + n = b.length → ∃ r : Bool, Ev (fun k => astrolaberef17_Right.l1 k (j : Int) a b c d x y e f g h) r ∧ (r = true → Kinds b j ∧ Banks a b c d x y ∧ Short e f g h 0 ∧ From a b c d x e f g h 0) := by
 intro n
 induction n with
 | zero =>
  intro j hj
  obtain ⟨r, hr, hrr⟩ := right_end a b c d x y e f g h hlen (fun k => astrolaberef17_Right.l1 k (j : Int) a b c d x y e f g h) (fun k => by rw [astrolaberef17_Right.l1, if_neg (by omega)])
  exact ⟨r, hr, fun hb => ⟨fun i h1 h2 => by omega, hrr hb⟩⟩
 | succ n ih =>
  intro j hj
  obtain ⟨r, hr, hrr⟩ := ih (j + 1) (by omega)
  by_cases c1 : rd b (j : Int) = 1
  · refine ⟨r, Ev.step (fun k => by rw [astrolaberef17_Right.l1, if_pos (by omega), if_pos (by omega), if_pos c1, wrap_up (by omega) (by omega), Int.natCast_succ]) hr, fun hb => ⟨fun i h1 h2 => ?_, (hrr hb).2⟩⟩
    by_cases hij : i = j
    · subst hij; exact .inl c1
    · exact (hrr hb).1 i (by omega) h2
  by_cases c2 : rd b (j : Int) = 2
  · refine ⟨r, Ev.step (fun k => by rw [astrolaberef17_Right.l1, if_pos (by omega), if_pos (by omega), if_neg c1, if_pos c2, wrap_up (by omega) (by omega), Int.natCast_succ]) hr, fun hb => ⟨fun i h1 h2 => ?_, (hrr hb).2⟩⟩
    by_cases hij : i = j
    · subst hij; exact .inr c2
    · exact (hrr hb).1 i (by omega) h2
  · exact ⟨false, Ev.step (f := fun _ => some false) (fun k => by rw [astrolaberef17_Right.l1, if_pos (by omega), if_pos (by omega), if_neg c1, if_neg c2]) (Ev.now _), fun hb => by cases hb⟩
theorem right_l0 (ha2 : (a.length : Int) ≤ 140737488351232) (hb2 : (b.length : Int) ≤ 140737488351232) : ∀ (n j : Nat), j + n = a.length → ∃ r : Bool, Ev (fun k => astrolaberef17_Right.l0 k (j : Int) a b c d x y e f g h) r ∧ (r = true → Kinds a j ∧ Kinds b 0 ∧ Banks a b c d x y ∧ Short e f g h 0 ∧ From a b c d x e f g h 0) := by
 intro n
 induction n with
 | zero =>
  intro j hj
  obtain ⟨r, hr, hrr⟩ := right_l1 a b c d x y e f g h hlen hb2 b.length 0 (by omega)
  exact ⟨r, Ev.step (fun k => by rw [astrolaberef17_Right.l0, if_neg (by omega)]; rfl) hr, fun hb => ⟨fun i h1 h2 => by omega, hrr hb⟩⟩
 | succ n ih =>
  intro j hj
  obtain ⟨r, hr, hrr⟩ := ih (j + 1) (by omega)
  by_cases c1 : rd a (j : Int) = 1
  · refine ⟨r, Ev.step (fun k => by rw [astrolaberef17_Right.l0, if_pos (by omega), if_pos (by omega), if_pos c1, wrap_up (by omega) (by omega), Int.natCast_succ]) hr, fun hb => ⟨fun i h1 h2 => ?_, (hrr hb).2⟩⟩
    by_cases hij : i = j
    · subst hij; exact .inl c1
    · exact (hrr hb).1 i (by omega) h2
  by_cases c2 : rd a (j : Int) = 2
  · refine ⟨r, Ev.step (fun k => by rw [astrolaberef17_Right.l0, if_pos (by omega), if_pos (by omega), if_neg c1, if_pos c2, wrap_up (by omega) (by omega), Int.natCast_succ]) hr, fun hb => ⟨fun i h1 h2 => ?_, (hrr hb).2⟩⟩
    by_cases hij : i = j
    · subst hij; exact .inr c2
    · exact (hrr hb).1 i (by omega) h2
  · exact ⟨false, Ev.step (f := fun _ => some false) (fun k => by rw [astrolaberef17_Right.l0, if_pos (by omega), if_pos (by omega), if_neg c1, if_neg c2]) (Ev.now _), fun hb => by cases hb⟩
theorem right_some (ha2 : (a.length : Int) ≤ 140737488351232) (hb2 : (b.length : Int) ≤ 140737488351232) : ∃ r : Bool, Ev (fun k => astrolaberef17_Right.f k a b c d x y e f g h) r ∧ (r = true → Kinds a 0 ∧ Kinds b 0 ∧ Banks a b c d x y ∧ Short e f g h 0 ∧ From a b c d x e f g h 0) := by
 obtain ⟨r, hr, hrr⟩ := right_l0 a b c d x y e f g h hlen ha2 hb2 a.length 0 (by omega)
 exact ⟨r, Ev.congr (fun k => by rw [astrolaberef17_Right.f]; rfl) hr, hrr⟩
end
theorem no_kind {l : List Int} (h : Kinds l 0) : l.any kindB = false := by
 rw [Bool.eq_false_iff]
 intro hc
 obtain ⟨z, hz, hk⟩ := List.any_eq_true.1 hc
 obtain ⟨i, hi⟩ := List.getElem?_of_mem hz
 obtain ⟨hlt, he⟩ := List.getElem?_eq_some_iff.1 hi
 have := h i (by omega) hlt
 rw [rd, Int.toNat_natCast, List.getD_eq_getElem?_getD, hi, Option.getD_some] at this
 rcases this with rfl | rfl <;> simp [kindB] at hk
end Go.Proofs.YtgalkkolbobmbaaGreat.V


namespace Go.Proofs.YtgalkkolbobmbaaGreat.V
open Go.RowKit Go.Proofs.YtgalkkolbobmbaaGreatW.PrintWords
set_option linter.unusedVariables false
set_option linter.unusedSimpArgs false
theorem right_at {l0 l1 l2 l3 : List Int} {a4 a5 : Int} {l6 l7 l8 l9 : List S49} (h : rightO l0 l1 l2 l3 a4 a5 l6 l7 l8 l9 = true) (j : Nat) (hj : j < 4) (m : Nat) (hm : m < (four l6 l7 l8 l9 j).length) :
 rightB l0.length l1.length l2.length l3.length a4 (j : Int) (rd_T49 (four l6 l7 l8 l9 j) (m : Int)) (((four l6 l7 l8 l9 j).length : Int) - m - 1) = true := by
 unfold rightO at h
 simp only [Bool.and_eq_true, List.isEmpty_iff] at h
 have hw := h.2.2.2.2.2
 have hn : ¬ (((j : Int), (m : Int)) ∈ wrongPs (rightB l0.length l1.length l2.length l3.length a4) (four l6 l7 l8 l9) 4) := by rw [hw]; simp
 rw [wrongPs_mem] at hn
 cases hc : rightB l0.length l1.length l2.length l3.length a4 (j : Int) (rd_T49 (four l6 l7 l8 l9 j) (m : Int)) (((four l6 l7 l8 l9 j).length : Int) - m - 1) with
 | true => rfl
 | false => exact absurd ⟨j, m, hj, hm, rfl, hc⟩ hn
theorem rIf_ge {b : Bool} {n out : Int} (hn : b = true → 0 ≤ n ∧ n < 4000) : out ≤ rIf b n out ∧ (b = true → n < rIf b n out) := by
 unfold rIf
 by_cases h : b = true ∧ out ≤ n
 · rw [if_pos h]
   have := hn h.1
   rw [wrap_in (by omega) (by omega)]
   exact ⟨by omega, fun _ => by omega⟩
 · rw [if_neg h]
   refine ⟨Int.le_refl _, fun hb => ?_⟩
   have : ¬ out ≤ n := fun hc => h ⟨hb, hc⟩
   omega
/-- An instruction whose registers may be. -/
def Fld (x : S49) : Prop := (1 ≤ x.f0 ∧ x.f0 ≤ 22) ∧ (isD x.f0 = true → 0 ≤ x.f1 ∧ x.f1 < 4000) ∧ (isA x.f0 = true → 0 ≤ x.f2 ∧ x.f2 < 4000) ∧ (isB x.f0 = true → 0 ≤ x.f3 ∧ x.f3 < 4000) ∧ (isC x.f0 = true → 0 ≤ x.f4 ∧ x.f4 < 4000)
theorem field_in {n many : Int} {b : Bool} (h : fieldB n b many = true) : b = true → 0 ≤ n ∧ n < 4000 := by
 intro hb
 rw [fieldB, if_pos hb] at h
 exact fB h
theorem right_fld {n0 n1 n2 n3 : Nat} {cross piece : Int} {x : S49} {behind : Int} (h : rightB n0 n1 n2 n3 cross piece x behind = true) : Fld x := by
 unfold rightB at h
 simp only [Bool.and_eq_true] at h
 refine ⟨?_, field_in h.2.1, field_in h.2.2.1, field_in h.2.2.2.1, field_in h.2.2.2.2⟩
 have hh := h.1.1
 by_cases h5 : x.f0 = 5 ∨ x.f0 = 19 ∨ x.f0 = 21 ∨ x.f0 = 22
 · omega
 · by_cases h20 : x.f0 = 20
   · omega
   · rw [hereB, if_neg h5, if_neg h20] at hh
     simpa using hh
theorem regStep_ge {x : S49} {out : Int} (h : Fld x) : out ≤ regStep out x ∧ (isD x.f0 = true → x.f1 < regStep out x) := by
 obtain ⟨h0, h1, h2, h3, h4⟩ := h
 unfold regStep
 rw [if_neg (by omega)]
 have e1 := rIf_ge (out := out) h1
 have e2 := rIf_ge (out := rIf (isD x.f0) x.f1 out) h2
 have e3 := rIf_ge (out := rIf (isA x.f0) x.f2 (rIf (isD x.f0) x.f1 out)) h3
 have e4 := rIf_ge (out := rIf (isB x.f0) x.f3 (rIf (isA x.f0) x.f2 (rIf (isD x.f0) x.f1 out))) h4
 exact ⟨by omega, fun hb => by have := e1.2 hb; omega⟩
theorem fold_ge : ∀ (l : List S49) (out : Int), (∀ x ∈ l, Fld x) → out ≤ l.foldl regStep out ∧ ∀ x ∈ l, isD x.f0 = true → x.f1 < l.foldl regStep out
 | [], out, _ => ⟨Int.le_refl _, fun _ hx => by cases hx⟩
 | x :: l, out, h => by
  have h1 := regStep_ge (out := out) (h x (by simp))
  have h2 := fold_ge l (regStep out x) (fun y hy => h y (by simp [hy]))
  refine ⟨Int.le_trans h1.1 h2.1, fun y hy hb => ?_⟩
  rcases List.mem_cons.1 hy with rfl | hy
  · exact Int.lt_of_lt_of_le (h1.2 hb) h2.1
  · exact h2.2 y hy hb
theorem regsTo_ge (ps : Nat → List S49) : ∀ (k j : Nat), j < k → (ps j).foldl regStep 0 ≤ regsTo ps k
 | 0, j, h => absurd h (by omega)
 | k + 1, j, h => by
  rw [regsTo]
  rcases Nat.lt_succ_iff_lt_or_eq.1 h with h | rfl
  · have := regsTo_ge ps k j h
    split <;> omega
  · split <;> omega
theorem regsTo_le (ps : Nat → List S49) (M : Int) (h0 : 0 ≤ M) : ∀ k : Nat, (∀ j, j < k → (ps j).foldl regStep 0 ≤ M) → regsTo ps k ≤ M
 | 0, _ => by rw [regsTo]; exact h0
 | k + 1, h => by
  have h1 := h k (by omega)
  have h2 := regsTo_le ps M h0 k (fun j hj => h j (by omega))
  rw [regsTo]
  split <;> omega
/-- The machine's registers: how many, and that all that instructions write are among them. -/
theorem regs_ready {l0 l1 l2 l3 : List Int} {a4 a5 : Int} {l6 l7 l8 l9 : List S49} (h : rightO l0 l1 l2 l3 a4 a5 l6 l7 l8 l9 = true) :
 ∃ nr : Nat, (if regsTo (four l6 l7 l8 l9) 4 < 1 then 1 else regsTo (four l6 l7 l8 l9) 4) = (nr : Int) ∧ 0 < nr ∧ nr ≤ 4000 ∧
  ∀ j, j < 4 → ∀ m : Nat, m < (four l6 l7 l8 l9 j).length → isD (rd_T49 (four l6 l7 l8 l9 j) (m : Int)).f0 = true → (rd_T49 (four l6 l7 l8 l9 j) (m : Int)).f1 < (nr : Int) := by
 have hle := regsTo_le (four l6 l7 l8 l9) 4000 (by omega) 4 (fun j hj => (right_regs h j hj).2)
 refine ⟨(if regsTo (four l6 l7 l8 l9) 4 < 1 then 1 else regsTo (four l6 l7 l8 l9) 4).toNat, by split <;> omega, by split <;> omega, by split <;> omega, fun j hj m hm hb => ?_⟩
 have h1 := regsTo_ge (four l6 l7 l8 l9) 4 j hj
 have h2 := (fold_ge (four l6 l7 l8 l9 j) 0 (fun x hx => by
  obtain ⟨i, hi⟩ := List.getElem?_of_mem hx
  obtain ⟨hlt, he⟩ := List.getElem?_eq_some_iff.1 hi
  have := right_fld (right_at h j hj i hlt)
  rw [rdT_mem hlt, he] at this
  exact this)).2 (rd_T49 (four l6 l7 l8 l9 j) (m : Int)) (by rw [rdT_mem hm]; exact List.getElem_mem hm) hb
 split <;> omega
/-- The document's Right is verify.Right's. -/
theorem ref_right {a b c d : List Int} {x y : Int} {e f g h : List S49} (hlen : ∀ j, j < 4 → ((four e f g h j).length : Int) ≤ 140737488351232) (ha2 : (a.length : Int) ≤ 140737488351232) (hb2 : (b.length : Int) ≤ 140737488351232) :
 ∃ r : Bool, Ev (fun k => astrolaberef17_Right.f k a b c d x y e f g h) r ∧ (r = true → rightO a b c d x y e f g h = true) := by
 obtain ⟨r, hr, hi⟩ := right_some a b c d x y e f g h hlen ha2 hb2
 refine ⟨r, hr, fun hT => ?_⟩
 obtain ⟨k1, k2, ⟨⟨q1, q2, q3, q4⟩, q5, q6, q7, q8⟩, hS, hF⟩ := hi hT
 have s0 := hS 0 (by omega) (by omega)
 have s1 := hS 1 (by omega) (by omega)
 have s2 := hS 2 (by omega) (by omega)
 have s3 := hS 3 (by omega) (by omega)
 have hw : wrongPs (rightB a.length b.length c.length d.length x) (four e f g h) 4 = [] := by
  rw [List.eq_nil_iff_forall_not_mem]
  intro z hz
  rw [wrongPs_mem] at hz
  obtain ⟨j, m, hj, hm, -, hc⟩ := hz
  rw [hF j (by omega) hj m hm] at hc
  cases hc
 unfold rightO
 rw [no_kind k1, no_kind k2, hw]
 simp only [four] at s0 s1 s2 s3
 simp only [Bool.not_false, Bool.true_and, Bool.and_eq_true, belowB, banksB, longB, decide_eq_true_eq, List.isEmpty_nil, and_true]
 omega
end Go.Proofs.YtgalkkolbobmbaaGreat.V


namespace Go.Proofs.YtgalkkolbobmbaaGreat.Rds
open Go.RowKit Go.Proofs.YtgalkkolbobmbaaGreatW.PrintWords Go.ChangeShapes Go.WideShapes
set_option linter.unusedVariables false

/-- What is read of type t is a value of kind d, of which G holds. -/
structure Rd (P : Program) (t : TypeId) {α : Type} (d : Kd α) (G : α → Prop) : Prop where
 out : ∀ {H : Type} {enc : TypeId × Value → H} {W : World} {base : Nat} {spare : Nat → Bool} {held : Bool} {fuel : Nat} {cs : List Value} {x : DataW H × List MemPlace},
  DataW.trod enc P W base spare held fuel t cs = some x → ((x.1.weights P t).all (· ≤ reachBytes) = true) → ∃ y : α, d.K W y cs ∧ G y
theorem Rd.int {P : Program} {t : TypeId} {k : IntKind} (ht : P.underlying t = some (.int k)) : Rd P t (Kd.int k) (fun n => (Lit.int k n).wf = true) := by
 constructor
 intro H enc W base spare held fuel cs x h hw
 obtain ⟨n, rfl, rfl, hn⟩ := DataW.trod_int ht h
 exact ⟨n, rfl, hn⟩
theorem Rd.bool {P : Program} {t : TypeId} (ht : P.underlying t = some .bool) : Rd P t Kd.bool (fun _ => True) := by
 constructor
 intro H enc W base spare held fuel cs x h hw
 obtain ⟨b, rfl, rfl⟩ := DataW.trod_bool ht h
 exact ⟨b, rfl, trivial⟩
theorem Rd.string {P : Program} {t : TypeId} (ht : P.underlying t = some .string) : Rd P t Kd.string (fun s => s.size ≤ 140737488351232) := by
 constructor
 intro H enc W base spare held fuel cs x h hw
 obtain ⟨s, rfl, rfl, hs⟩ := DataW.trod_string ht h
 refine ⟨s, rfl, ?_⟩
 have h2 : s.size ≤ reachBytes := by simpa [DataW.weights] using hw
 exact h2
theorem weightsAll_mem {H : Type} {P : Program} {e : TypeId} {l : List (DataW H)} {d : DataW H} (hd : d ∈ l) {n : Nat} (hn : n ∈ d.weights P e) : n ∈ DataW.weightsAll P e l := by
 induction l with
 | nil => cases hd
 | cons a l ih =>
  simp only [DataW.weightsAll, List.mem_append]
  rcases List.mem_cons.1 hd with rfl | hd
  · exact .inl hn
  · exact .inr (ih hd)
theorem weightsEach_at {H : Type} {P : Program} : ∀ {ts : List TypeId} {ds : List (DataW H)} {j : Nat} {t : TypeId} {d : DataW H}, ts[j]? = some t → ds[j]? = some d → (DataW.weightsEach P ts ds).all (· ≤ reachBytes) = true → (d.weights P t).all (· ≤ reachBytes) = true
 | [], _, _, _, _, h, _, _ => by simp at h
 | _ :: _, [], _, _, _, _, h, _ => by simp at h
 | a :: ts, b :: ds, 0, t, d, h1, h2, h => by
  simp at h1 h2
  subst h1; subst h2
  simp only [DataW.weightsEach, List.all_append, Bool.and_eq_true] at h
  exact h.1
 | a :: ts, b :: ds, j + 1, t, d, h1, h2, h => by
  simp only [DataW.weightsEach, List.all_append, Bool.and_eq_true] at h
  exact weightsEach_at (j := j) (by simpa using h1) (by simpa using h2) h.2
theorem list_pick {α : Type} {p : Nat → α → Prop} : ∀ n : Nat, (∀ i, i < n → ∃ y, p i y) → ∃ ys : List α, ys.length = n ∧ ∀ i y, ys[i]? = some y → p i y
 | 0, _ => ⟨[], rfl, fun i y h => by simp at h⟩
 | n + 1, h => by
  obtain ⟨ys, hl, hy⟩ := list_pick n (fun i hi => h i (by omega))
  obtain ⟨y, hp⟩ := h n (by omega)
  refine ⟨ys ++ [y], by simp [hl], fun i z hz => ?_⟩
  by_cases hi : i < n
  · rw [List.getElem?_append_left (by omega)] at hz
    exact hy i z hz
  · have : i < (ys ++ [y]).length := (List.getElem?_eq_some_iff.1 hz).1
    have hin : i = n := by simp at this; omega
    subst hin
    rw [List.getElem?_append_right (by omega), hl] at hz
    simp at hz
    subst hz
    exact hp
theorem Rd.slice {P : Program} {t e : TypeId} {α : Type} {d : Kd α} {G : α → Prop} {B : Nat} (ht : P.underlying t = some (.slice e)) (hs : P.cellsOf e = d.sz) (hB : P.bytesOf e = B) (hd : Rd P e d G) :
 Rd P t (Kd.slice e d) (fun xs => xs.length * B ≤ 140737488351232 ∧ xs.length ≤ 9223372036854775807 ∧ ∀ x ∈ xs, G x) := by
 constructor
 intro H enc W base spare held fuel cs x h hw
 rcases DataW.trod_slice ht h with ⟨rfl, rfl⟩ | ⟨a, len, cap, elems, rest, n, rfl, rfl, rfl, hb, hl, hm, hlen, hel, _, _⟩
 · exact ⟨[], ⟨none, 0, rfl, Nat.le_refl _, rfl, by simp, fun h0 => absurd h0 (by simp)⟩, by simp, by simp, by simp⟩
 · simp only [DataW.weights, ht, List.all_cons, List.all_append, Bool.and_eq_true, decide_eq_true_eq, List.length_map] at hw
   obtain ⟨hw1, hw2, _⟩ := hw
   have hmx : maxLen ≤ 9223372036854775807 := by decide
   have each : ∀ i, i < len → ∃ y : α, ∃ c : List Value, d.K W y c ∧ G y ∧ c.length = d.sz ∧ ∀ j u, c[j]? = some u → W.cell? (a.add (i * d.sz + j)) = some u := by
    intro i hi
    have h1 := hel i hi
    have hi' : i < elems.length := by omega
    rw [List.getElem?_eq_getElem hi', Option.bind_eq_some_iff] at h1
    obtain ⟨c, hc, hy⟩ := h1
    obtain ⟨_, hcl, hcell⟩ := World.cells?_some hc
    obtain ⟨y, hK, hG⟩ := hd.out hy (by
     rw [List.all_eq_true] at hw2 ⊢
     exact fun q hq => hw2 q (weightsAll_mem (d := (elems[i]).1) (List.mem_map.2 ⟨elems[i], List.getElem_mem hi', rfl⟩) hq))
    refine ⟨y, c, hK, hG, by rw [hcl, hs], fun j u hj => ?_⟩
    have hj' : j < c.length := (List.getElem?_eq_some_iff.1 hj).1
    have := hcell j (by omega)
    rw [hj, hs] at this
    rw [← this, Addr.add_add]
   obtain ⟨ys, hyl, hy⟩ := list_pick (p := fun i y => ∃ c : List Value, d.K W y c ∧ G y ∧ c.length = d.sz ∧ ∀ j u, c[j]? = some u → W.cell? (a.add (i * d.sz + j)) = some u) len each
   have hln : (len + rest.length) * B ≤ 140737488351232 := by rw [← hB, ← hlen]; exact hw1
   refine ⟨ys, ⟨some a, cap, by rw [hyl], by omega, rfl, by omega, fun _ => ⟨a, rfl, fun j p hp => ?_⟩⟩, ?_, by omega, fun x hx => ?_⟩
   · obtain ⟨c, h1, _, h2, h3⟩ := hy j p hp
     exact ⟨c, h2, h1, h3⟩
   · rw [hyl]
     exact Nat.le_trans (Nat.mul_le_mul_right _ (by omega)) hln
   · obtain ⟨i, hi⟩ := List.getElem?_of_mem hx
     obtain ⟨_, _, h2, _⟩ := hy i x hi
     exact h2
/-- The fields of a struct from some offset on. -/
structure RdF (P : Program) (fs : List Field) (off : Nat) {α : Type} (d : Kd α) (G : α → Prop) : Prop where
 out : ∀ {H : Type} {enc : TypeId × Value → H} {W : World} {base : Nat} {spare : Nat → Bool} {held : Bool} {n : Nat} {cs : List Value} {xs : List (DataW H × List MemPlace)},
  cs.length = off + d.sz → xs.length = fs.length → (∀ (i : Nat) (f : Field), fs[i]? = some f → DataW.trod enc P W base spare held n f.type ((cs.drop f.offset).take (P.cellsOf f.type)) = xs[i]?) →
  ((DataW.weightsEach P (fs.map (·.type)) (xs.map (·.1))).all (· ≤ reachBytes) = true) → ∃ y : α, d.K W y (cs.drop off) ∧ G y
theorem RdF.one {P : Program} {f : Field} {off : Nat} {α : Type} {d : Kd α} {G : α → Prop} (ho : f.offset = off) (hs : P.cellsOf f.type = d.sz) (hd : Rd P f.type d G) : RdF P [f] off d G := by
 constructor
 intro H enc W base spare held n cs xs hl hx hf hw
 have h0 := hf 0 f rfl
 rw [ho, hs, List.take_of_length_le (by rw [List.length_drop]; omega)] at h0
 match xs, hx with
 | [x], _ =>
  simp only [List.map_cons, List.map_nil, DataW.weightsEach, List.append_nil] at hw
  exact hd.out h0 hw
theorem RdF.cons {P : Program} {f : Field} {fs : List Field} {off : Nat} {α β : Type} {d : Kd α} {b : Kd β} {G : α → Prop} {G2 : β → Prop} (ho : f.offset = off) (hs : P.cellsOf f.type = d.sz) (hd : Rd P f.type d G) (hb : RdF P fs (off + d.sz) b G2) :
 RdF P (f :: fs) off (Kd.pair d b) (fun y => G y.1 ∧ G2 y.2) := by
 constructor
 intro H enc W base spare held n cs xs hl hx hf hw
 have hl' : cs.length = off + (d.sz + b.sz) := hl
 match xs, hx with
 | x :: xs, hx =>
  simp only [List.map_cons, DataW.weightsEach, List.all_append, Bool.and_eq_true] at hw
  obtain ⟨y, hy, hG⟩ := hd.out (by have h0 := hf 0 f rfl; rw [ho, hs] at h0; exact h0) hw.1
  obtain ⟨z, hz, hG2⟩ := hb.out (cs := cs) (xs := xs) (by omega) (by simpa using hx) (fun i g hg => by have := hf (i + 1) g (by simpa using hg); simpa using this) hw.2
  refine ⟨(y, z), ⟨_, _, ?_, hy, hz⟩, hG, hG2⟩
  rw [← List.drop_drop, List.take_append_drop]
theorem Rd.struct {P : Program} {t : TypeId} {fs : Array Field} {α : Type} {d : Kd α} {G : α → Prop} (ht : P.underlying t = some (.struct fs)) (hs : P.cellsOf t = d.sz) (hd : RdF P fs.toList 0 d G) : Rd P t d G := by
 constructor
 intro H enc W base spare held fuel cs x h hw
 obtain ⟨xs, n, rfl, rfl, hl, hx, hf⟩ := DataW.trod_struct ht h
 simp only [DataW.weights, ht] at hw
 exact hd.out (by omega) (by simpa using hx) (fun i f hi => hf i f (by simpa using hi)) hw
theorem Rd.iso {P : Program} {t : TypeId} {α β : Type} {d : Kd α} {G : α → Prop} (f : β → α) (g : α → β) (hfg : ∀ y, f (g y) = y) (hd : Rd P t d G) : Rd P t (Kd.iso d f) (fun x => G (f x)) := by
 constructor
 intro H enc W base spare held fuel cs x h hw
 obtain ⟨y, hy, hG⟩ := hd.out h hw
 refine ⟨g y, ?_, ?_⟩
 · show d.K W (f (g y)) cs
   rw [hfg]; exact hy
 · show G (f (g y))
   rw [hfg]; exact hG
theorem Rd.imp {P : Program} {t : TypeId} {α : Type} {d : Kd α} {G G2 : α → Prop} (h : Rd P t d G) (hi : ∀ x, G x → G2 x) : Rd P t d G2 := by
 constructor
 intro H enc W base spare held fuel cs x hx hw
 obtain ⟨y, hy, hG⟩ := h.out hx hw
 exact ⟨y, hy, hi y hG⟩
/-- A value of more cells than one is an aggregate of them. -/
theorem agg_of {v : Value} {cs : List Value} (h : v.cells.toList = cs) (hl : 2 ≤ cs.length) : v = .agg cs.toArray := by
 cases v <;> (try (simp [Value.cells] at h; subst h; simp at hl; done))
 all_goals (simp only [Value.cells] at h; subst h; simp)
end Go.Proofs.YtgalkkolbobmbaaGreat.Rds


namespace Go.Proofs.YtgalkkolbobmbaaGreat.V
open Go.RowKit Go.Proofs.YtgalkkolbobmbaaGreatW.PrintWords Go.Proofs.YtgalkkolbobmbaaGreat.Rds
def G49 (x : S49) : Prop := ((Lit.int .i64 x.f0).wf = true) ∧ ((Lit.int .i64 x.f1).wf = true) ∧ ((Lit.int .i64 x.f2).wf = true) ∧ ((Lit.int .i64 x.f3).wf = true) ∧ ((Lit.int .i64 x.f4).wf = true) ∧ ((Lit.int .i64 x.f5).wf = true)
theorem rd49 : Rd Tryz.prog 49 k49 G49 := Rd.imp (Rd.iso (fun x : S49 => (x.f0, x.f1, x.f2, x.f3, x.f4, x.f5)) (fun y => (⟨y.1, y.2.1, y.2.2.1, y.2.2.2.1, y.2.2.2.2.1, y.2.2.2.2.2⟩ : S49)) (fun _ => rfl) (Rd.struct Tryz.underlying49 (by kernel_rfl) (RdF.cons rfl (by kernel_rfl) (Rd.int Tryz.underlying3) (RdF.cons rfl (by kernel_rfl) (Rd.int Tryz.underlying3) (RdF.cons rfl (by kernel_rfl) (Rd.int Tryz.underlying3) (RdF.cons rfl (by kernel_rfl) (Rd.int Tryz.underlying3) (RdF.cons rfl (by kernel_rfl) (Rd.int Tryz.underlying3) (RdF.one rfl (by kernel_rfl) (Rd.int Tryz.underlying2))))))))) (fun x h => h)
def G26 (x : S26) : Prop := ((x.f0.length * 8 ≤ 140737488351232 ∧ x.f0.length ≤ 9223372036854775807 ∧ ∀ x0 ∈ x.f0, (Lit.int .i64 x0).wf = true)) ∧ ((x.f1.length * 8 ≤ 140737488351232 ∧ x.f1.length ≤ 9223372036854775807 ∧ ∀ x0 ∈ x.f1, (Lit.int .i64 x0).wf = true)) ∧ ((x.f2.length * 8 ≤ 140737488351232 ∧ x.f2.length ≤ 9223372036854775807 ∧ ∀ x0 ∈ x.f2, (Lit.int .i64 x0).wf = true)) ∧ ((x.f3.length * 8 ≤ 140737488351232 ∧ x.f3.length ≤ 9223372036854775807 ∧ ∀ x0 ∈ x.f3, (Lit.int .i64 x0).wf = true)) ∧ ((Lit.int .i64 x.f4).wf = true) ∧ ((Lit.int .i64 x.f5).wf = true) ∧ ((x.f6.length * 48 ≤ 140737488351232 ∧ x.f6.length ≤ 9223372036854775807 ∧ ∀ x0 ∈ x.f6, G49 x0)) ∧ ((x.f7.length * 48 ≤ 140737488351232 ∧ x.f7.length ≤ 9223372036854775807 ∧ ∀ x0 ∈ x.f7, G49 x0)) ∧ ((x.f8.length * 48 ≤ 140737488351232 ∧ x.f8.length ≤ 9223372036854775807 ∧ ∀ x0 ∈ x.f8, G49 x0)) ∧ ((x.f9.length * 48 ≤ 140737488351232 ∧ x.f9.length ≤ 9223372036854775807 ∧ ∀ x0 ∈ x.f9, G49 x0))
theorem rd26 : Rd Tryz.prog 26 k26 G26 := Rd.imp (Rd.iso (fun x : S26 => (x.f0, x.f1, x.f2, x.f3, x.f4, x.f5, x.f6, x.f7, x.f8, x.f9)) (fun y => (⟨y.1, y.2.1, y.2.2.1, y.2.2.2.1, y.2.2.2.2.1, y.2.2.2.2.2.1, y.2.2.2.2.2.2.1, y.2.2.2.2.2.2.2.1, y.2.2.2.2.2.2.2.2.1, y.2.2.2.2.2.2.2.2.2⟩ : S26)) (fun _ => rfl) (Rd.struct Tryz.underlying26 (by kernel_rfl) (RdF.cons rfl (by kernel_rfl) (Rd.slice (B := 8) Tryz.underlying22 (by kernel_rfl) (by kernel_rfl) (Rd.int Tryz.underlying3)) (RdF.cons rfl (by kernel_rfl) (Rd.slice (B := 8) Tryz.underlying22 (by kernel_rfl) (by kernel_rfl) (Rd.int Tryz.underlying3)) (RdF.cons rfl (by kernel_rfl) (Rd.slice (B := 8) Tryz.underlying23 (by kernel_rfl) (by kernel_rfl) (Rd.int Tryz.underlying2)) (RdF.cons rfl (by kernel_rfl) (Rd.slice (B := 8) Tryz.underlying23 (by kernel_rfl) (by kernel_rfl) (Rd.int Tryz.underlying2)) (RdF.cons rfl (by kernel_rfl) (Rd.int Tryz.underlying3) (RdF.cons rfl (by kernel_rfl) (Rd.int Tryz.underlying3) (RdF.cons rfl (by kernel_rfl) (Rd.slice (B := 48) Tryz.underlying24 (by kernel_rfl) (by kernel_rfl) rd49) (RdF.cons rfl (by kernel_rfl) (Rd.slice (B := 48) Tryz.underlying24 (by kernel_rfl) (by kernel_rfl) rd49) (RdF.cons rfl (by kernel_rfl) (Rd.slice (B := 48) Tryz.underlying24 (by kernel_rfl) (by kernel_rfl) rd49) (RdF.one rfl (by kernel_rfl) (Rd.slice (B := 48) Tryz.underlying24 (by kernel_rfl) (by kernel_rfl) rd49))))))))))))) (fun x h => h)
end Go.Proofs.YtgalkkolbobmbaaGreat.V


namespace Go.Proofs.YtgalkkolbobmbaaGreat.V
open Go.RowKit Go.Proofs.YtgalkkolbobmbaaGreatW.PrintWords Go.Proofs.YtgalkkolbobmbaaGreatW.PrintLast Go.Proofs.YtgalkkolbobmbaaGreatW.PrintMore
set_option linter.unusedVariables false
set_option linter.unusedSimpArgs false
/-- A sum of flags at block S. -/
def FlagAt (S : Nat) (fl : Int) (w : World) : Prop := w.heap[S]? = some (.cells #[.int .i64 fl] 124 (0, 0))

theorem ne_type {w : World} {S B t : Nat} {x y : Array Value} (hS : w.heap[S]? = some (.cells x 124 (0, 0))) (hB : w.heap[B]? = some (.cells y t (0, 0))) (ht : t ≠ 124) : B ≠ S := fun e => by
 subst e
 rw [hS] at hB
 injection hB with hB
 injection hB with _ hB
 exact ht hB.symm
/-- Where along's closure is called. -/
structure AlW (S b0 b1 b2 b3 : Nat) (As Ak : Option Addr) (cs ck : Nat) (st sl : List Int) (h fl : Int) (W : World) : Prop where
 fs : FlagAt S fl W
 h0 : W.heap[b0]? = some (.cells #[.pointer (some ⟨S, 0, none⟩)] 209 (0, 0))
 h1 : W.heap[b1]? = some (.cells #[.slice As st.length cs] 23 (0, 0))
 h2 : W.heap[b2]? = some (.cells #[.int .i64 h] 2 (0, 0))
 h3 : W.heap[b3]? = some (.cells #[.slice Ak sl.length ck] 23 (0, 0))
 s : LI S W As st
 k : LI S W Ak sl
theorem AlW.chg {S b0 b1 b2 b3 : Nat} {As Ak : Option Addr} {cs ck : Nat} {st sl : List Int} {h fl fl' : Int} {W W' : World} (H : AlW S b0 b1 b2 b3 As Ak cs ck st sl h fl W) (hc : Chg (fun k => k = S) W W') (hf : FlagAt S fl' W') : AlW S b0 b1 b2 b3 As Ak cs ck st sl h fl' W' :=
 ⟨hf, (hc.block _ (lt_of_block H.h0) (ne_type H.fs H.h0 (by decide))).trans H.h0, (hc.block _ (lt_of_block H.h1) (ne_type H.fs H.h1 (by decide))).trans H.h1, (hc.block _ (lt_of_block H.h2) (ne_type H.fs H.h2 (by decide))).trans H.h2, (hc.block _ (lt_of_block H.h3) (ne_type H.fs H.h3 (by decide))).trans H.h3, H.s.chg hc, H.k.chg hc⟩
theorem AlW.below {S b0 b1 b2 b3 : Nat} {As Ak : Option Addr} {cs ck : Nat} {st sl : List Int} {h fl : Int} {W W' : World} (H : AlW S b0 b1 b2 b3 As Ak cs ck st sl h fl W) (hb : Below W.heap.size W W') : AlW S b0 b1 b2 b3 As Ak cs ck st sl h fl W' :=
 H.chg (Chg.of_below hb _) ((hb.block _ (lt_of_block H.fs)).trans H.fs)
/-- Where the mean's closure is called. -/
structure MnW (S b1 b2 : Nat) (A1 A2 : Option Addr) (c1 c2 : Nat) (k1 k2 : List Int) (fl : Int) (W : World) : Prop where
 fs : FlagAt S fl W
 h1 : W.heap[b1]? = some (.cells #[.slice A1 k1.length c1] 23 (0, 0))
 h2 : W.heap[b2]? = some (.cells #[.slice A2 k2.length c2] 23 (0, 0))
 s1 : LI S W A1 k1
 s2 : LI S W A2 k2
theorem MnW.chg {S b1 b2 : Nat} {A1 A2 : Option Addr} {c1 c2 : Nat} {k1 k2 : List Int} {fl fl' : Int} {W W' : World} (H : MnW S b1 b2 A1 A2 c1 c2 k1 k2 fl W) (hc : Chg (fun k => k = S) W W') (hf : FlagAt S fl' W') : MnW S b1 b2 A1 A2 c1 c2 k1 k2 fl' W' :=
 ⟨hf, (hc.block _ (lt_of_block H.h1) (ne_type H.fs H.h1 (by decide))).trans H.h1, (hc.block _ (lt_of_block H.h2) (ne_type H.fs H.h2 (by decide))).trans H.h2, H.s1.chg hc, H.s2.chg hc⟩
theorem MnW.below {S b1 b2 : Nat} {A1 A2 : Option Addr} {c1 c2 : Nat} {k1 k2 : List Int} {fl : Int} {W W' : World} (H : MnW S b1 b2 A1 A2 c1 c2 k1 k2 fl W) (hb : Below W.heap.size W W') : MnW S b1 b2 A1 A2 c1 c2 k1 k2 fl W' :=
 H.chg (Chg.of_below hb _) ((hb.block _ (lt_of_block H.fs)).trans H.fs)

theorem fits_yes {n Bm : Nat} {cs : Array Value} {v0 v1 v2 v3 v6 v7 v8 v9 : Value} {l0 l1 l2 l3 : List Int} {a4 a5 : Int} {l6 l7 l8 l9 : List S49} {dn : Int} {w : World} (h : Mach n Bm cs v0 v1 v2 v3 v6 v7 v8 v9 l0 l1 l2 l3 a4 a5 l6 l7 l8 l9 dn w) (Ai As Am : Option Addr) (ni ns nm ci cs' cm : Nat) (hf : ni = l0.length ∧ ns = l2.length ∧ nm = l3.length) :
 Calls Tryz.prog 69 #[.pointer (some ⟨Bm, 0, none⟩), .slice Ai ni ci, .slice As ns cs', .slice Am nm cm] w fun e w' => e = .returned (.int .i64 0) ∧ w' = w :=
 (fits_any h Ai As Am ni ns nm ci cs' cm).mono fun e w' hh => by rw [if_pos hf] at hh; exact hh
theorem fits_no {n Bm : Nat} {cs : Array Value} {v0 v1 v2 v3 v6 v7 v8 v9 : Value} {l0 l1 l2 l3 : List Int} {a4 a5 : Int} {l6 l7 l8 l9 : List S49} {dn : Int} {w : World} (h : Mach n Bm cs v0 v1 v2 v3 v6 v7 v8 v9 l0 l1 l2 l3 a4 a5 l6 l7 l8 l9 dn w) (Ai As Am : Option Addr) (ni ns nm ci cs' cm : Nat) (hf : ¬ (ni = l0.length ∧ ns = l2.length ∧ nm = l3.length)) :
 Calls Tryz.prog 69 #[.pointer (some ⟨Bm, 0, none⟩), .slice Ai ni ci, .slice As ns cs', .slice Am nm cm] w fun e w' => e = .returned (.int .i64 13) ∧ w' = w :=
 (fits_any h Ai As Am ni ns nm ci cs' cm).mono fun e w' hh => by rw [if_neg hf] at hh; exact hh
set_option maxHeartbeats 1000000 in
set_option maxRecDepth 100000 in
theorem done_any {n Bm : Nat} {cs : Array Value} {v0 v1 v2 v3 v6 v7 v8 v9 : Value} {l0 l1 l2 l3 : List Int} {a4 a5 : Int} {l6 l7 l8 l9 : List S49} {dn : Int} {w : World} (h : Mach n Bm cs v0 v1 v2 v3 v6 v7 v8 v9 l0 l1 l2 l3 a4 a5 l6 l7 l8 l9 dn w) : Calls Tryz.prog 24 #[.pointer (some ⟨Bm, 0, none⟩)] w fun e w' => e = .returned (.int .i64 dn) ∧ w' = w := by
 have kd := h.done
 clear h
 go_enter Tryz.func24, Tryz.ntmps24
 go_wp2
 go_ret
 exact ⟨rfl, rfl⟩
def derivP_T : Bool × List (List Nat × List Nat) := (true, [([], []), ([], []), ([1], [1]), ([2], [2]), ([3], [3]), ([4], [4]), ([5], [5]), ([], []), ([7], [7]), ([8], [8]), ([9], [9]), ([10], [10]), ([11], [11]), ([12], [12]), ([], []), ([], []), ([], []), ([0, 6, 13, 14, 15, 16], [0, 6, 13, 14, 15, 16]), ([17], [17]), ([17], [17]), ([17], [17]), ([18, 17, 0, 1, 2, 3, 4, 5, 6, 7, 8, 9, 10, 11, 12, 13, 14, 15, 16, 17, 18, 19, 20], [18]), ([19, 21, 0, 1, 2, 3, 4, 5, 6, 7, 8, 9, 10, 11, 12, 13, 14, 15, 16, 17, 18, 19, 20, 21], [19]), ([20, 22, 0, 1, 2, 3, 4, 5, 6, 7, 8, 9, 10, 11, 12, 13, 14, 15, 16, 17, 18, 19, 20, 21, 22], [20])])
def derivP_B : List Nat := [0, 0, 2, 6, 14, 30, 62, 0, 128, 384, 896, 1920, 3968, 8064, 0, 0, 0, 131071, 262143, 262143, 262143, 2097151, 4194303, 8388607]
theorem derivP_tab : rtab .any (opsOf Tryz.f27 4) = derivP_T := by kernel_rfl
theorem derivP_bits : waitsOk derivP_T.2 derivP_B = true := by kernel_rfl
set_option maxHeartbeats 2000000 in
set_option maxRecDepth 100000 in
theorem deriv_any {n Bm : Nat} {cs : Array Value} {v0 v1 v2 v3 v6 v7 v8 v9 : Value} {l0 l1 l2 l3 : List Int} {a4 a5 : Int} {l6 l7 l8 l9 : List S49} {dn : Int} {w : World} (h : Mach n Bm cs v0 v1 v2 v3 v6 v7 v8 v9 l0 l1 l2 l3 a4 a5 l6 l7 l8 l9 dn w) (O : Int → Int → Int → Int → Option (Int × Int)) (hO : OpsFor cs O) (k nr : Nat) (Ai As Am : Option Addr) (ci cs' cm : Nat) (inn st mem : List Int)
 (hi : LI Bm w Ai inn) (hs : LI Bm w As st) (hm : LI Bm w Am mem) (hf : inn.length = l0.length ∧ st.length = l2.length ∧ mem.length = l3.length)
 (hmx : (if regsTo (four l6 l7 l8 l9) 4 < 1 then 1 else regsTo (four l6 l7 l8 l9) 4) = (nr : Int)) (hn0 : 0 < nr) (hn1 : nr ≤ 4000) (hmany : l2.length ≤ 100000) (s' : RS) (dn' : Int)
 (hr : runV O inn st mem [] l6 k 0 dn ⟨List.replicate nr 0, 0, List.replicate (l2.length) 0, [], []⟩ = some (s', dn')) :
 Calls Tryz.prog 27 #[.pointer (some ⟨Bm, 0, none⟩), .slice Ai inn.length ci, .slice As st.length cs', .slice Am mem.length cm] w fun e w' => ∃ v, e = .returned (.tuple #[v, .int .i64 s'.fl, .int .i64 0]) ∧ Kd.R (Kd.int .i64) 2 w' w.heap.size (fun k => k ≠ Bm) v s'.put ∧ Mach n Bm cs v0 v1 v2 v3 v6 v7 v8 v9 l0 l1 l2 l3 a4 a5 l6 l7 l8 l9 dn' w' ∧ Chg (fun k => k = Bm) w w' := by
 obtain ⟨AL, cl, hvL, hLc, hLC, hLn⟩ := R_list h.r6
 obtain ⟨BM, dM, hvM⟩ := Kd.R_slice h.r2
 subst hvL
 subst hvM
 have H := Aside0.mk h
 have HO := Aside0.mk hO
 have HL := Aside0.mk (And.intro hLC hLn)
 have HI := Aside0.mk hi
 have HS := Aside0.mk hs
 have HM := Aside0.mk hm
 have HR := Aside0.mk hr
 have HF := Aside0.mk hf
 clear h hO hLC hLn hLc hi hs hm hr hf
 go_enter Tryz.func27, Tryz.ntmps27
 go_wp2_with (go_at_call 69; refine (fits_yes H.out Ai As Am inn.length st.length mem.length ci cs' cm HF.out).mono ?_; rintro e w1 ⟨rfl, rfl⟩)
 have HD := Aside0.mk (H.out.below (below_drew1 (Below.refl _ _)))
 refine start_ (n := 24) (S := fun w' => w'.cell? ⟨Bm, 6, none⟩ = some (.slice AL l6.length cl) ∧ w'.cell? ⟨Bm, 2, none⟩ = some (.slice BM l2.length dM)) (ds := []) (Array.replicate 24 false) (by kernel_rfl) rfl rfl ⟨HD.out.cell (by decide) HD.out.o6, HD.out.cell (by decide) HD.out.o2⟩ (fun hHeld => ?_); refine with_tabW derivP_tab derivP_bits (fun HT_ HW_ => ?_)
 refine pu HT_ 0 20 rfl rfl (by kernel_rfl) (fun _ _ _ h => h) (by rfl) (by intro w'; go_simp; with_reducible rfl) (by simp only [Act.put, sA, sB, sC, i64_w, i32_w]; rfl) ?_
 refine pu HT_ 1 21 rfl rfl (by kernel_rfl) (fun _ _ _ h => h) (by rfl) (by intro w'; go_simp; with_reducible rfl) (by simp only [Act.put, sA, sB, sC, i64_w, i32_w]; rfl) ?_
 refine pu HT_ 2 22 rfl rfl (by kernel_rfl) (fun _ _ _ h => h) (by rfl) (by intro w'; go_simp; with_reducible rfl) (by simp only [Act.put, sA, sB, sC, i64_w, i32_w]; rfl) ?_
 refine pu HT_ 3 23 rfl rfl (by kernel_rfl) (fun _ _ _ h => h) (by rfl) (by intro w'; go_simp; with_reducible rfl) (by simp only [Act.put, sA, sB, sC, i64_w, i32_w]; rfl) ?_
 refine pu HT_ 4 24 rfl rfl (by kernel_rfl) (fun _ _ _ h => h) (by rfl) (by intro w'; go_simp; with_reducible rfl) (by simp only [Act.put, sA, sB, sC, i64_w, i32_w]; rfl) ?_
 refine pu HT_ 5 25 rfl rfl (by kernel_rfl) (fun _ _ _ h => h) (by rfl) (by intro w'; go_simp; with_reducible rfl) (by simp only [Act.put, sA, sB, sC, i64_w, i32_w]; rfl) ?_
 refine pu HT_ 7 27 rfl rfl (by kernel_rfl) (fun _ _ _ h => h) (by rfl) (by intro w'; go_simp; with_reducible rfl) (by simp only [Act.put, sA, sB, sC, i64_w, i32_w]; rfl) ?_
 refine pu HT_ 8 28 rfl rfl (by kernel_rfl) (fun _ _ _ h => h) (by rfl) (by intro w'; go_simp; with_reducible rfl) (by simp only [Act.put, sA, sB, sC, i64_w, i32_w]; rfl) ?_
 refine pu HT_ 9 29 rfl rfl (by kernel_rfl) (fun _ _ _ h => h) (by rfl) (by intro w'; go_simp; with_reducible rfl) (by simp only [Act.put, sA, sB, sC, i64_w, i32_w]; rfl) ?_
 refine pu HT_ 10 30 rfl rfl (by kernel_rfl) (fun _ _ _ h => h) (by rfl) (by intro w'; go_simp; with_reducible rfl) (by simp only [Act.put, sA, sB, sC, i64_w, i32_w]; rfl) ?_
 refine pu HT_ 11 31 rfl rfl (by kernel_rfl) (fun _ _ _ h => h) (by rfl) (by intro w'; go_simp; with_reducible rfl) (by simp only [Act.put, sA, sB, sC, i64_w, i32_w]; rfl) ?_
 refine pu HT_ 14 34 rfl rfl (by kernel_rfl) (fun _ _ _ h => h) (by rfl) (by intro w'; go_simp; with_reducible rfl) (by simp only [Act.put, sA, sB, sC, i64_w, i32_w]; rfl) ?_
 refine pu HT_ 15 35 rfl rfl (by kernel_rfl) (fun _ _ _ h => h) (by rfl) (by intro w'; go_simp; with_reducible rfl) (by simp only [Act.put, sA, sB, sC, i64_w, i32_w]; rfl) ?_
 refine pu HT_ 16 36 rfl rfl (by kernel_rfl) (fun _ _ _ h => h) (by rfl) (by intro w'; go_simp; with_reducible rfl) (by simp only [Act.put, sA, sB, sC, i64_w, i32_w]; rfl) ?_
 refine tk HT_ HW_ hHeld 6 26 rfl rfl (by kernel_rfl) (fun _ _ _ h => h) (by rfl) (by rintro w' ⟨s0, s1⟩; go_simp; with_reducible rfl) (by simp only [Act.put, sA, sB, sC, i64_w, i32_w]; rfl) ?_
 refine tk HT_ HW_ hHeld 12 32 rfl rfl (by kernel_rfl) (fun _ _ _ h => h) (by rfl) (by rintro w' ⟨s0, s1⟩; go_simp; with_reducible rfl) (by simp only [Act.put, sA, sB, sC, i64_w, i32_w]; rfl) ?_
 refine pu HT_ 13 33 rfl rfl (by kernel_rfl) (fun _ _ _ h => h) (by rfl) (by intro w'; go_simp; with_reducible rfl) (by simp only [Act.put, sA, sB, sC, i64_w, i32_w]; rfl) ?_
 refine on1 HT_ 17 (some 37) rfl rfl (by kernel_rfl) (by decide) (fun K hK => ?_)
 refine goes_ Tryz.func70 (by kernel_rfl) rfl #[.pointer (some ⟨Bm, 0, none⟩), .slice AL l6.length cl, .int .i64 ((l2.length : Nat) : Int), .slice Ai inn.length ci, .slice As st.length cs', .slice Am mem.length cm] (by rfl) rfl rfl (by (try simp only [List.map_toArray, List.map_cons, List.map_nil]); first | done | rfl) ?_
 refine (made_any HD.out O HO.out k nr (l2.length) AL Ai As Am cl ci cs' cm l6 inn st mem (Kd.C_below HL.out.1 (below_drew1 (Below.refl _ _))) HL.out.2 (HI.out.below (below_drew1 (Below.refl _ _))) (HS.out.below (below_drew1 (Below.refl _ _))) (HM.out.below (below_drew1 (Below.refl _ _))) hmx hn0 hn1 hmany s' dn' HR.out).mono ?_
 rintro e w5 ⟨v, rfl, hR, hM, hC⟩
 refine ⟨_, rfl, ?_⟩
 have HR5 := Aside0.mk hR
 have HM5 := Aside0.mk hM
 have HC5 := Aside0.mk hC
 clear hR hM hC
 refine hK.out _ _ ⟨HM5.out.cell (by decide) HM5.out.o6, HM5.out.cell (by decide) HM5.out.o2⟩ (fun hHeld => ?_)
 clear hK K
 refine norm_ (by show Act.put _ (some 37) _ = _; simp only [Act.put, sA, sB, sC, i64_w, i32_w]; rfl) ?_
 refine pu HT_ 18 38 rfl rfl (by kernel_rfl) (fun _ _ _ h => h) (by rfl) (by intro w'; go_simp; with_reducible rfl) (by simp only [Act.put, sA, sB, sC, i64_w, i32_w]; rfl) ?_
 refine pu HT_ 19 39 rfl rfl (by kernel_rfl) (fun _ _ _ h => h) (by rfl) (by intro w'; go_simp; with_reducible rfl) (by simp only [Act.put, sA, sB, sC, i64_w, i32_w]; rfl) ?_
 refine pu HT_ 20 40 rfl rfl (by kernel_rfl) (fun _ _ _ h => h) (by rfl) (by intro w'; go_simp; with_reducible rfl) (by simp only [Act.put, sA, sB, sC, i64_w, i32_w]; rfl) ?_
 refine pu HT_ 21 8 rfl rfl (by kernel_rfl) (fun _ _ _ h => h) (by rfl) (by intro w'; go_simp; with_reducible rfl) (by simp only [Act.put, sA, sB, sC, i64_w, i32_w]; rfl) ?_
 refine pu HT_ 22 9 rfl rfl (by kernel_rfl) (fun _ _ _ h => h) (by rfl) (by intro w'; go_simp; with_reducible rfl) (by simp only [Act.put, sA, sB, sC, i64_w, i32_w]; rfl) ?_
 refine pu HT_ 23 10 rfl rfl (by kernel_rfl) (fun _ _ _ h => h) (by rfl) (by intro w'; go_simp; with_reducible rfl) (by simp only [Act.put, sA, sB, sC, i64_w, i32_w]; rfl) ?_
 refine done_ (done_of HT_.out (by kernel_rfl)) ?_
 try go_wp2
 go_ret3
 exact ⟨_, rfl, HR5.out, HM5.out, (Chg.refl _ _).drew.then_ HC5.out (fun _ hi => .inl hi)⟩
set_option maxHeartbeats 1000000 in
set_option maxRecDepth 100000 in
theorem deriv_no {n Bm : Nat} {cs : Array Value} {v0 v1 v2 v3 v6 v7 v8 v9 : Value} {l0 l1 l2 l3 : List Int} {a4 a5 : Int} {l6 l7 l8 l9 : List S49} {dn : Int} {w : World} (h : Mach n Bm cs v0 v1 v2 v3 v6 v7 v8 v9 l0 l1 l2 l3 a4 a5 l6 l7 l8 l9 dn w) (Ai As Am : Option Addr) (ni ns nm ci cs' cm : Nat) (hf : ¬ (ni = l0.length ∧ ns = l2.length ∧ nm = l3.length)) :
 Calls Tryz.prog 27 #[.pointer (some ⟨Bm, 0, none⟩), .slice Ai ni ci, .slice As ns cs', .slice Am nm cm] w fun e w' => e = .returned (.tuple #[.slice none 0 0, .int .i64 0, .int .i64 13]) ∧ w' = w := by
 have H := Aside0.mk h
 clear h
 go_enter Tryz.func27, Tryz.ntmps27
 go_wp2_with (go_at_call 69; refine (fits_no H.out Ai As Am ni ns nm ci cs' cm hf).mono ?_; rintro e w1 ⟨rfl, rfl⟩)
 go_ret3
 exact ⟨rfl, rfl⟩
def zeroP_T : Bool × List (List Nat × List Nat) := (true, [([], []), ([], []), ([1], [1]), ([2], [2]), ([3], [3]), ([4], [4]), ([5], [5]), ([], []), ([7], [7]), ([8], [8]), ([9], [9]), ([10], [10]), ([11], [11]), ([], []), ([], []), ([], []), ([0, 6, 12, 13, 14, 15], [0, 6, 12, 13, 14, 15]), ([16], [16]), ([16], [16]), ([16], [16]), ([17, 16, 0, 1, 2, 3, 4, 5, 6, 7, 8, 9, 10, 11, 12, 13, 14, 15, 16, 17, 18, 19], [17]), ([18, 20, 0, 1, 2, 3, 4, 5, 6, 7, 8, 9, 10, 11, 12, 13, 14, 15, 16, 17, 18, 19, 20], [18]), ([19, 21, 0, 1, 2, 3, 4, 5, 6, 7, 8, 9, 10, 11, 12, 13, 14, 15, 16, 17, 18, 19, 20, 21], [19])])
def zeroP_B : List Nat := [0, 0, 2, 6, 14, 30, 62, 0, 128, 384, 896, 1920, 3968, 0, 0, 0, 65535, 131071, 131071, 131071, 1048575, 2097151, 4194303]
theorem zeroP_tab : rtab .any (opsOf Tryz.f30 4) = zeroP_T := by kernel_rfl
theorem zeroP_bits : waitsOk zeroP_T.2 zeroP_B = true := by kernel_rfl
set_option maxHeartbeats 2000000 in
set_option maxRecDepth 100000 in
theorem zero_any {n Bm : Nat} {cs : Array Value} {v0 v1 v2 v3 v6 v7 v8 v9 : Value} {l0 l1 l2 l3 : List Int} {a4 a5 : Int} {l6 l7 l8 l9 : List S49} {dn : Int} {w : World} (h : Mach n Bm cs v0 v1 v2 v3 v6 v7 v8 v9 l0 l1 l2 l3 a4 a5 l6 l7 l8 l9 dn w) (O : Int → Int → Int → Int → Option (Int × Int)) (hO : OpsFor cs O) (k nr : Nat) (Ai As Am : Option Addr) (ci cs' cm : Nat) (inn st mem : List Int)
 (hi : LI Bm w Ai inn) (hs : LI Bm w As st) (hm : LI Bm w Am mem) (hf : inn.length = l0.length ∧ st.length = l2.length ∧ mem.length = l3.length)
 (hmx : (if regsTo (four l6 l7 l8 l9) 4 < 1 then 1 else regsTo (four l6 l7 l8 l9) 4) = (nr : Int)) (hn0 : 0 < nr) (hn1 : nr ≤ 4000) (ha4 : 0 ≤ a4) (hmany : a4.toNat ≤ 100000) (s' : RS) (dn' : Int)
 (hr : runV O inn st mem [] l7 k 0 dn ⟨List.replicate nr 0, 0, List.replicate (a4.toNat) 0, [], []⟩ = some (s', dn')) :
 Calls Tryz.prog 30 #[.pointer (some ⟨Bm, 0, none⟩), .slice Ai inn.length ci, .slice As st.length cs', .slice Am mem.length cm] w fun e w' => ∃ v, e = .returned (.tuple #[v, .int .i64 s'.fl, .int .i64 0]) ∧ Kd.R (Kd.int .i64) 2 w' w.heap.size (fun k => k ≠ Bm) v s'.put ∧ Mach n Bm cs v0 v1 v2 v3 v6 v7 v8 v9 l0 l1 l2 l3 a4 a5 l6 l7 l8 l9 dn' w' ∧ Chg (fun k => k = Bm) w w' := by
 obtain ⟨AL, cl, hvL, hLc, hLC, hLn⟩ := R_list h.r7
 have hvM := True.intro
 subst hvL

 have H := Aside0.mk h
 have HO := Aside0.mk hO
 have HL := Aside0.mk (And.intro hLC hLn)
 have HI := Aside0.mk hi
 have HS := Aside0.mk hs
 have HM := Aside0.mk hm
 have HR := Aside0.mk hr
 have HF := Aside0.mk hf
 clear h hO hLC hLn hLc hi hs hm hr hf
 go_enter Tryz.func30, Tryz.ntmps30
 go_wp2_with (go_at_call 69; refine (fits_yes H.out Ai As Am inn.length st.length mem.length ci cs' cm HF.out).mono ?_; rintro e w1 ⟨rfl, rfl⟩)
 have HD := Aside0.mk (H.out.below (below_drew1 (Below.refl _ _)))
 refine start_ (n := 23) (S := fun w' => w'.cell? ⟨Bm, 7, none⟩ = some (.slice AL l7.length cl) ∧ w'.cell? ⟨Bm, 4, none⟩ = some (.int .i64 a4)) (ds := []) (Array.replicate 23 false) (by kernel_rfl) rfl rfl ⟨HD.out.cell (by decide) HD.out.o7, HD.out.cell (by decide) HD.out.o4⟩ (fun hHeld => ?_); refine with_tabW zeroP_tab zeroP_bits (fun HT_ HW_ => ?_)
 refine pu HT_ 0 20 rfl rfl (by kernel_rfl) (fun _ _ _ h => h) (by rfl) (by intro w'; go_simp; with_reducible rfl) (by simp only [Act.put, sA, sB, sC, i64_w, i32_w]; rfl) ?_
 refine pu HT_ 1 21 rfl rfl (by kernel_rfl) (fun _ _ _ h => h) (by rfl) (by intro w'; go_simp; with_reducible rfl) (by simp only [Act.put, sA, sB, sC, i64_w, i32_w]; rfl) ?_
 refine pu HT_ 2 22 rfl rfl (by kernel_rfl) (fun _ _ _ h => h) (by rfl) (by intro w'; go_simp; with_reducible rfl) (by simp only [Act.put, sA, sB, sC, i64_w, i32_w]; rfl) ?_
 refine pu HT_ 3 23 rfl rfl (by kernel_rfl) (fun _ _ _ h => h) (by rfl) (by intro w'; go_simp; with_reducible rfl) (by simp only [Act.put, sA, sB, sC, i64_w, i32_w]; rfl) ?_
 refine pu HT_ 4 24 rfl rfl (by kernel_rfl) (fun _ _ _ h => h) (by rfl) (by intro w'; go_simp; with_reducible rfl) (by simp only [Act.put, sA, sB, sC, i64_w, i32_w]; rfl) ?_
 refine pu HT_ 5 25 rfl rfl (by kernel_rfl) (fun _ _ _ h => h) (by rfl) (by intro w'; go_simp; with_reducible rfl) (by simp only [Act.put, sA, sB, sC, i64_w, i32_w]; rfl) ?_
 refine pu HT_ 7 27 rfl rfl (by kernel_rfl) (fun _ _ _ h => h) (by rfl) (by intro w'; go_simp; with_reducible rfl) (by simp only [Act.put, sA, sB, sC, i64_w, i32_w]; rfl) ?_
 refine pu HT_ 8 28 rfl rfl (by kernel_rfl) (fun _ _ _ h => h) (by rfl) (by intro w'; go_simp; with_reducible rfl) (by simp only [Act.put, sA, sB, sC, i64_w, i32_w]; rfl) ?_
 refine pu HT_ 9 29 rfl rfl (by kernel_rfl) (fun _ _ _ h => h) (by rfl) (by intro w'; go_simp; with_reducible rfl) (by simp only [Act.put, sA, sB, sC, i64_w, i32_w]; rfl) ?_
 refine pu HT_ 10 30 rfl rfl (by kernel_rfl) (fun _ _ _ h => h) (by rfl) (by intro w'; go_simp; with_reducible rfl) (by simp only [Act.put, sA, sB, sC, i64_w, i32_w]; rfl) ?_
 refine pu HT_ 11 31 rfl rfl (by kernel_rfl) (fun _ _ _ h => h) (by rfl) (by intro w'; go_simp; with_reducible rfl) (by simp only [Act.put, sA, sB, sC, i64_w, i32_w]; rfl) ?_
 refine pu HT_ 13 33 rfl rfl (by kernel_rfl) (fun _ _ _ h => h) (by rfl) (by intro w'; go_simp; with_reducible rfl) (by simp only [Act.put, sA, sB, sC, i64_w, i32_w]; rfl) ?_
 refine pu HT_ 14 34 rfl rfl (by kernel_rfl) (fun _ _ _ h => h) (by rfl) (by intro w'; go_simp; with_reducible rfl) (by simp only [Act.put, sA, sB, sC, i64_w, i32_w]; rfl) ?_
 refine pu HT_ 15 35 rfl rfl (by kernel_rfl) (fun _ _ _ h => h) (by rfl) (by intro w'; go_simp; with_reducible rfl) (by simp only [Act.put, sA, sB, sC, i64_w, i32_w]; rfl) ?_
 refine tk HT_ HW_ hHeld 6 26 rfl rfl (by kernel_rfl) (fun _ _ _ h => h) (by rfl) (by rintro w' ⟨s0, s1⟩; go_simp; with_reducible rfl) (by simp only [Act.put, sA, sB, sC, i64_w, i32_w]; rfl) ?_
 refine tk HT_ HW_ hHeld 12 32 rfl rfl (by kernel_rfl) (fun _ _ _ h => h) (by rfl) (by rintro w' ⟨s0, s1⟩; go_simp; with_reducible rfl) (by simp only [Act.put, sA, sB, sC, i64_w, i32_w]; rfl) ?_
 refine on1 HT_ 16 (some 36) rfl rfl (by kernel_rfl) (by decide) (fun K hK => ?_)
 refine goes_ Tryz.func70 (by kernel_rfl) rfl #[.pointer (some ⟨Bm, 0, none⟩), .slice AL l7.length cl, .int .i64 a4, .slice Ai inn.length ci, .slice As st.length cs', .slice Am mem.length cm] (by rfl) rfl rfl (by (try simp only [List.map_toArray, List.map_cons, List.map_nil]); first | done | rfl) ?_
 refine ((show Calls Tryz.prog 70 #[.pointer (some ⟨Bm, 0, none⟩), .slice AL l7.length cl, .int .i64 a4, .slice Ai inn.length ci, .slice As st.length cs', .slice Am mem.length cm] _ _ from by have hz := made_any HD.out O HO.out k nr (a4.toNat) AL Ai As Am cl ci cs' cm l7 inn st mem (Kd.C_below HL.out.1 (below_drew1 (Below.refl _ _))) HL.out.2 (HI.out.below (below_drew1 (Below.refl _ _))) (HS.out.below (below_drew1 (Below.refl _ _))) (HM.out.below (below_drew1 (Below.refl _ _))) hmx hn0 hn1 hmany s' dn' HR.out; rw [Int.toNat_of_nonneg ha4] at hz; exact hz)).mono ?_
 rintro e w5 ⟨v, rfl, hR, hM, hC⟩
 refine ⟨_, rfl, ?_⟩
 have HR5 := Aside0.mk hR
 have HM5 := Aside0.mk hM
 have HC5 := Aside0.mk hC
 clear hR hM hC
 refine hK.out _ _ ⟨HM5.out.cell (by decide) HM5.out.o7, HM5.out.cell (by decide) HM5.out.o4⟩ (fun hHeld => ?_)
 clear hK K
 refine norm_ (by show Act.put _ (some 36) _ = _; simp only [Act.put, sA, sB, sC, i64_w, i32_w]; rfl) ?_
 refine pu HT_ 17 37 rfl rfl (by kernel_rfl) (fun _ _ _ h => h) (by rfl) (by intro w'; go_simp; with_reducible rfl) (by simp only [Act.put, sA, sB, sC, i64_w, i32_w]; rfl) ?_
 refine pu HT_ 18 38 rfl rfl (by kernel_rfl) (fun _ _ _ h => h) (by rfl) (by intro w'; go_simp; with_reducible rfl) (by simp only [Act.put, sA, sB, sC, i64_w, i32_w]; rfl) ?_
 refine pu HT_ 19 39 rfl rfl (by kernel_rfl) (fun _ _ _ h => h) (by rfl) (by intro w'; go_simp; with_reducible rfl) (by simp only [Act.put, sA, sB, sC, i64_w, i32_w]; rfl) ?_
 refine pu HT_ 20 8 rfl rfl (by kernel_rfl) (fun _ _ _ h => h) (by rfl) (by intro w'; go_simp; with_reducible rfl) (by simp only [Act.put, sA, sB, sC, i64_w, i32_w]; rfl) ?_
 refine pu HT_ 21 9 rfl rfl (by kernel_rfl) (fun _ _ _ h => h) (by rfl) (by intro w'; go_simp; with_reducible rfl) (by simp only [Act.put, sA, sB, sC, i64_w, i32_w]; rfl) ?_
 refine pu HT_ 22 10 rfl rfl (by kernel_rfl) (fun _ _ _ h => h) (by rfl) (by intro w'; go_simp; with_reducible rfl) (by simp only [Act.put, sA, sB, sC, i64_w, i32_w]; rfl) ?_
 refine done_ (done_of HT_.out (by kernel_rfl)) ?_
 try go_wp2
 go_ret3
 exact ⟨_, rfl, HR5.out, HM5.out, (Chg.refl _ _).drew.then_ HC5.out (fun _ hi => .inl hi)⟩
end Go.Proofs.YtgalkkolbobmbaaGreat.V
