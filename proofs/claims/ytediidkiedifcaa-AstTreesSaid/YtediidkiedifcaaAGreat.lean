/- Great, plainly. -/
import Derived.Test.YtediidkiedifcaaQ6
import Derived.Test.YtediidkiedifcaaAAlive
import Derived.Test.YtediidkiedifcaaANames2
import Derived.Test.YtediidkiedifcaaQR
import Derived.Test.YtediidkiedifcaaARMay2
namespace Go.Proofs.Ytediidkiedifcaa.Q
set_option linter.unusedVariables false
set_option linter.unusedSimpArgs false
open Go.RowKit Go.Proofs.YtediidkiedifcaaW.PrintWords
theorem w64 {n : Int} (h0 : 0 ≤ n) (h1 : n < 9223372036854775808) : wrap64 n = n := wrap_i64' (by omega) (by omega)
/-- What is known of any program that can be read. -/
structure Sz (l0 : List S45) (l1 : List S31) : Prop where
  x7 : ∀ x ∈ l1, x.f7.length ≤ 17592186043904
  x4 : ∀ x ∈ l1, x.f4.size ≤ 140737488351232
  x5 : ∀ x ∈ l1, x.f5.size ≤ 140737488351232
  d1 : ∀ d ∈ l0, d.f1.size ≤ 140737488351232
  d2 : ∀ d ∈ l0, d.f2.length ≤ 5864062014635
  i5 : ∀ d ∈ l0, ∀ i ∈ d.f3, i.f5.length ≤ 8796093021952
theorem Sz.of {x : S25} (h : G25 x) : Sz x.f0 x.f1 := by
  obtain ⟨⟨_, _, h0⟩, ⟨_, _, h1⟩⟩ := h
  refine ⟨fun a ha => ?_, fun a ha => ?_, fun a ha => ?_, fun a ha => ?_, fun a ha => ?_, fun a ha i hi => ?_⟩
  · have h := h1 a ha; unfold G31 at h; obtain ⟨_, _, _, _, _, _, _, h, _⟩ := h; have := h.1; omega
  · have h := h1 a ha; unfold G31 at h; obtain ⟨_, _, _, _, h, _⟩ := h; exact h
  · have h := h1 a ha; unfold G31 at h; obtain ⟨_, _, _, _, _, h, _⟩ := h; exact h
  · have h := h0 a ha; unfold G45 at h; obtain ⟨_, h, _⟩ := h; exact h
  · have h := h0 a ha; unfold G45 at h; obtain ⟨_, _, h, _⟩ := h; have := h.1; omega
  · have h := h0 a ha; unfold G45 at h; obtain ⟨_, _, _, h, _⟩ := h
    have h := h.2.2 i hi; unfold G47 at h; obtain ⟨_, _, _, _, _, h, _⟩ := h; have := h.1; omega
theorem rd31_at {l1 : List S31} {i : Nat} (h : i < l1.length) : rd_T31 l1 (i : Int) = l1[i] := by
  unfold rd_T31
  simp [List.getD_eq_getElem?_getD, List.getElem?_eq_getElem h]
theorem rd45_at {l1 : List S45} {i : Nat} (h : i < l1.length) : rd_T45 l1 (i : Int) = l1[i] := by
  unfold rd_T45
  simp [List.getD_eq_getElem?_getD, List.getElem?_eq_getElem h]
theorem rd47_at {l1 : List S47} {i : Nat} (h : i < l1.length) : rd_T47 l1 (i : Int) = l1[i] := by
  unfold rd_T47
  simp [List.getD_eq_getElem?_getD, List.getElem?_eq_getElem h]
theorem great_l2 {l0 : List S45} {l1 : List S31} (hs : Sz l0 l1) (hl : l0.length ≤ 60) {j : Nat} (hj : j < l0.length) : ∀ (d m : Nat) (n : Int), m + d = min (l0[j]).f3.length 1000 → 0 ≤ n → n + d * 10000000000000 < 9000000000000000000 →
    ∃ n', n + d ≤ n' ∧ n' ≤ n + d * 10000000000000 ∧ ∀ b, (Ev (fun k => astrolabelaw04_Great.l1 k n' ((j + 1 : Nat) : Int) l0 l1) b → Ev (fun k => astrolabelaw04_Great.l2 k n (j : Int) (m : Int) l0 l1) b)
  | 0, m, n, hm, h0, h1 => by
    refine ⟨n, by omega, by omega, fun b h => Ev.step (fun k => ?_) h⟩
    rw [astrolabelaw04_Great.l2, if_pos (by omega), if_pos (by omega), rd45_at hj]
    have hw : wrap64 ((j : Int) + 1) = ((j + 1 : Nat) : Int) := by
      rw [w64 (by omega) (by have := hj; omega)]; omega
    by_cases h2 : (m : Int) < ((l0[j]).f3.length : Int)
    · rw [if_pos h2, if_neg (by omega), hw]
    · rw [if_neg h2, hw]
  | d + 1, m, n, hm, h0, h1 => by
    have hml : m < (l0[j]).f3.length := by omega
    have h5 := hs.i5 _ (List.getElem_mem hj) _ (List.getElem_mem hml)
    obtain ⟨n', e1, e2, e3⟩ := great_l2 hs hl hj d (m + 1) (n + 1 + ((l0[j]).f3[m]).f5.length) (by omega) (by omega) (by omega)
    refine ⟨n', by omega, by omega, fun b h => Ev.step (fun k => ?_) (e3 b h)⟩
    rw [astrolabelaw04_Great.l2, if_pos (by omega), if_pos (by omega), rd45_at hj, if_pos (by omega), if_pos (by omega), if_pos (by omega), rd47_at hml, w64 (n := n + 1) (by omega) (by omega), w64 (n := n + 1 + _) (by omega) (by omega), w64 (n := (m : Int) + 1) (by omega) (by omega)]
    rfl
theorem great_l1 {l0 : List S45} {l1 : List S31} (hs : Sz l0 l1) (hl : l0.length ≤ 60) : ∀ (d j : Nat) (n : Int), j + d = l0.length → 0 ≤ n → n + d * 20000000000000000 < 2000000000000000000 →
    ∃ b, Ev (fun k => astrolabelaw04_Great.l1 k n (j : Int) l0 l1) b ∧ (b = false → n ≤ 600 ∧ ∀ x ∈ l0.drop j, x.f3.length ≤ 600)
  | 0, j, n, hj, h0, h1 => by
    refine ⟨decide (n > 600), Ev.step (f := fun _ => some (decide (n > 600))) (fun k => ?_) (Ev.now _), fun h => ⟨by simpa using h, fun x hx => ?_⟩⟩
    · rw [astrolabelaw04_Great.l1, if_neg (by omega)]
    · rw [List.drop_of_length_le (by omega)] at hx
      cases hx
  | d + 1, j, n, hj, h0, h1 => by
    have hjl : j < l0.length := by omega
    have k1 := hs.d1 _ (List.getElem_mem hjl)
    have k2 := hs.d2 _ (List.getElem_mem hjl)
    obtain ⟨n', e1, e2, e3⟩ := great_l2 hs hl hjl (min (l0[j]).f3.length 1000) 0 (n + ((l0[j]).f2.length : Int) + ((l0[j]).f1.size : Int) / 100) (by omega) (by omega) (by omega)
    obtain ⟨b, hb1, hb2⟩ := great_l1 hs hl d (j + 1) n' (by omega) (by omega) (by omega)
    refine ⟨b, Ev.step (fun k => ?_) (e3 b hb1), fun hb => ?_⟩
    · rw [astrolabelaw04_Great.l1, if_pos (by omega), if_pos (by omega), rd45_at hjl, w64 (n := n + _) (by omega) (by omega), w64 (n := ((l0[j]).f1.size : Int) / 100) (by omega) (by omega), w64 (n := n + _ + _) (by omega) (by omega)]
      rfl
    · obtain ⟨q1, q2⟩ := hb2 hb
      refine ⟨by omega, fun x hx => ?_⟩
      rw [List.drop_eq_getElem_cons hjl] at hx
      rcases List.mem_cons.1 hx with rfl | hx
      · omega
      · exact q2 x hx
theorem great_l0 {l0 : List S45} {l1 : List S31} (hs : Sz l0 l1) (hl : l0.length ≤ 60) (hl1 : l1.length ≤ 300) : ∀ (d i : Nat) (n : Int), i + d = l1.length → 0 ≤ n → n + d * 100000000000000 < 500000000000000000 →
    ∃ b, Ev (fun k => astrolabelaw04_Great.l0 k n (i : Int) l0 l1) b ∧ (b = false → n ≤ 600 ∧ (∀ x ∈ l0, x.f3.length ≤ 600) ∧ ∀ x ∈ l1.drop i, x.f7.length ≤ 600)
  | 0, i, n, hi, h0, h1 => by
    obtain ⟨b, hb1, hb2⟩ := great_l1 hs hl l0.length 0 n (by omega) h0 (by omega)
    refine ⟨b, Ev.step (fun k => ?_) hb1, fun hb => ?_⟩
    · rw [astrolabelaw04_Great.l0, if_neg (by omega)]
      rfl
    · obtain ⟨q1, q2⟩ := hb2 hb
      refine ⟨q1, fun x hx => q2 x (by simpa using hx), fun x hx => ?_⟩
      rw [List.drop_of_length_le (by omega)] at hx
      cases hx
  | d + 1, i, n, hi, h0, h1 => by
    have hil : i < l1.length := by omega
    have k1 := hs.x7 _ (List.getElem_mem hil)
    have k2 := hs.x4 _ (List.getElem_mem hil)
    have k3 := hs.x5 _ (List.getElem_mem hil)
    obtain ⟨b, hb1, hb2⟩ := great_l0 hs hl hl1 d (i + 1) (n + ((l1[i]).f7.length : Int) + ((l1[i]).f4.size : Int) / 100 + ((l1[i]).f5.size : Int) / 100) (by omega) (by omega) (by omega)
    refine ⟨b, Ev.step (fun k => ?_) hb1, fun hb => ?_⟩
    · rw [astrolabelaw04_Great.l0, if_pos (by omega), if_pos (by omega), rd31_at hil, w64 (n := n + _) (by omega) (by omega), w64 (n := ((l1[i]).f4.size : Int) / 100) (by omega) (by omega), w64 (n := n + _ + _) (by omega) (by omega), w64 (n := ((l1[i]).f5.size : Int) / 100) (by omega) (by omega), w64 (n := n + _ + _ + _) (by omega) (by omega), w64 (n := (i : Int) + 1) (by omega) (by omega)]
      rfl
    · obtain ⟨q1, q2, q3⟩ := hb2 hb
      refine ⟨by omega, q2, fun x hx => ?_⟩
      rw [List.drop_eq_getElem_cons hil] at hx
      rcases List.mem_cons.1 hx with rfl | hx
      · omega
      · exact q3 x hx
/-- What is known of a program that isn't Great. -/
structure Small (l0 : List S45) (l1 : List S31) : Prop where
  n0 : l0.length ≤ 60
  n1 : l1.length ≤ 300
  d3 : ∀ d ∈ l0, d.f3.length ≤ 600
  x7 : ∀ x ∈ l1, x.f7.length ≤ 600
theorem great_f {l0 : List S45} {l1 : List S31} (hs : Sz l0 l1) : ∃ b, Ev (fun k => astrolabelaw04_Great.f k l0 l1) b ∧ (b = false → Small l0 l1) := by
  by_cases h1 : (l1.length : Int) > 300
  · refine ⟨true, Ev.congr (fun k => by rw [astrolabelaw04_Great.f, if_pos h1]) (Ev.step (g := fun k => astrolabelaw04_Great.j0 k true l0 l1) (f := fun _ => some true) (fun k => by rw [astrolabelaw04_Great.j0, if_pos rfl]) (Ev.now _)), fun h => by cases h⟩
  · by_cases h0 : (l0.length : Int) > 60
    · refine ⟨true, Ev.congr (fun k => by rw [astrolabelaw04_Great.f, if_neg h1, show decide ((l0.length : Int) > 60) = true from decide_eq_true h0]) (Ev.step (g := fun k => astrolabelaw04_Great.j0 k true l0 l1) (f := fun _ => some true) (fun k => by rw [astrolabelaw04_Great.j0, if_pos rfl]) (Ev.now _)), fun h => by cases h⟩
    · obtain ⟨b, hb1, hb2⟩ := great_l0 hs (by omega) (by omega) l1.length 0 0 (by omega) (by omega) (by omega)
      refine ⟨b, Ev.congr (fun k => by rw [astrolabelaw04_Great.f, if_neg h1, show decide ((l0.length : Int) > 60) = false from decide_eq_false h0]) (Ev.step (g := fun k => astrolabelaw04_Great.j0 k false l0 l1) (fun k => by rw [astrolabelaw04_Great.j0, if_neg (by decide)]; rfl) hb1), fun hb => ?_⟩
      obtain ⟨_, q2, q3⟩ := hb2 hb
      exact ⟨by omega, by omega, q2, fun x hx => q3 x (by simpa using hx)⟩
theorem Small.may {l0 : List S45} {l1 : List S31} (h : Small l0 l1) : ast_May.f l0 l1 = some (mayP l0 l1) := by
  unfold ast_May.f
  rw [if_pos]
  simp only [Bool.and_eq_true, decide_eq_true_eq, List.all_eq_true]
  have := h.n0
  have := h.n1
  exact ⟨by omega, by omega, fun d hd => by have := h.d3 d hd; omega, fun x hx => by have := h.x7 x hx; omega⟩
end Go.Proofs.Ytediidkiedifcaa.Q
