/- The plain law of VerifyCut. -/
import Derived.Test.YtccolpkjgjjipaaDefVerifyCut
import Derived.Test.YtccolpkjgjjipaaMCut
namespace Go.Proofs.Ytccolpkjgjjipaa
open Go.RowKit Go.Proofs.YtccolpkjgjjipaaW.PrintWords Q
theorem rightO_of {a b c d : List Int} {x y : Int} {e f g h : List S47} (h1 : Kinds a 0) (h2 : Kinds b 0) (h3 : Banks a b c d x y) (h4 : ∀ i, i < 4 → ((four e f g h i).length : Int) ≤ 4000)
    (h5 : ∀ i, i < 4 → ∀ m, m < (four e f g h i).length → rightB a.length b.length c.length d.length x (i : Int) (rd_T47 (four e f g h i) (m : Int)) (((four e f g h i).length : Int) - m - 1) = true) : rightO a b c d x y e f g h = true := by
  obtain ⟨⟨p1, p2, p3, p4⟩, p5, p6, p7, p8⟩ := h3
  have q0 := h4 0 (by omega)
  have q1 := h4 1 (by omega)
  have q2 := h4 2 (by omega)
  have q3 := h4 3 (by omega)
  have hw : wrongPs (rightB a.length b.length c.length d.length x) (four e f g h) 4 = [] := by
    rw [List.eq_nil_iff_forall_not_mem]
    intro z hz
    obtain ⟨j, m, hj, hm, _, hR⟩ := wrongPs_mem.1 hz
    rw [h5 j hj m hm] at hR
    cases hR
  have bl : ∀ n m : Int, 0 ≤ n → n < m → belowB n m = true := fun n m u v => by rw [belowB, decide_eq_true u, decide_eq_true v]; rfl
  rw [rightO, no_kind h1, no_kind h2, bl y 4 (by omega) (by omega), banksB, bl _ _ (by omega) (by omega : (a.length : Int) < 201), bl _ _ (by omega) (by omega : (b.length : Int) < 201), bl _ _ (by omega) (by omega : (c.length : Int) < 201), bl _ _ (by omega) (by omega : (d.length : Int) < 201), bl x 201 p5 (by omega), longB, decide_eq_true (show (e.length : Int) ≤ 4000 from q0), decide_eq_true (show (f.length : Int) ≤ 4000 from q1), decide_eq_true (show (g.length : Int) ≤ 4000 from q2), decide_eq_true (show (h.length : Int) ≤ 4000 from q3), hw]
  rfl
theorem four_cut {e f g h : List S47} {n1 n2 n3 i : Nat} (hi : i < 4) : four (e.take n1) (f.take n2) [] (h.take n3) i = [] ∨ (i ≠ 2 ∧ ∃ n, four (e.take n1) (f.take n2) [] (h.take n3) i = (four e f g h i).take n) := by
  rcases (by omega : i = 0 ∨ i = 1 ∨ i = 2 ∨ i = 3) with rfl | rfl | rfl | rfl
  · exact .inr ⟨by omega, n1, rfl⟩
  · exact .inr ⟨by omega, n2, rfl⟩
  · exact .inl rfl
  · exact .inr ⟨by omega, n3, rfl⟩
theorem rightO_cut {a b c d : List Int} {x y : Int} {e f g h : List S47} (h1 : Kinds a 0) (h2 : Kinds b 0) (h3 : Banks a b c d x y) (h4 : Short e f g h 0) (h5 : From a b c d x e f g h 0) (n1 n2 n3 : Nat) :
    rightO a b c d x y (e.take n1) (f.take n2) [] (h.take n3) = true := by
  refine rightO_of h1 h2 h3 (fun i hi => ?_) (fun i hi m hm => ?_)
  · have := h4 i (by omega) hi
    rcases four_cut (e := e) (f := f) (g := g) (h := h) (n1 := n1) (n2 := n2) (n3 := n3) hi with hz | ⟨_, n, hz⟩
    · rw [hz]; simp
    · rw [hz, List.length_take]; omega
  · rcases four_cut (e := e) (f := f) (g := g) (h := h) (n1 := n1) (n2 := n2) (n3 := n3) hi with hz | ⟨h2, n, hz⟩
    · rw [hz] at hm; simp at hm
    · rw [hz] at hm ⊢
      rw [rdT_take hm, right_behind (q' := ((four e f g h i).length : Int) - m - 1) (by omega)]
      exact h5 i (by omega) hi m (by rw [List.length_take] at hm; omega)
theorem cut_at {l : List S47} {x1 : Int} (h0 : 0 ≤ x1) (h1 : x1 ≤ 255) (hl : (l.length : Int) ≤ 140737488351232) :
    wrap64 ((l.length : Int) + 1) = (l.length : Int) + 1 ∧ ∃ n : Nat, Int.tmod (wrap64 x1) ((l.length : Int) + 1) = (n : Int) ∧ n ≤ l.length := by
  refine ⟨wrap_up (by omega) (by omega), ?_⟩
  rw [wrap_id h0 (by omega), Int.tmod_eq_emod_of_nonneg h0]
  have g0 := Int.emod_nonneg x1 (show (l.length : Int) + 1 ≠ 0 by omega)
  have g1 := Int.emod_lt_of_pos x1 (show 0 < (l.length : Int) + 1 by omega)
  exact ⟨(x1 % ((l.length : Int) + 1)).toNat, by omega, by omega⟩
theorem most_le {a b c d : List Int} {x y : Int} {e f g h : List S47} (h4 : Short e f g h 0) (n1 n2 n3 : Nat) : ∃ p q : Int, verify_Most.f a b c d x y (e.take n1) (f.take n2) [] (h.take n3) = some p ∧ verify_Most.f a b c d x y e f g h = some q ∧ p ≤ q := by
  have q0 : (e.length : Int) ≤ 4000 := h4 0 (by omega) (by omega)
  have q1 : (f.length : Int) ≤ 4000 := h4 1 (by omega) (by omega)
  have q2 : (g.length : Int) ≤ 4000 := h4 2 (by omega) (by omega)
  have q3 : (h.length : Int) ≤ 4000 := h4 3 (by omega) (by omega)
  have t0 : (e.take n1).length ≤ e.length := by rw [List.length_take]; omega
  have t1 : (f.take n2).length ≤ f.length := by rw [List.length_take]; omega
  have t3 : (h.take n3).length ≤ h.length := by rw [List.length_take]; omega
  refine ⟨((e.take n1).length : Int) + (f.take n2).length + (h.take n3).length, (e.length : Int) + f.length + g.length + h.length, ?_, ?_, by omega⟩
  · unfold verify_Most.f
    rw [Int.zero_add, wrap_id (n := ((e.take n1).length : Int)) (by omega) (by omega), wrap_id (n := ((e.take n1).length : Int) + (f.take n2).length) (by omega) (by omega), List.length_nil, Int.natCast_zero, Int.add_zero, wrap_id (n := ((e.take n1).length : Int) + (f.take n2).length) (by omega) (by omega), wrap_id (by omega) (by omega)]
  · unfold verify_Most.f
    rw [Int.zero_add, wrap_id (n := (e.length : Int)) (by omega) (by omega), wrap_id (n := (e.length : Int) + f.length) (by omega) (by omega), wrap_id (n := (e.length : Int) + f.length + g.length) (by omega) (by omega), wrap_id (by omega) (by omega)]
theorem cut_j0 (a b c d : List Int) (x y : Int) (e f g h : List S47) (x1 : Int) (h0 : 0 ≤ x1) (h1' : x1 ≤ 255) (hlen : ∀ j, j < 4 → ((four e f g h j).length : Int) ≤ 140737488351232) (t : Bool)
    (ht : t = false → Kinds a 0 ∧ Kinds b 0 ∧ Banks a b c d x y ∧ Short e f g h 0 ∧ From a b c d x e f g h 0) : Ev (fun k => astrolabelaw17_VerifyCut.j0 k x1 t a b c d x y e f g h) true := by
  cases t with
  | true => exact Ev.step (f := fun _ => some true) (fun k => by rw [astrolabelaw17_VerifyCut.j0, if_pos rfl]) (Ev.now _)
  | false =>
    obtain ⟨h1, h2, h3, h4, h5⟩ := ht rfl
    obtain ⟨w0, m0, e0, l0⟩ := cut_at (l := e) h0 h1' (hlen 0 (by omega))
    obtain ⟨w1, m1, e1, l1⟩ := cut_at (l := f) h0 h1' (hlen 1 (by omega))
    obtain ⟨w3, m3, e3, l3⟩ := cut_at (l := h) h0 h1' (hlen 3 (by omega))
    obtain ⟨p, q, hp, hq, hpq⟩ := most_le (a := a) (b := b) (c := c) (d := d) (x := x) (y := y) h4 m0 m1 m3
    refine Ev.step (f := fun _ => some true) (fun k => ?_) (Ev.now _)
    rw [astrolabelaw17_VerifyCut.j0, if_neg Bool.false_ne_true, w0, w1, w3, e0, e1, e3, if_neg (by omega), if_pos (by omega), if_pos (by omega), Option.bind_some, if_neg (by omega), if_pos (by omega), if_pos (by omega), Option.bind_some, if_neg (by omega), if_pos (by omega), if_pos (by omega), Option.bind_some,
      Int.toNat_natCast, Int.toNat_natCast, Int.toNat_natCast, verify_Right.f, rightO_cut h1 h2 h3 h4 h5 m0 m1 m3, Option.bind_some, if_pos rfl, hp, Option.bind_some, hq, Option.bind_some, decide_eq_true hpq]
theorem Pure.VerifyCut : astrolabelaw17_VerifyCut.Pure := by
  intro x0 x1 hG hx
  refine Ev.rounds (g := fun k => astrolabelaw17_VerifyCut.f k x0.f0 x0.f1 x0.f2 x0.f3 x0.f4 x0.f5 x0.f6 x0.f7 x0.f8 x0.f9 x1) ?_
  obtain ⟨g0, g1, _, _, _, _, h6, h7, h8, h9⟩ := hG
  have hlen : ∀ j, j < 4 → ((four x0.f6 x0.f7 x0.f8 x0.f9 j).length : Int) ≤ 140737488351232 := by
    intro j hj
    rcases (by omega : j = 0 ∨ j = 1 ∨ j = 2 ∨ j = 3) with rfl | rfl | rfl | rfl <;> simp only [four] <;> omega
  have ha : (x0.f0.length : Int) ≤ 140737488351232 := by omega
  have hb : (x0.f1.length : Int) ≤ 140737488351232 := by omega
  have hx' : 0 ≤ x1 ∧ x1 ≤ 255 := by
    simp only [Lit.wf, Bool.and_eq_true, decide_eq_true_eq] at hx
    exact ⟨hx.1, hx.2⟩
  clear h6 h7 h8 h9 g0 g1
  refine Ev.congr (f := fun k => (astrolaberef16_Great.f x0.f0 x0.f1 x0.f2 x0.f3 x0.f4 x0.f5 x0.f6 x0.f7 x0.f8 x0.f9).bind fun t137 => (if t137 = true then (astrolabelaw17_VerifyCut.j0 k x1 true x0.f0 x0.f1 x0.f2 x0.f3 x0.f4 x0.f5 x0.f6 x0.f7 x0.f8 x0.f9) else ((astrolaberef17_Right.f k x0.f0 x0.f1 x0.f2 x0.f3 x0.f4 x0.f5 x0.f6 x0.f7 x0.f8 x0.f9).bind fun t138 => (astrolabelaw17_VerifyCut.j0 k x1 (!t138) x0.f0 x0.f1 x0.f2 x0.f3 x0.f4 x0.f5 x0.f6 x0.f7 x0.f8 x0.f9)))) (fun k => by
      rw [astrolabelaw17_VerifyCut.f, alive17_true, Option.bind_some, if_pos rfl]) ?_
  obtain ⟨g, hg⟩ : ∃ g, astrolaberef16_Great.f x0.f0 x0.f1 x0.f2 x0.f3 x0.f4 x0.f5 x0.f6 x0.f7 x0.f8 x0.f9 = some g := by
    unfold astrolaberef16_Great.f
    split <;> exact ⟨_, rfl⟩
  cases g with
  | true => exact Ev.congr (fun k => by rw [hg, Option.bind_some, if_pos rfl]) (cut_j0 _ _ _ _ _ _ _ _ _ _ x1 hx'.1 hx'.2 hlen true (fun h => by cases h))
  | false =>
    obtain ⟨r, hr, hrr⟩ := right_some x0.f0 x0.f1 x0.f2 x0.f3 x0.f4 x0.f5 x0.f6 x0.f7 x0.f8 x0.f9 hlen ha hb
    refine Ev.congr (f := fun k => (astrolaberef17_Right.f k x0.f0 x0.f1 x0.f2 x0.f3 x0.f4 x0.f5 x0.f6 x0.f7 x0.f8 x0.f9).bind fun t138 => (astrolabelaw17_VerifyCut.j0 k x1 (!t138) x0.f0 x0.f1 x0.f2 x0.f3 x0.f4 x0.f5 x0.f6 x0.f7 x0.f8 x0.f9)) (fun k => by rw [hg, Option.bind_some, if_neg Bool.false_ne_true]) ?_
    exact Ev.bind hr (cut_j0 _ _ _ _ _ _ _ _ _ _ x1 hx'.1 hx'.2 hlen (!r) (fun h => hrr (by cases r <;> simp_all)))
end Go.Proofs.Ytccolpkjgjjipaa
