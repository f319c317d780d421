/- The Go functions mayDecl's closure over items, mayDecl, May's closure over declarations. -/
import Derived.Test.YtediidkiedifcaaAMay1
import Derived.Test.YtediidkiedifcaaQ4
namespace Go.Proofs.Ytediidkiedifcaa.Q
set_option linter.unusedVariables false
set_option linter.unusedSimpArgs false
open Go.RowKit Go.Proofs.YtediidkiedifcaaW.PrintWords Go.Proofs.YtediidkiedifcaaW.PrintLast Go.Proofs.YtediidkiedifcaaW.PrintMore
def pointsB (n : Nat) (a : Int) (b : Bool) : Bool := if b = true then decide (0 ≤ a) && decide (a < (n : Int)) else a == 0
theorem points_f (l0 : List S45) (l1 : List S31) (a : Int) (b : Bool) : ast_points.f l0 l1 a b = some (pointsB l1.length a b) := by
  unfold ast_points.f pointsB
  cases b with
  | true =>
    rw [if_pos rfl, if_pos rfl]
    by_cases h : a ≥ 0
    · rw [if_pos h, show decide (0 ≤ a) = true from decide_eq_true h, Bool.true_and]
    · rw [if_neg h, show decide (0 ≤ a) = false from decide_eq_false h, Bool.false_and]
  | false => rw [if_neg (by decide), if_neg (by decide)]
def hasE (k : Int) : Bool := decide (1 ≤ k ∧ k ≤ 5)
def hasF (k : Int) : Bool := k == 2 || (k == 3 || (k == 5 || k == 7))
theorem has_f (n : Nat) (k : Int) : ast_has.f (n + 2) k = some (hasE k, hasF k) := by
  unfold ast_has.f
  simp only [ast_has.j0, ast_has.j1, beq_iff_eq]
  by_cases h1 : k = 1
  · subst h1; rfl
  by_cases h2 : k = 2
  · subst h2; rfl
  by_cases h3 : k = 3
  · subst h3; rfl
  by_cases h4 : k = 4
  · subst h4; rfl
  by_cases h5 : k = 5
  · subst h5; rfl
  by_cases h7 : k = 7
  · subst h7; rfl
  have e : hasE k = false := by unfold hasE; rw [decide_eq_false_iff_not]; omega
  have f : hasF k = false := by unfold hasF; simp [h2, h3, h5, h7]
  simp [h1, h2, h3, h4, h5, h7, e, f]
def itemBad (n : Nat) (i : S47) : Bool := !(pointsB n i.f3 (hasE i.f0)) || !(pointsB n i.f4 (hasF i.f0))
def declBad (n : Nat) (d : S45) : Bool := !(pointsB n d.f5 (d.f0 == 1 || d.f0 == 2)) || d.f3.any (itemBad n)
set_option maxHeartbeats 4000000 in
set_option maxRecDepth 100000 in
theorem item_any (gp : Nat) (DA : Option Addr) (DC : Nat) (l0 : List S45) (EA : Option Addr) (EC : Nat) (l1 : List S31) (i : S47) (A5 : Option Addr) (c5 : Nat) (w : World) (h : w.heap[gp]? = some (.cells #[.slice DA l0.length DC, .slice EA l1.length EC] 25 (0, 0))) (hD : Kd.C k45 w DA l0.length l0) (hDc : l0.length ≤ DC) (hE : Kd.C k31 w EA l1.length l1) (hEc : l1.length ≤ EC) :
    Calls Try.prog 54 #[.agg #[.int .i64 i.f0, .string i.f1, .int .i64 i.f2, .int .i64 i.f3, .int .i64 i.f4, .slice A5 i.f5.length c5, .string i.f6, .string i.f7, .int .i64 i.f8], .pointer (some ⟨gp, 0, none⟩)] w fun e w' => e = .returned (.bool (itemBad l1.length i)) ∧ Below w.heap.size w w' := by
  have hb : Below w.heap.size w (w.alloc (Obj.cells #[.int .i64 i.f0, .string i.f1, .int .i64 i.f2, .int .i64 i.f3, .int .i64 i.f4, .slice A5 i.f5.length c5, .string i.f6, .string i.f7, .int .i64 i.f8] 47)) := (Below.refl _ _).alloc (Nat.le_refl _) _
  have hk : (w.alloc (Obj.cells #[.int .i64 i.f0, .string i.f1, .int .i64 i.f2, .int .i64 i.f3, .int .i64 i.f4, .slice A5 i.f5.length c5, .string i.f6, .string i.f7, .int .i64 i.f8] 47)).heap[w.heap.size]? = some (.cells #[.int .i64 i.f0, .string i.f1, .int .i64 i.f2, .int .i64 i.f3, .int .i64 i.f4, .slice A5 i.f5.length c5, .string i.f6, .string i.f7, .int .i64 i.f8] 47 (0, 0)) := blk_new w _
  have hg := blk_alloc h (Obj.cells #[.int .i64 i.f0, .string i.f1, .int .i64 i.f2, .int .i64 i.f3, .int .i64 i.f4, .slice A5 i.f5.length c5, .string i.f6, .string i.f7, .int .i64 i.f8] 47)
  have HD := Aside0.mk hD
  have HDc := Aside0.mk hDc
  have HE := Aside0.mk hE
  have HEc := Aside0.mk hEc
  clear hD hDc hE hEc h
  obtain ⟨M, hM⟩ : ∃ M, itemBad l1.length i = M := ⟨_, rfl⟩
  rw [hM]
  unfold itemBad at hM
  obtain ⟨e0, he0⟩ : ∃ b, pointsB l1.length i.f3 (hasE i.f0) = b := ⟨_, rfl⟩
  obtain ⟨e1, he1⟩ : ∃ b, pointsB l1.length i.f4 (hasF i.f0) = b := ⟨_, rfl⟩
  rw [he0, he1] at hM
  have HM := Aside0.mk hM
  have HP0 := Aside0.mk (show ast_points.f l0 l1 i.f3 (hasE i.f0) = some e0 by rw [points_f, he0])
  have HP1 := Aside0.mk (show ast_points.f l0 l1 i.f4 (hasF i.f0) = some e1 by rw [points_f, he1])
  clear hM he0 he1
  go_enter Try.func54, Try.ntmps54
  go_upto_region 1 with (fail)
  obtain ⟨W, hW⟩ : ∃ W, W = (w.alloc (Obj.cells #[.int .i64 i.f0, .string i.f1, .int .i64 i.f2, .int .i64 i.f3, .int .i64 i.f4, .slice A5 i.f5.length c5, .string i.f6, .string i.f7, .int .i64 i.f8] 47)) := ⟨_, rfl⟩
  rw [← hW] at hb hk hg ⊢
  clear hW
  have y0 := (blk_cell hk 0).trans rfl
  have y1 := (blk_cell hk 1).trans rfl
  have y2 := (blk_cell hk 2).trans rfl
  have y3 := (blk_cell hk 3).trans rfl
  have y4 := (blk_cell hk 4).trans rfl
  have y5 := (blk_cell hk 5).trans rfl
  have y6 := (blk_cell hk 6).trans rfl
  have y7 := (blk_cell hk 7).trans rfl
  have y8 := (blk_cell hk 8).trans rfl
  have z0 := (blk_cell hg 0).trans rfl
  have z1 := (blk_cell hg 1).trans rfl
  have HB := Aside0.mk hb
  have HKI := Aside0.mk hk
  have HGP := Aside0.mk hg
  clear hb hk hg
  cases e0 with
  | false =>
    have hM := HM.out
    simp only [Bool.not_false, Bool.true_or] at hM
    subst hM
    go_wp2_with (first | (go_at_call 40; refine (ast_has.calls 2 i.f0 _ _ _ (has_f 0 i.f0)).mono ?_; rintro e w1 ⟨rfl, ⟨nd, rfl⟩⟩) | (go_at_call 52; (with_reducible refine (ast_points.calls DA DC l0 EA EC l1 i.f3 (hasE i.f0) false _ (Kd.C_drewN (Kd.C_below HD.out HB.out) _) HDc.out (Kd.C_drewN (Kd.C_below HE.out HB.out) _) HEc.out HP0.out).mono ?_); rintro e w2 ⟨rfl, hb2⟩; have HB2 := Aside0.mk ((pw_below_drewN HB.out _).trans (hb2.mono (pw_below_drewN HB.out _).size)); clear hb2))
    go_ret
    exact ⟨rfl, HB2.out⟩
  | true =>
    have hM := HM.out
    simp only [Bool.not_true, Bool.false_or] at hM
    subst hM
    go_wp2_with (first | (go_at_call 40; refine (ast_has.calls 2 i.f0 _ _ _ (has_f 0 i.f0)).mono ?_; rintro e w1 ⟨rfl, ⟨nd, rfl⟩⟩) | (go_at_call 52; (with_reducible refine (ast_points.calls DA DC l0 EA EC l1 i.f3 (hasE i.f0) true _ (Kd.C_drewN (Kd.C_below HD.out HB.out) _) HDc.out (Kd.C_drewN (Kd.C_below HE.out HB.out) _) HEc.out HP0.out).mono ?_); rintro e w2 ⟨rfl, hb2⟩; have HB2 := Aside0.mk ((pw_below_drewN HB.out _).trans (hb2.mono (pw_below_drewN HB.out _).size)); have hk2 := blk_below (blk_drewN HKI.out nd) hb2; have hg2 := blk_below (blk_drewN HGP.out nd) hb2; have u3 := (blk_cell hk2 3).trans rfl; have u4 := (blk_cell hk2 4).trans rfl; have t0 := (blk_cell hg2 0).trans rfl; have t1 := (blk_cell hg2 1).trans rfl; clear hk2 hg2 hb2) | (go_at_call 52; (with_reducible refine (ast_points.calls DA DC l0 EA EC l1 i.f4 (hasF i.f0) e1 _ (Kd.C_below HD.out HB2.out) HDc.out (Kd.C_below HE.out HB2.out) HEc.out HP1.out).mono ?_); rintro e w3 ⟨rfl, hb3⟩; have HB3 := Aside0.mk (HB2.out.trans (hb3.mono HB2.out.size)); clear hb3))
    go_ret
    exact ⟨rfl, HB3.out⟩
set_option maxHeartbeats 4000000 in
set_option maxRecDepth 100000 in
theorem index_54 (gp : Nat) (DA : Option Addr) (DC : Nat) (l0 : List S45) (EA : Option Addr) (EC : Nat) (l1 : List S31) (A : Option Addr) (c : Nat) (l : List S47) (w : World) (hC : Kd.C k47 w A l.length l) (hc : l.length ≤ c) (hl : l.length ≤ 4000000000000000000) (h : w.heap[gp]? = some (.cells #[.slice DA l0.length DC, .slice EA l1.length EC] 25 (0, 0))) (hD : Kd.C k45 w DA l0.length l0) (hDc : l0.length ≤ DC) (hE : Kd.C k31 w EA l1.length l1) (hEc : l1.length ≤ EC) :
    Calls Try.prog 61 #[.slice A l.length c, .func (.func 54) #[] #[.pointer (some ⟨gp, 0, none⟩)]] w fun e w' => (∃ r : Int, e = .returned (.int .i64 r) ∧ (decide (0 ≤ r)) = l.any (itemBad l1.length)) ∧ Below w.heap.size w w' := by
  have HC := Aside0.mk hC
  have HK := Aside0.mk h
  have HL := Aside0.mk hl
  have HD := Aside0.mk hD
  have HDc := Aside0.mk hDc
  have HE := Aside0.mk hE
  have HEc := Aside0.mk hEc
  clear hC h hl hD hDc hE hEc
  obtain ⟨bad, hbad⟩ : ∃ f : S47 → Bool, itemBad l1.length = f := ⟨_, rfl⟩
  rw [hbad]
  have HBAD := Aside0.mk hbad
  clear hbad
  go_enter Try.func61, Try.ntmps61
  go_wp2
  go_loopw [5, 8] (fun _ v8 wr => ∃ x : Int, v8 = .int .i64 x ∧ Aside0 (0 ≤ x ∧ x ≤ (l.length : Int) ∧ ((l.drop x.toNat).any bad) = l.any bad) ∧ Aside0 (Below w.heap.size w wr)) (fun _ v8 _ => l.length - (intOf v8).toNat)
  case atStart => exact ⟨0, rfl, ⟨by omega, by omega, by simp⟩, ⟨Below.refl _ _⟩⟩
  case round =>
    obtain ⟨x, rfl, HX, HB⟩ := hrel
    by_cases hlt : x < (l.length : Int)
    · have p0 := HX.out.1
      have q0 := hlt
      obtain ⟨ad, A5, c5, ea, hx0, hx1, hx2, hx3, hx4, hx5, hx6, hx7, hx8, hl5, hi5⟩ := at_T47 (Kd.C_below HC.out HB.out) x p0 q0
      cases ea
      have hi : x.toNat < l.length := by omega
      have hrd : rd_T47 l x = l[x.toNat] := by
        unfold rd_T47
        simp [List.getD_eq_getElem?_getD, List.getElem?_eq_getElem hi]
      have hdrop : (l.drop x.toNat).any bad = (bad (rd_T47 l x) || (l.drop (x.toNat + 1)).any bad) := by
        rw [List.drop_eq_getElem_cons hi, List.any_cons, hrd]
      have HDR := Aside0.mk hdrop
      have HLT := Aside0.mk hlt
      have KO := item_any gp DA DC l0 EA EC l1 (rd_T47 l x) A5 c5 wr (blk_below HK.out HB.out) (Kd.C_below HD.out HB.out) HDc.out (Kd.C_below HE.out HB.out) HEc.out
      rw [show itemBad l1.length (rd_T47 l x) = bad (rd_T47 l x) by rw [← HBAD.out]] at KO
      have KO := Aside0.mk KO
      obtain ⟨b, hb⟩ : ∃ b, bad (rd_T47 l x) = b := ⟨_, rfl⟩
      rw [hb] at HDR KO
      clear hlt hi hrd hdrop hb
      replace p0 := eq_true p0
      replace q0 := eq_true q0
      cases b with
      | true =>
        go_wp2_with (go_at_call 54; refine KO.out.mono ?_; rintro e w' ⟨rfl, hbb⟩; have HB2 := Aside0.mk (HB.out.trans (hbb.mono HB.out.size)); clear hbb)
        go_ret
        refine ⟨⟨_, rfl, ?_⟩, HB2.out⟩
        rw [← HX.out.2.2, HDR.out, Bool.true_or]
        exact decide_eq_true HX.out.1
      | false =>
        go_wp2_with (go_at_call 54; refine KO.out.mono ?_; rintro e w' ⟨rfl, hbb⟩; have HB2 := Aside0.mk (HB.out.trans (hbb.mono HB.out.size)); clear hbb)
        go_roundw
        case rel =>
          have h1 := HX.out
          have h2 := HLT.out
          have h3 := HL.out
          refine ⟨x + 1, by rw [wrap_i64' (by omega) (by omega)], ⟨by omega, by omega, ?_⟩, HB2⟩
          rw [← h1.2.2, HDR.out, Bool.false_or, show (x + 1).toNat = x.toNat + 1 by omega]
        case measure =>
          have h1 := HX.out
          have h2 := HLT.out
          have h3 := HL.out
          have hw := wrap_i64' (n := x + 1) (by omega) (by omega)
          simp [intOf, hw]
          omega
    · have q0 : decide (x < (l.length : Int)) = false := decide_eq_false hlt
      have HEE := Aside0.mk (show l.any bad = false by
        rw [← HX.out.2.2, List.drop_of_length_le (by omega)]
        rfl)
      clear hlt
      go_wp2
      go_ret
      refine ⟨⟨_, rfl, ?_⟩, HB.out⟩
      rw [HEE.out]
      decide
set_option maxHeartbeats 1000000 in
theorem contains_54 (gp : Nat) (DA : Option Addr) (DC : Nat) (l0 : List S45) (EA : Option Addr) (EC : Nat) (l1 : List S31) (A : Option Addr) (c : Nat) (l : List S47) (w : World) (hC : Kd.C k47 w A l.length l) (hc : l.length ≤ c) (hl : l.length ≤ 4000000000000000000) (h : w.heap[gp]? = some (.cells #[.slice DA l0.length DC, .slice EA l1.length EC] 25 (0, 0))) (hD : Kd.C k45 w DA l0.length l0) (hDc : l0.length ≤ DC) (hE : Kd.C k31 w EA l1.length l1) (hEc : l1.length ≤ EC) :
    Calls Try.prog 53 #[.slice A l.length c, .func (.func 54) #[] #[.pointer (some ⟨gp, 0, none⟩)]] w fun e w' => e = .returned (.bool (l.any (itemBad l1.length))) ∧ Below w.heap.size w w' := by
  have K := Aside0.mk (index_54 gp DA DC l0 EA EC l1 A c l w hC hc hl h hD hDc hE hEc)
  clear hC hc hl h hD hDc hE hEc
  go_enter Try.func53, Try.ntmps53
  go_wp2_with (go_at_call 61; refine K.out.mono ?_; rintro e w' ⟨⟨r, rfl, hr⟩, hb⟩; have HR := Aside0.mk hr; have HB := Aside0.mk hb; clear hr hb)
  go_ret
  exact ⟨by rw [← HR.out]; rfl, HB.out⟩
set_option maxHeartbeats 4000000 in
set_option maxRecDepth 100000 in
theorem mayDecl_any (DA : Option Addr) (DC : Nat) (l0 : List S45) (EA : Option Addr) (EC : Nat) (l1 : List S31) (d : S45) (A2 : Option Addr) (c2 : Nat) (A3 : Option Addr) (c3 : Nat) (w : World) (hl3 : d.f3.length ≤ c3) (hi3 : Kd.C k47 w A3 d.f3.length d.f3) (hS : d.f3.length ≤ 4000000000000000000) (hD : Kd.C k45 w DA l0.length l0) (hDc : l0.length ≤ DC) (hE : Kd.C k31 w EA l1.length l1) (hEc : l1.length ≤ EC) :
    Calls Try.prog 29 #[.agg #[.slice DA l0.length DC, .slice EA l1.length EC], .agg #[.int .i64 d.f0, .string d.f1, .slice A2 d.f2.length c2, .slice A3 d.f3.length c3, .int .i64 d.f4, .int .i64 d.f5, .int .i64 d.f6]] w fun e w' => e = .returned (.bool (!(declBad l1.length d))) ∧ Below w.heap.size w w' := by
  have hb : Below w.heap.size w ((w.alloc (Obj.cells #[.slice DA l0.length DC, .slice EA l1.length EC] 25)).alloc (Obj.cells #[.int .i64 d.f0, .string d.f1, .slice A2 d.f2.length c2, .slice A3 d.f3.length c3, .int .i64 d.f4, .int .i64 d.f5, .int .i64 d.f6] 45)) := ((Below.refl _ _).alloc (Nat.le_refl _) _).alloc (by simp) _
  have hk : ((w.alloc (Obj.cells #[.slice DA l0.length DC, .slice EA l1.length EC] 25)).alloc (Obj.cells #[.int .i64 d.f0, .string d.f1, .slice A2 d.f2.length c2, .slice A3 d.f3.length c3, .int .i64 d.f4, .int .i64 d.f5, .int .i64 d.f6] 45)).heap[w.heap.size]? = some (.cells #[.slice DA l0.length DC, .slice EA l1.length EC] 25 (0, 0)) := blk_alloc (blk_new w _) _
  have hg : ((w.alloc (Obj.cells #[.slice DA l0.length DC, .slice EA l1.length EC] 25)).alloc (Obj.cells #[.int .i64 d.f0, .string d.f1, .slice A2 d.f2.length c2, .slice A3 d.f3.length c3, .int .i64 d.f4, .int .i64 d.f5, .int .i64 d.f6] 45)).heap[w.heap.size + 1]? = some (.cells #[.int .i64 d.f0, .string d.f1, .slice A2 d.f2.length c2, .slice A3 d.f3.length c3, .int .i64 d.f4, .int .i64 d.f5, .int .i64 d.f6] 45 (0, 0)) := by
    have := blk_new (w.alloc (Obj.cells #[.slice DA l0.length DC, .slice EA l1.length EC] 25)) (Obj.cells #[.int .i64 d.f0, .string d.f1, .slice A2 d.f2.length c2, .slice A3 d.f3.length c3, .int .i64 d.f4, .int .i64 d.f5, .int .i64 d.f6] 45)
    simpa using this
  have HD := Aside0.mk hD
  have HDc := Aside0.mk hDc
  have HE := Aside0.mk hE
  have HEc := Aside0.mk hEc
  have HI3 := Aside0.mk hi3
  have HL3 := Aside0.mk hl3
  have HS := Aside0.mk hS
  clear hD hDc hE hEc hi3 hl3 hS
  obtain ⟨M, hM⟩ : ∃ M, (!(declBad l1.length d)) = M := ⟨_, rfl⟩
  rw [hM]
  unfold declBad at hM
  obtain ⟨hh, hhh⟩ : ∃ b, (d.f0 == 1 || d.f0 == 2) = b := ⟨_, rfl⟩
  rw [hhh] at hM
  obtain ⟨e0, he0⟩ : ∃ b, pointsB l1.length d.f5 hh = b := ⟨_, rfl⟩
  rw [he0] at hM
  have HM := Aside0.mk hM
  have HP0 := Aside0.mk (show ast_points.f l0 l1 d.f5 hh = some e0 by rw [points_f, he0])
  have HHH := Aside0.mk hhh
  clear hM he0 hhh
  go_enter Try.func29, Try.ntmps29
  go_upto_region 1 with (fail)
  obtain ⟨W, hW⟩ : ∃ W, W = ((w.alloc (Obj.cells #[.slice DA l0.length DC, .slice EA l1.length EC] 25)).alloc (Obj.cells #[.int .i64 d.f0, .string d.f1, .slice A2 d.f2.length c2, .slice A3 d.f3.length c3, .int .i64 d.f4, .int .i64 d.f5, .int .i64 d.f6] 45)) := ⟨_, rfl⟩
  rw [← hW] at hb hk hg ⊢
  clear hW
  have y0 := (blk_cell hk 0).trans rfl
  have y1 := (blk_cell hk 1).trans rfl
  have z0 := (blk_cell hg 0).trans rfl
  have z1 := (blk_cell hg 1).trans rfl
  have z2 := (blk_cell hg 2).trans rfl
  have z3 := (blk_cell hg 3).trans rfl
  have z4 := (blk_cell hg 4).trans rfl
  have z5 := (blk_cell hg 5).trans rfl
  have z6 := (blk_cell hg 6).trans rfl
  have HB := Aside0.mk hb
  have HKP := Aside0.mk hk
  have HGD := Aside0.mk hg
  clear hb hk hg
  cases h1 : (d.f0 == 1) with
  | true =>
    have hhh := HHH.out
    rw [h1, Bool.true_or] at hhh
    subst hhh
    cases e0 with
    | false =>
      have hM := HM.out
      simp only [Bool.not_false, Bool.true_or, Bool.not_true] at hM
      subst hM
      go_wp2_with (go_at_call 52; (with_reducible refine (ast_points.calls DA DC l0 EA EC l1 d.f5 _ false _ (Kd.C_below HD.out HB.out) HDc.out (Kd.C_below HE.out HB.out) HEc.out HP0.out).mono ?_); rintro e w2 ⟨rfl, hb2⟩; have HB2 := Aside0.mk (HB.out.trans (hb2.mono HB.out.size)); have HKP2 := Aside0.mk (blk_below HKP.out hb2); have hg2 := blk_below HGD.out hb2; have u3 := (blk_cell hg2 3).trans rfl; clear hg2 hb2)
      go_ret
      exact ⟨rfl, HB2.out⟩
    | true =>
      have hM := HM.out
      simp only [Bool.not_true, Bool.false_or] at hM
      subst hM
      go_wp2_with (first | (go_at_call 52; (with_reducible refine (ast_points.calls DA DC l0 EA EC l1 d.f5 _ true _ (Kd.C_below HD.out HB.out) HDc.out (Kd.C_below HE.out HB.out) HEc.out HP0.out).mono ?_); rintro e w2 ⟨rfl, hb2⟩; have HB2 := Aside0.mk (HB.out.trans (hb2.mono HB.out.size)); have HKP2 := Aside0.mk (blk_below HKP.out hb2); have hg2 := blk_below HGD.out hb2; have u3 := (blk_cell hg2 3).trans rfl; clear hg2 hb2) | (go_at_call 53; refine (contains_54 w.heap.size DA DC l0 EA EC l1 A3 c3 d.f3 _ (Kd.C_below HI3.out HB2.out) HL3.out HS.out HKP2.out (Kd.C_below HD.out HB2.out) HDc.out (Kd.C_below HE.out HB2.out) HEc.out).mono ?_; rintro e w3 ⟨rfl, hb3⟩; have HB3 := Aside0.mk (HB2.out.trans (hb3.mono HB2.out.size)); clear hb3))
      go_ret
      exact ⟨rfl, HB3.out⟩
  | false =>
    have hhh := HHH.out
    rw [h1, Bool.false_or] at hhh
    subst hhh
    cases e0 with
    | false =>
      have hM := HM.out
      simp only [Bool.not_false, Bool.true_or, Bool.not_true] at hM
      subst hM
      go_wp2_with (go_at_call 52; (with_reducible refine (ast_points.calls DA DC l0 EA EC l1 d.f5 _ false _ (Kd.C_below HD.out HB.out) HDc.out (Kd.C_below HE.out HB.out) HEc.out HP0.out).mono ?_); rintro e w2 ⟨rfl, hb2⟩; have HB2 := Aside0.mk (HB.out.trans (hb2.mono HB.out.size)); have HKP2 := Aside0.mk (blk_below HKP.out hb2); have hg2 := blk_below HGD.out hb2; have u3 := (blk_cell hg2 3).trans rfl; clear hg2 hb2)
      go_ret
      exact ⟨rfl, HB2.out⟩
    | true =>
      have hM := HM.out
      simp only [Bool.not_true, Bool.false_or] at hM
      subst hM
      go_wp2_with (first | (go_at_call 52; (with_reducible refine (ast_points.calls DA DC l0 EA EC l1 d.f5 _ true _ (Kd.C_below HD.out HB.out) HDc.out (Kd.C_below HE.out HB.out) HEc.out HP0.out).mono ?_); rintro e w2 ⟨rfl, hb2⟩; have HB2 := Aside0.mk (HB.out.trans (hb2.mono HB.out.size)); have HKP2 := Aside0.mk (blk_below HKP.out hb2); have hg2 := blk_below HGD.out hb2; have u3 := (blk_cell hg2 3).trans rfl; clear hg2 hb2) | (go_at_call 53; refine (contains_54 w.heap.size DA DC l0 EA EC l1 A3 c3 d.f3 _ (Kd.C_below HI3.out HB2.out) HL3.out HS.out HKP2.out (Kd.C_below HD.out HB2.out) HDc.out (Kd.C_below HE.out HB2.out) HEc.out).mono ?_; rintro e w3 ⟨rfl, hb3⟩; have HB3 := Aside0.mk (HB2.out.trans (hb3.mono HB2.out.size)); clear hb3))
      go_ret
      exact ⟨rfl, HB3.out⟩
set_option maxHeartbeats 4000000 in
set_option maxRecDepth 100000 in
theorem decl_any (gp : Nat) (DA : Option Addr) (DC : Nat) (l0 : List S45) (EA : Option Addr) (EC : Nat) (l1 : List S31) (d : S45) (A2 : Option Addr) (c2 : Nat) (A3 : Option Addr) (c3 : Nat) (w : World) (hl3 : d.f3.length ≤ c3) (hi3 : Kd.C k47 w A3 d.f3.length d.f3) (hS : d.f3.length ≤ 4000000000000000000) (h : w.heap[gp]? = some (.cells #[.slice DA l0.length DC, .slice EA l1.length EC] 25 (0, 0))) (hD : Kd.C k45 w DA l0.length l0) (hDc : l0.length ≤ DC) (hE : Kd.C k31 w EA l1.length l1) (hEc : l1.length ≤ EC) :
    Calls Try.prog 28 #[.agg #[.int .i64 d.f0, .string d.f1, .slice A2 d.f2.length c2, .slice A3 d.f3.length c3, .int .i64 d.f4, .int .i64 d.f5, .int .i64 d.f6], .pointer (some ⟨gp, 0, none⟩)] w fun e w' => e = .returned (.bool (declBad l1.length d)) ∧ Below w.heap.size w w' := by
  have hb : Below w.heap.size w (w.alloc (Obj.cells #[.int .i64 d.f0, .string d.f1, .slice A2 d.f2.length c2, .slice A3 d.f3.length c3, .int .i64 d.f4, .int .i64 d.f5, .int .i64 d.f6] 45)) := (Below.refl _ _).alloc (Nat.le_refl _) _
  have hk : (w.alloc (Obj.cells #[.int .i64 d.f0, .string d.f1, .slice A2 d.f2.length c2, .slice A3 d.f3.length c3, .int .i64 d.f4, .int .i64 d.f5, .int .i64 d.f6] 45)).heap[w.heap.size]? = some (.cells #[.int .i64 d.f0, .string d.f1, .slice A2 d.f2.length c2, .slice A3 d.f3.length c3, .int .i64 d.f4, .int .i64 d.f5, .int .i64 d.f6] 45 (0, 0)) := blk_new w _
  have hg := blk_alloc h (Obj.cells #[.int .i64 d.f0, .string d.f1, .slice A2 d.f2.length c2, .slice A3 d.f3.length c3, .int .i64 d.f4, .int .i64 d.f5, .int .i64 d.f6] 45)
  have K := fun (W : World) (hB : Below w.heap.size w W) => mayDecl_any DA DC l0 EA EC l1 d A2 c2 A3 c3 W hl3 (Kd.C_below hi3 hB) hS (Kd.C_below hD hB) hDc (Kd.C_below hE hB) hEc
  have HK := Aside0.mk K
  clear K hl3 hi3 hS hD hDc hE hEc h
  go_enter Try.func28, Try.ntmps28
  go_upto_region 1 with (fail)
  obtain ⟨W, hW⟩ : ∃ W, W = (w.alloc (Obj.cells #[.int .i64 d.f0, .string d.f1, .slice A2 d.f2.length c2, .slice A3 d.f3.length c3, .int .i64 d.f4, .int .i64 d.f5, .int .i64 d.f6] 45)) := ⟨_, rfl⟩
  rw [← hW] at hb hk hg ⊢
  clear hW
  have y0 := (blk_cell hk 0).trans rfl
  have y1 := (blk_cell hk 1).trans rfl
  have y2 := (blk_cell hk 2).trans rfl
  have y3 := (blk_cell hk 3).trans rfl
  have y4 := (blk_cell hk 4).trans rfl
  have y5 := (blk_cell hk 5).trans rfl
  have y6 := (blk_cell hk 6).trans rfl
  have z0 := (blk_cell hg 0).trans rfl
  have z1 := (blk_cell hg 1).trans rfl
  have HB := Aside0.mk hb
  clear hb hk hg
  go_wp2_with (go_at_call 29; refine (HK.out _ HB.out).mono ?_; rintro e w2 ⟨rfl, hb2⟩; have HB2 := Aside0.mk (HB.out.trans (hb2.mono HB.out.size)); clear hb2)
  go_ret
  exact ⟨by first | rfl | (rw [Bool.not_not]; rfl), HB2.out⟩
set_option maxHeartbeats 4000000 in
set_option maxRecDepth 100000 in
theorem index_28 (gp : Nat) (DA : Option Addr) (DC : Nat) (l0 : List S45) (EA : Option Addr) (EC : Nat) (l1 : List S31) (A : Option Addr) (c : Nat) (l : List S45) (w : World) (hC : Kd.C k45 w A l.length l) (hc : l.length ≤ c) (hl : l.length ≤ 4000000000000000000) (h : w.heap[gp]? = some (.cells #[.slice DA l0.length DC, .slice EA l1.length EC] 25 (0, 0))) (hD : Kd.C k45 w DA l0.length l0) (hDc : l0.length ≤ DC) (hE : Kd.C k31 w EA l1.length l1) (hEc : l1.length ≤ EC) (hS : ∀ d ∈ l, d.f3.length ≤ 4000000000000000000) :
    Calls Try.prog 51 #[.slice A l.length c, .func (.func 28) #[] #[.pointer (some ⟨gp, 0, none⟩)]] w fun e w' => (∃ r : Int, e = .returned (.int .i64 r) ∧ (decide (0 ≤ r)) = l.any (declBad l1.length)) ∧ Below w.heap.size w w' := by
  have HC := Aside0.mk hC
  have HK := Aside0.mk h
  have HL := Aside0.mk hl
  have HD := Aside0.mk hD
  have HDc := Aside0.mk hDc
  have HE := Aside0.mk hE
  have HEc := Aside0.mk hEc
  have HS := Aside0.mk hS
  clear hC h hl hD hDc hE hEc hS
  obtain ⟨bad, hbad⟩ : ∃ f : S45 → Bool, declBad l1.length = f := ⟨_, rfl⟩
  rw [hbad]
  have HBAD := Aside0.mk hbad
  clear hbad
  go_enter Try.func51, Try.ntmps51
  go_wp2
  go_loopw [5, 8] (fun _ v8 wr => ∃ x : Int, v8 = .int .i64 x ∧ Aside0 (0 ≤ x ∧ x ≤ (l.length : Int) ∧ ((l.drop x.toNat).any bad) = l.any bad) ∧ Aside0 (Below w.heap.size w wr)) (fun _ v8 _ => l.length - (intOf v8).toNat)
  case atStart => exact ⟨0, rfl, ⟨by omega, by omega, by simp⟩, ⟨Below.refl _ _⟩⟩
  case round =>
    obtain ⟨x, rfl, HX, HB⟩ := hrel
    by_cases hlt : x < (l.length : Int)
    · have p0 := HX.out.1
      have q0 := hlt
      obtain ⟨ad, A2, c2, A3, c3, ea, hx0, hx1, hx2, hx3, hx4, hx5, hx6, hl2, hi2, hl3, hi3⟩ := at_T45 (Kd.C_below HC.out HB.out) x p0 q0
      cases ea
      have hi : x.toNat < l.length := by omega
      have hrd : rd_T45 l x = l[x.toNat] := by
        unfold rd_T45
        simp [List.getD_eq_getElem?_getD, List.getElem?_eq_getElem hi]
      have hdrop : (l.drop x.toNat).any bad = (bad (rd_T45 l x) || (l.drop (x.toNat + 1)).any bad) := by
        rw [List.drop_eq_getElem_cons hi, List.any_cons, hrd]
      have HDR := Aside0.mk hdrop
      have HLT := Aside0.mk hlt
      have KO := decl_any gp DA DC l0 EA EC l1 (rd_T45 l x) A2 c2 A3 c3 wr hl3 hi3 (HS.out _ (by rw [hrd]; exact List.getElem_mem hi)) (blk_below HK.out HB.out) (Kd.C_below HD.out HB.out) HDc.out (Kd.C_below HE.out HB.out) HEc.out
      rw [show declBad l1.length (rd_T45 l x) = bad (rd_T45 l x) by rw [← HBAD.out]] at KO
      have KO := Aside0.mk KO
      obtain ⟨b, hb⟩ : ∃ b, bad (rd_T45 l x) = b := ⟨_, rfl⟩
      rw [hb] at HDR KO
      clear hlt hi hrd hdrop hb
      replace p0 := eq_true p0
      replace q0 := eq_true q0
      cases b with
      | true =>
        go_wp2_with (go_at_call 28; refine KO.out.mono ?_; rintro e w' ⟨rfl, hbb⟩; have HB2 := Aside0.mk (HB.out.trans (hbb.mono HB.out.size)); clear hbb)
        go_ret
        refine ⟨⟨_, rfl, ?_⟩, HB2.out⟩
        rw [← HX.out.2.2, HDR.out, Bool.true_or]
        exact decide_eq_true HX.out.1
      | false =>
        go_wp2_with (go_at_call 28; refine KO.out.mono ?_; rintro e w' ⟨rfl, hbb⟩; have HB2 := Aside0.mk (HB.out.trans (hbb.mono HB.out.size)); clear hbb)
        go_roundw
        case rel =>
          have h1 := HX.out
          have h2 := HLT.out
          have h3 := HL.out
          refine ⟨x + 1, by rw [wrap_i64' (by omega) (by omega)], ⟨by omega, by omega, ?_⟩, HB2⟩
          rw [← h1.2.2, HDR.out, Bool.false_or, show (x + 1).toNat = x.toNat + 1 by omega]
        case measure =>
          have h1 := HX.out
          have h2 := HLT.out
          have h3 := HL.out
          have hw := wrap_i64' (n := x + 1) (by omega) (by omega)
          simp [intOf, hw]
          omega
    · have q0 : decide (x < (l.length : Int)) = false := decide_eq_false hlt
      have HEE := Aside0.mk (show l.any bad = false by
        rw [← HX.out.2.2, List.drop_of_length_le (by omega)]
        rfl)
      clear hlt
      go_wp2
      go_ret
      refine ⟨⟨_, rfl, ?_⟩, HB.out⟩
      rw [HEE.out]
      decide
set_option maxHeartbeats 1000000 in
theorem contains_28 (gp : Nat) (DA : Option Addr) (DC : Nat) (l0 : List S45) (EA : Option Addr) (EC : Nat) (l1 : List S31) (A : Option Addr) (c : Nat) (l : List S45) (w : World) (hC : Kd.C k45 w A l.length l) (hc : l.length ≤ c) (hl : l.length ≤ 4000000000000000000) (h : w.heap[gp]? = some (.cells #[.slice DA l0.length DC, .slice EA l1.length EC] 25 (0, 0))) (hD : Kd.C k45 w DA l0.length l0) (hDc : l0.length ≤ DC) (hE : Kd.C k31 w EA l1.length l1) (hEc : l1.length ≤ EC) (hS : ∀ d ∈ l, d.f3.length ≤ 4000000000000000000) :
    Calls Try.prog 27 #[.slice A l.length c, .func (.func 28) #[] #[.pointer (some ⟨gp, 0, none⟩)]] w fun e w' => e = .returned (.bool (l.any (declBad l1.length))) ∧ Below w.heap.size w w' := by
  have K := Aside0.mk (index_28 gp DA DC l0 EA EC l1 A c l w hC hc hl h hD hDc hE hEc hS)
  clear hC hc hl h hD hDc hE hEc hS
  go_enter Try.func27, Try.ntmps27
  go_wp2_with (go_at_call 51; refine K.out.mono ?_; rintro e w' ⟨⟨r, rfl, hr⟩, hb⟩; have HR := Aside0.mk hr; have HB := Aside0.mk hb; clear hr hb)
  go_ret
  exact ⟨by rw [← HR.out]; rfl, HB.out⟩
#print axioms contains_28
end Go.Proofs.Ytediidkiedifcaa.Q
