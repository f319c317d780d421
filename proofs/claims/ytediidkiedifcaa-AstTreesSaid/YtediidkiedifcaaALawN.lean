/- The law AstNames, walked. -/
import Derived.Test.YtediidkiedifcaaANamesL
import Derived.Deep.QuietTactic
import Derived.BigQuiet
namespace Go.Proofs.Ytediidkiedifcaa.Q
set_option linter.unusedVariables false
set_option linter.unusedSimpArgs false
open Go.RowKit Go.Proofs.YtediidkiedifcaaW.PrintWords Go.Proofs.YtediidkiedifcaaW.PrintLast Go.Proofs.YtediidkiedifcaaW.PrintMore
set_option maxHeartbeats 16000000 in
set_option maxRecDepth 100000 in
def knB (l1 : List S31) (x : Nat) (l : List Int) : Bool := ((rd_T31 l1 (x : Int)).f0 != 3) || l.any fun y => (rd_T31 l1 y).f0 == 3 && (rd_T31 l1 y).f4.toList == (rd_T31 l1 (x : Int)).f4.toList
theorem names_le (xs : List S31) : ∀ (l : List Int) (out : List ByteArray), (namesT xs l out).length ≤ out.length + l.length
  | [], out => Nat.le_refl _
  | y :: l, out => by
    have h1 := names_le xs l (addN xs out y)
    have h2 : (addN xs out y).length ≤ out.length + 1 := by unfold addN; split <;> simp
    show (namesT xs l (addN xs out y)).length ≤ _
    rw [List.length_cons]
    omega
theorem names_count (l1 : List S31) (x : Nat) (l : List Int) : (namesT l1 (l ++ [(x : Int)]) []).length = (namesT l1 l []).length + (if knB l1 x l = true then 0 else 1) := by
  have hh : hasS (namesT l1 l []) (nameOf l1 (x : Int)) = l.any fun y => isName l1 y && (nameOf l1 (x : Int)).toList == (nameOf l1 y).toList := by rw [hasS_names]; simp [hasS]
  have hk : knB l1 x l = !(isName l1 (x : Int) && !(hasS (namesT l1 l []) (nameOf l1 (x : Int)))) := by
    rw [hh]
    unfold knB isName nameOf
    cases hx : ((rd_T31 l1 (x : Int)).f0 == 3) with
    | false => simp [bne, hx]
    | true =>
      simp only [bne, hx, Bool.not_true, Bool.false_or, Bool.true_and, Bool.not_not]
      congr 1
      funext y
      congr 1
      exact Bool.beq_comm
  rw [namesT_append, hk]
  show (addN l1 (namesT l1 l []) (x : Int)).length = _
  unfold addN
  cases hc : (isName l1 (x : Int) && !(hasS (namesT l1 l []) (nameOf l1 (x : Int)))) with
  | false => simp
  | true => simp
theorem tree_mem {l0 : List S45} {l1 : List S31} (h : Fine l0 l1) : ∀ {x : Int}, 0 ≤ x → x < (l1.length : Int) → ∀ y ∈ Q.treeV l1 x, 0 ≤ y ∧ y ≤ x := by
  have key : ∀ (n : Nat) (x : Int), 0 ≤ x → x.toNat < n → x < (l1.length : Int) → ∀ y ∈ treeAll n l1 x, 0 ≤ y ∧ y ≤ x := by
    intro n
    induction n with
    | zero => intro x _ h; omega
    | succ n ih =>
      intro x h0 hxn h1 y hy
      rw [treeAll] at hy
      rcases List.mem_cons.1 hy with rfl | hy
      · omega
      · obtain ⟨c, hc, hy⟩ := List.mem_flatMap.1 hy
        have hcp := h.par x h0 h1 c hc
        have := ih c hcp.1 (by omega) (by omega) y hy
        omega
  intro x h0 h1 y hy
  exact key (x.toNat + 1) x h0 (by omega) h1 y hy
theorem rd_take31 {l1 : List S31} {e : Nat} {y : Int} (h1 : y ≤ (e : Int)) : rd_T31 (l1.take (e + 1)) y = rd_T31 l1 y := by
  unfold rd_T31
  rw [List.getD_eq_getElem?_getD, List.getD_eq_getElem?_getD, List.getElem?_take_of_lt (by omega)]
theorem tree_take {l0 : List S45} {l1 : List S31} (h : Fine l0 l1) {e : Nat} (he : e < l1.length) : ∀ (n : Nat) (x : Int), 0 ≤ x → x ≤ (e : Int) → treeAll n (l1.take (e + 1)) x = treeAll n l1 x
  | 0, x, _, _ => rfl
  | n + 1, x, h0, h1 => by
    rw [treeAll, treeAll, rd_take31 h1]
    congr 1
    have key : ∀ ps : List Int, (∀ c ∈ ps, 0 ≤ c ∧ c < x) → ps.flatMap (treeAll n (l1.take (e + 1))) = ps.flatMap (treeAll n l1) := by
      intro ps
      induction ps with
      | nil => intro _; rfl
      | cons c cs ih =>
        intro hh
        have hc := hh c List.mem_cons_self
        rw [List.flatMap_cons, List.flatMap_cons, ih (fun d hd => hh d (List.mem_cons_of_mem _ hd)), tree_take h he n c hc.1 (by omega)]
    exact key _ (h.par x h0 (by omega))
theorem namesT_take {l1 : List S31} {e : Nat} : ∀ (l : List Int) (out : List ByteArray), (∀ y ∈ l, y ≤ (e : Int)) → namesT (l1.take (e + 1)) l out = namesT l1 l out
  | [], out, _ => rfl
  | y :: l, out, h => by
    show namesT _ l (addN _ out y) = namesT _ l (addN _ out y)
    have e1 : addN (l1.take (e + 1)) out y = addN l1 out y := by unfold addN isName nameOf; rw [rd_take31 (h y List.mem_cons_self)]
    rw [e1, namesT_take l _ (fun z hz => h z (List.mem_cons_of_mem _ hz))]
theorem names_prefix {l0 : List S45} {l1 : List S31} (h : Fine l0 l1) {e : Nat} (he : e < l1.length) : ast_Names.f [] (l1.take (e + 1)) (e : Int) = some (namesP l1 e) := by
  have hl : (l1.take (e + 1)).length = e + 1 := by rw [List.length_take]; omega
  have h2 : Fine [] (l1.take (e + 1)) := by
    refine ⟨⟨by simp, by have := h.s.n1; omega, by simp, fun x hx => h.s.x7 x (List.mem_of_mem_take hx)⟩, ?_⟩
    have hm := h.m
    unfold mayP at hm ⊢
    rw [Bool.and_eq_true] at hm
    rw [allM_take hm.1]
    rfl
  unfold ast_Names.f
  rw [h2.right (by omega) (by omega), Option.bind_some, if_pos rfl, Int.toNat_natCast, namesP_eq h2.par (by omega), namesP_eq h.par he]
  have ht : Q.treeV (l1.take (e + 1)) (e : Int) = Q.treeV l1 (e : Int) := tree_take h he _ _ (by omega) (by omega)
  rw [ht, namesT_take _ _ (fun y hy => (tree_mem h (by omega) (by omega) y hy).2)]
theorem astrolabelaw04_May2 {A0 : Option Addr} {c0 : Nat} {l0 : List S45} {A1 : Option Addr} {c1 : Nat} {l1 : List S31} {w : World} {r : Bool} (V : World) (hV : Below w.heap.size w V) (hD : Kd.C k45 w A0 l0.length l0) (hDc : l0.length ≤ c0) (hE : Kd.C k31 w A1 l1.length l1) (hEc : l1.length ≤ c1) (h : ast_May.f l0 l1 = some r) : Calls Try.prog 13 #[.agg #[.slice A0 l0.length c0, .slice A1 l1.length c1]] V fun e w' => e = .returned (.bool r) ∧ Below V.heap.size V w' :=
  astrolaberef04_May.calls A0 c0 l0 A1 c1 l1 r V (Kd.C_below hD hV) hDc (Kd.C_below hE hV) hEc h
set_option maxHeartbeats 16000000 in
set_option maxRecDepth 100000 in
theorem names_walk (A0 : Option Addr) (c0 : Nat) (l0 : List S45) (A1 : Option Addr) (c1 : Nat) (l1 : List S31) (a : Int) (w : World) (hD : Kd.C k45 w A0 l0.length l0) (hDc : l0.length ≤ c0) (hE : Kd.C k31 w A1 l1.length l1) (hEc : l1.length ≤ c1) (hs : Sz l0 l1) :
    Calls Try.prog 6 #[.agg #[.slice A0 l0.length c0, .slice A1 l1.length c1], .int .i64 a] w fun e w' => e = .returned (.bool true) ∧ Below w.heap.size w w' := by
  have hB : Below w.heap.size w (w.alloc (Obj.cells #[.slice A0 l0.length c0, .slice A1 l1.length c1] 25)) := (Below.refl _ _).alloc (Nat.le_refl _) _
  have hK : (w.alloc (Obj.cells #[.slice A0 l0.length c0, .slice A1 l1.length c1] 25)).heap[w.heap.size]? = some (Obj.cells #[.slice A0 l0.length c0, .slice A1 l1.length c1] 25 (0, 0)) := blk_new w _
  obtain ⟨gb, hgb, hsm⟩ := great_f hs
  obtain ⟨kG, hkG⟩ := hgb.rounds
  have KG := Aside0.mk (show ∀ V, Below w.heap.size w V → Calls Try.prog 9 #[.agg #[.slice A0 l0.length c0, .slice A1 l1.length c1]] V fun e w' => e = .returned (.bool gb) ∧ Below V.heap.size V w' from fun V hV => astrolabelaw04_Great.calls kG A0 c0 l0 A1 c1 l1 gb V (Kd.C_below hD hV) hDc (Kd.C_below hE hV) hEc hkG)
  have HSM := Aside0.mk hsm
  have HD := Aside0.mk hD
  have HDc := Aside0.mk hDc
  have HE := Aside0.mk hE
  have HEc := Aside0.mk hEc
  clear hD hDc hE hEc hs hgb hsm hkG
  go_enter Try.func6, Try.ntmps6
  go_upto_region 1 with (fail)
  obtain ⟨W, hW⟩ : ∃ W, W = (w.alloc (Obj.cells #[.slice A0 l0.length c0, .slice A1 l1.length c1] 25)) := ⟨_, rfl⟩
  rw [← hW] at hB hK ⊢
  clear hW
  have HB := Aside0.mk hB
  have HK := Aside0.mk hK
  clear hB hK
  go_upto_region 3 with (go_at_call 8; refine (astrolabelaw04_alive.calls true _ rfl).mono ?_; rintro e w1 ⟨rfl, hb1⟩; have HB1 := Aside0.mk (HB.out.trans (hb1.mono HB.out.size)); have HK1 := Aside0.mk (blk_below HK.out hb1); clear hb1)
  clear HB HK
  have z0 : w1.cell? ⟨w.heap.size, 0, none⟩ = some (.slice A0 l0.length c0) := (blk_cell HK1.out 0).trans rfl
  have z1 : w1.cell? ⟨w.heap.size, 1, none⟩ = some (.slice A1 l1.length c1) := (blk_cell HK1.out 1).trans rfl
  cases gb with
  | true =>
    go_wp2_with (go_at_call 9; refine (KG.out _ HB1.out).mono ?_; rintro e w2 ⟨rfl, hb2⟩; have HB2 := Aside0.mk (HB1.out.trans (hb2.mono HB1.out.size)); have HK2 := Aside0.mk (blk_below HK1.out hb2); have y0 : w2.cell? ⟨w.heap.size, 0, none⟩ = some (.slice A0 l0.length c0) := (blk_cell HK2.out 0).trans rfl; have y1 : w2.cell? ⟨w.heap.size, 1, none⟩ = some (.slice A1 l1.length c1) := (blk_cell HK2.out 1).trans rfl; clear hb2)
    go_ret
    exact ⟨rfl, HB2.out⟩
  | false =>
    have HS := Aside0.mk (HSM.out rfl)
    obtain ⟨mb, hmb⟩ : ∃ b, mayP l0 l1 = b := ⟨_, rfl⟩
    have KM := Aside0.mk (show ∀ V, Below w.heap.size w V → Calls Try.prog 13 #[.agg #[.slice A0 l0.length c0, .slice A1 l1.length c1]] V fun e w' => e = .returned (.bool mb) ∧ Below V.heap.size V w' from fun V hV => astrolabelaw04_May2 V hV HD.out HDc.out HE.out HEc.out (HS.out.may.trans (by rw [hmb])))
    have HMB := Aside0.mk hmb
    clear hmb HSM
    cases mb with
    | false =>
      go_wp2_with (first | (go_at_call 9; refine (KG.out _ HB1.out).mono ?_; rintro e w2 ⟨rfl, hb2⟩; have HB2 := Aside0.mk (HB1.out.trans (hb2.mono HB1.out.size)); have HK2 := Aside0.mk (blk_below HK1.out hb2); have y0 : w2.cell? ⟨w.heap.size, 0, none⟩ = some (.slice A0 l0.length c0) := (blk_cell HK2.out 0).trans rfl; have y1 : w2.cell? ⟨w.heap.size, 1, none⟩ = some (.slice A1 l1.length c1) := (blk_cell HK2.out 1).trans rfl; clear hb2) | (go_at_call 13; refine (KM.out _ HB2.out).mono ?_; rintro e w3 ⟨rfl, hb3⟩; have HB3 := Aside0.mk (HB2.out.trans (hb3.mono HB2.out.size)); have HK3 := Aside0.mk (blk_below HK2.out hb3); have x0 : w3.cell? ⟨w.heap.size, 0, none⟩ = some (.slice A0 l0.length c0) := (blk_cell HK3.out 0).trans rfl; have x1 : w3.cell? ⟨w.heap.size, 1, none⟩ = some (.slice A1 l1.length c1) := (blk_cell HK3.out 1).trans rfl; clear hb3))
      go_ret
      exact ⟨rfl, HB3.out⟩
    | true =>
      have HF := Aside0.mk (show Fine l0 l1 from ⟨HS.out, HMB.out⟩)
      by_cases h0 : a < 0
      · replace h0 := eq_true h0
        go_wp2_with (first | (go_at_call 9; refine (KG.out _ HB1.out).mono ?_; rintro e w2 ⟨rfl, hb2⟩; have HB2 := Aside0.mk (HB1.out.trans (hb2.mono HB1.out.size)); have HK2 := Aside0.mk (blk_below HK1.out hb2); have y0 : w2.cell? ⟨w.heap.size, 0, none⟩ = some (.slice A0 l0.length c0) := (blk_cell HK2.out 0).trans rfl; have y1 : w2.cell? ⟨w.heap.size, 1, none⟩ = some (.slice A1 l1.length c1) := (blk_cell HK2.out 1).trans rfl; clear hb2) | (go_at_call 13; refine (KM.out _ HB2.out).mono ?_; rintro e w3 ⟨rfl, hb3⟩; have HB3 := Aside0.mk (HB2.out.trans (hb3.mono HB2.out.size)); have HK3 := Aside0.mk (blk_below HK2.out hb3); have x0 : w3.cell? ⟨w.heap.size, 0, none⟩ = some (.slice A0 l0.length c0) := (blk_cell HK3.out 0).trans rfl; have x1 : w3.cell? ⟨w.heap.size, 1, none⟩ = some (.slice A1 l1.length c1) := (blk_cell HK3.out 1).trans rfl; clear hb3))
        go_ret
        exact ⟨rfl, HB3.out⟩
      · by_cases h1 : (l1.length : Int) ≤ a
        · replace h0 := eq_false h0
          replace h1 := eq_true h1
          go_wp2_with (first | (go_at_call 9; refine (KG.out _ HB1.out).mono ?_; rintro e w2 ⟨rfl, hb2⟩; have HB2 := Aside0.mk (HB1.out.trans (hb2.mono HB1.out.size)); have HK2 := Aside0.mk (blk_below HK1.out hb2); have y0 : w2.cell? ⟨w.heap.size, 0, none⟩ = some (.slice A0 l0.length c0) := (blk_cell HK2.out 0).trans rfl; have y1 : w2.cell? ⟨w.heap.size, 1, none⟩ = some (.slice A1 l1.length c1) := (blk_cell HK2.out 1).trans rfl; clear hb2) | (go_at_call 13; refine (KM.out _ HB2.out).mono ?_; rintro e w3 ⟨rfl, hb3⟩; have HB3 := Aside0.mk (HB2.out.trans (hb3.mono HB2.out.size)); have HK3 := Aside0.mk (blk_below HK2.out hb3); have x0 : w3.cell? ⟨w.heap.size, 0, none⟩ = some (.slice A0 l0.length c0) := (blk_cell HK3.out 0).trans rfl; have x1 : w3.cell? ⟨w.heap.size, 1, none⟩ = some (.slice A1 l1.length c1) := (blk_cell HK3.out 1).trans rfl; clear hb3))
          go_ret
          exact ⟨rfl, HB3.out⟩
        · have HA := Aside0.mk (show 0 ≤ a ∧ a < (l1.length : Int) by omega)
          obtain ⟨kS, hkS⟩ := (HF.out.size 2000 (by omega) HA.out.1 HA.out.2).rounds
          obtain ⟨sz, hsz⟩ : ∃ n : Nat, min 2000 (Q.treeV l1 a).length = n := ⟨_, rfl⟩
          rw [hsz] at hkS
          have KS := Aside0.mk (show ∀ V, Below w.heap.size w V → Calls Try.prog 19 #[.agg #[.slice A0 l0.length c0, .slice A1 l1.length c1], .int .i64 a, .int .i64 2000] V fun e w' => e = .returned (.int .i64 (sz : Int)) ∧ Below V.heap.size V w' from fun V hV => astrolabelaw04_size.calls kS A0 c0 l0 A1 c1 l1 a 2000 (sz : Int) V (Kd.C_below HD.out hV) HDc.out (Kd.C_below HE.out hV) HEc.out hkS)
          have HSZ := Aside0.mk hsz
          clear hsz hkS
          replace h0 := eq_false h0
          replace h1 := eq_false h1
          by_cases hbig : (2000 : Int) ≤ (sz : Int)
          · replace hbig := eq_true hbig
            go_wp2_with (first | (go_at_call 9; refine (KG.out _ HB1.out).mono ?_; rintro e w2 ⟨rfl, hb2⟩; have HB2 := Aside0.mk (HB1.out.trans (hb2.mono HB1.out.size)); have HK2 := Aside0.mk (blk_below HK1.out hb2); have y0 : w2.cell? ⟨w.heap.size, 0, none⟩ = some (.slice A0 l0.length c0) := (blk_cell HK2.out 0).trans rfl; have y1 : w2.cell? ⟨w.heap.size, 1, none⟩ = some (.slice A1 l1.length c1) := (blk_cell HK2.out 1).trans rfl; clear hb2) | (go_at_call 13; refine (KM.out _ HB2.out).mono ?_; rintro e w3 ⟨rfl, hb3⟩; have HB3 := Aside0.mk (HB2.out.trans (hb3.mono HB2.out.size)); have HK3 := Aside0.mk (blk_below HK2.out hb3); have x0 : w3.cell? ⟨w.heap.size, 0, none⟩ = some (.slice A0 l0.length c0) := (blk_cell HK3.out 0).trans rfl; have x1 : w3.cell? ⟨w.heap.size, 1, none⟩ = some (.slice A1 l1.length c1) := (blk_cell HK3.out 1).trans rfl; clear hb3) | (go_at_call 19; refine (KS.out _ HB3.out).mono ?_; rintro e w4 ⟨rfl, hb4⟩; have HB4 := Aside0.mk (HB3.out.trans (hb4.mono HB3.out.size)); have HK4 := Aside0.mk (blk_below HK3.out hb4); clear hb4))
            go_ret
            exact ⟨rfl, HB4.out⟩
          · have HTL := Aside0.mk (show (Q.treeV l1 a).length ≤ 2000 by have := HSZ.out; omega)
            replace hbig := eq_false hbig
            go_upto_region 5 with (first | (go_at_call 9; refine (KG.out _ HB1.out).mono ?_; rintro e w2 ⟨rfl, hb2⟩; have HB2 := Aside0.mk (HB1.out.trans (hb2.mono HB1.out.size)); have HK2 := Aside0.mk (blk_below HK1.out hb2); have y0 : w2.cell? ⟨w.heap.size, 0, none⟩ = some (.slice A0 l0.length c0) := (blk_cell HK2.out 0).trans rfl; have y1 : w2.cell? ⟨w.heap.size, 1, none⟩ = some (.slice A1 l1.length c1) := (blk_cell HK2.out 1).trans rfl; clear hb2) | (go_at_call 13; refine (KM.out _ HB2.out).mono ?_; rintro e w3 ⟨rfl, hb3⟩; have HB3 := Aside0.mk (HB2.out.trans (hb3.mono HB2.out.size)); have HK3 := Aside0.mk (blk_below HK2.out hb3); have x0 : w3.cell? ⟨w.heap.size, 0, none⟩ = some (.slice A0 l0.length c0) := (blk_cell HK3.out 0).trans rfl; have x1 : w3.cell? ⟨w.heap.size, 1, none⟩ = some (.slice A1 l1.length c1) := (blk_cell HK3.out 1).trans rfl; clear hb3) | (go_at_call 19; refine (KS.out _ HB3.out).mono ?_; rintro e w4 ⟨rfl, hb4⟩; have HB4 := Aside0.mk (HB3.out.trans (hb4.mono HB3.out.size)); have HK4 := Aside0.mk (blk_below HK3.out hb4); clear hb4))
            clear KG KM KS HB1 HB2 HB3 HK1 HK2 HK3 z0 z1 y0 y1 x0 x1
            have hn4 : (a.toNat : Int) = a := Int.toNat_of_nonneg HA.out.1
            have HNT := Aside0.mk (show namesP l1 a.toNat = namesT l1 (Q.treeV l1 a) [] by have := namesP_eq HF.out.par (e := a.toNat) (by have := HA.out; omega); rwa [hn4] at this)
            have KN := Aside0.mk (ast_Names.calls A0 c0 l0 A1 c1 l1 a (namesP l1 a.toNat) w4 (Kd.C_below HD.out HB4.out) HDc.out (Kd.C_below HE.out HB4.out) HEc.out (by unfold ast_Names.f; rw [HF.out.right HA.out.1 HA.out.2, Option.bind_some, if_pos rfl]))
            have HTR := Aside0.mk (show ast_Tree.f l0 l1 a = some (Q.treeV l1 a) by rw [HF.out.tree HA.out.1 HA.out.2, List.take_of_length_le (Nat.le_trans HTL.out (by decide))])
            obtain ⟨ns, hns⟩ : ∃ ns, namesP l1 a.toNat = ns := ⟨_, rfl⟩
            obtain ⟨T, hT⟩ : ∃ T, Q.treeV l1 a = T := ⟨_, rfl⟩
            rw [hns, hT] at HNT
            rw [hns] at KN
            rw [hT] at HTR HTL
            have HTM := Aside0.mk (show ∀ y ∈ T, 0 ≤ y ∧ y ≤ a by rw [← hT]; exact tree_mem HF.out HA.out.1 HA.out.2)
            have HTD := Aside0.mk hT
            have HND := Aside0.mk hns
            clear hn4 hns hT
            have z0 : w4.cell? ⟨w.heap.size, 0, none⟩ = some (.slice A0 l0.length c0) := (blk_cell HK4.out 0).trans rfl
            have z1 : w4.cell? ⟨w.heap.size, 1, none⟩ = some (.slice A1 l1.length c1) := (blk_cell HK4.out 1).trans rfl
            go_upto_region 6 with (go_at_call 15; refine KN.out.mono ?_; rintro e w5 ⟨vn, rfl, hrn, hbn⟩; obtain ⟨An, cn, rfl⟩ := Kd.R_slice hrn; have HRN := Aside0.mk hrn; have HB5 := Aside0.mk (HB4.out.trans (hbn.mono HB4.out.size)); have HK5 := Aside0.mk (blk_below HK4.out hbn); clear hrn hbn)
            clear z0 z1 KN HB4 HK4
            have z0 : w5.cell? ⟨w.heap.size, 0, none⟩ = some (.slice A0 l0.length c0) := (blk_cell HK5.out 0).trans rfl
            have z1 : w5.cell? ⟨w.heap.size, 1, none⟩ = some (.slice A1 l1.length c1) := (blk_cell HK5.out 1).trans rfl
            have KT := Aside0.mk (ast_Tree.calls A0 c0 l0 A1 c1 l1 a T w5 (Kd.C_below HD.out HB5.out) HDc.out (Kd.C_below HE.out HB5.out) HEc.out HTR.out)
            go_upto_region 7 with (go_at_call 14; refine KT.out.mono ?_; rintro e w6 ⟨vt, rfl, hrt, hbt⟩; obtain ⟨At, ct, rfl⟩ := Kd.R_slice hrt; have HRT := Aside0.mk hrt; have HRN6 := Aside0.mk (Kd.R_below HRN.out hbt); have HB6 := Aside0.mk (HB5.out.trans (hbt.mono HB5.out.size)); have HK6 := Aside0.mk (blk_below HK5.out hbt); clear hrt hbt)
            clear z0 z1 KT HB5 HK5 HRN
            go_wp2
            go_loopw [7, 8] (fun v7 v8 wr => ∃ i : Nat, v8 = .int .i64 (i : Int) ∧ v7 = .int .i64 ((namesT l1 (T.take i) []).length : Int) ∧ i ≤ T.length ∧ Aside0 (Kd.R Kd.string 9 wr w4.heap.size (fun _ => True) (.slice An ns.length cn) ns) ∧ Aside0 (Kd.R (Kd.int .i64) 3 wr w5.heap.size (fun _ => True) (.slice At T.length ct) T) ∧ Aside0 (Below w.heap.size w wr) ∧ Aside0 (wr.heap[w.heap.size]? = some (Obj.cells #[.slice A0 l0.length c0, .slice A1 l1.length c1] 25 (0, 0)))) (fun _ v8 _ => T.length - (intOf v8).toNat)
            case atStart => exact ⟨0, rfl, rfl, Nat.zero_le _, HRN6, HRT, HB6, HK6⟩
            case round =>
              clear HRN6 HRT HB6 HK6
              obtain ⟨i, rfl, rfl, hi, HRN, HRT, HBr, HKr⟩ := hrel
              by_cases hlt : i < T.length
              · have hT9 : T.take (i + 1) = T.take i ++ [T[i]] := by rw [List.take_succ_eq_append_getElem hlt]
                obtain ⟨g9, c9, e9, _⟩ := Kd.R_form HRT.out (by omega)
                cases e9
                obtain ⟨q1, q2⟩ := Kd.R_celln 0 HRT.out (i : Int) (by omega) (by omega)
                have hrd : rdOf (0 : Int) T (i : Int) = T[i] := by
                  unfold rdOf
                  simp [List.getD_eq_getElem?_getD, List.getElem?_eq_getElem hlt]
                rw [hrd, Int.toNat_natCast] at q1
                rw [Int.toNat_natCast] at q2
                have hm := HTM.out T[i] (List.getElem_mem hlt)
                obtain ⟨x, hx⟩ : ∃ x : Nat, T[i] = (x : Int) := ⟨T[i].toNat, by omega⟩
                rw [hx] at q1 hT9 hm
                have HT9 := Aside0.mk hT9
                have HI := Aside0.mk hlt
                have HX := Aside0.mk (show x < l1.length by have := HA.out; omega)
                obtain ⟨ad, A7, c7, ea, hx0, hx1, hx2, hx3, hx4, hx5, hx6, hx7, hx8, hl7, hi7⟩ := at_T31 (Kd.C_below HE.out HBr.out) (x : Int) (by omega) (by have := HX.out; omega)
                cases ea
                rw [Int.toNat_natCast] at hx0 hx1 hx2 hx3 hx4 hx5 hx6 hx7 hx8
                have z1 : wr.cell? ⟨w.heap.size, 1, none⟩ = some (.slice (some ad) l1.length c1) := (blk_cell HKr.out 1).trans rfl
                have p0 := eq_true (show (0 : Int) ≤ (i : Int) by omega)
                have p1 := eq_true (show (i : Int) < (T.length : Int) by omega)
                have p2 := eq_true (show (0 : Int) ≤ (x : Int) by omega)
                have p3 := eq_true (show (x : Int) < (l1.length : Int) by have := HX.out; omega)
                have z1o := fun (o : Obj) => (World.cell?_alloc_lt wr o _ (World.block_lt_of_cell? _ _ z1)).trans z1
                have q1o := fun (o : Obj) => (World.cell?_alloc_lt wr o _ (World.block_lt_of_cell? _ _ q1)).trans q1
                have hx0o := fun (o : Obj) => (World.cell?_alloc_lt wr o _ (World.block_lt_of_cell? _ _ hx0)).trans hx0
                have hx1o := fun (o : Obj) => (World.cell?_alloc_lt wr o _ (World.block_lt_of_cell? _ _ hx1)).trans hx1
                have hx2o := fun (o : Obj) => (World.cell?_alloc_lt wr o _ (World.block_lt_of_cell? _ _ hx2)).trans hx2
                have hx3o := fun (o : Obj) => (World.cell?_alloc_lt wr o _ (World.block_lt_of_cell? _ _ hx3)).trans hx3
                have hx4o := fun (o : Obj) => (World.cell?_alloc_lt wr o _ (World.block_lt_of_cell? _ _ hx4)).trans hx4
                have hx5o := fun (o : Obj) => (World.cell?_alloc_lt wr o _ (World.block_lt_of_cell? _ _ hx5)).trans hx5
                have hx6o := fun (o : Obj) => (World.cell?_alloc_lt wr o _ (World.block_lt_of_cell? _ _ hx6)).trans hx6
                have hx7o := fun (o : Obj) => (World.cell?_alloc_lt wr o _ (World.block_lt_of_cell? _ _ hx7)).trans hx7
                have hx8o := fun (o : Obj) => (World.cell?_alloc_lt wr o _ (World.block_lt_of_cell? _ _ hx8)).trans hx8
                clear hT9 hrd hx hm hl7 hi7 hlt hi
                go_upto_region 11 with (fail)
                --REGION11
                go_region
                obtain ⟨V, hV⟩ : ∃ V, V = (wr.alloc (Obj.cells #[.int .i64 (rd_T31 l1 (x : Int)).f0, .int .i64 (rd_T31 l1 (x : Int)).f1, .int .i64 (rd_T31 l1 (x : Int)).f2, .int .i64 (rd_T31 l1 (x : Int)).f3, .string (rd_T31 l1 (x : Int)).f4, .string (rd_T31 l1 (x : Int)).f5, .int .i64 (rd_T31 l1 (x : Int)).f6, .slice A7 (rd_T31 l1 (x : Int)).f7.length c7, .int .i64 (rd_T31 l1 (x : Int)).f8] 31)).drew := ⟨_, rfl⟩
                have hbV : Below wr.heap.size wr V := by rw [hV]; exact below_drew1 ((Below.refl _ _).alloc (Nat.le_refl _) _)
                have HKX := Aside0.mk (show V.heap[wr.heap.size]? = some (Obj.cells #[.int .i64 (rd_T31 l1 (x : Int)).f0, .int .i64 (rd_T31 l1 (x : Int)).f1, .int .i64 (rd_T31 l1 (x : Int)).f2, .int .i64 (rd_T31 l1 (x : Int)).f3, .string (rd_T31 l1 (x : Int)).f4, .string (rd_T31 l1 (x : Int)).f5, .int .i64 (rd_T31 l1 (x : Int)).f6, .slice A7 (rd_T31 l1 (x : Int)).f7.length c7, .int .i64 (rd_T31 l1 (x : Int)).f8] 31 (0, 0)) by rw [hV]; exact blk_drew (blk_new _ _))
                rw [← hV]
                have HRN2 := Aside0.mk (Kd.R_below HRN.out hbV)
                have HRT2 := Aside0.mk (Kd.R_below HRT.out hbV)
                have HB2 := Aside0.mk (HBr.out.trans (hbV.mono HBr.out.size))
                have HK2 := Aside0.mk (blk_below HKr.out hbV)
                obtain ⟨g, hg⟩ : ∃ g, g = wr.heap.size := ⟨_, rfl⟩
                rw [← hg] at HKX ⊢
                clear hV hbV hg HRN HRT HBr HKr q1 q2 z1 hx0 hx1 hx2 hx3 hx4 hx5 hx6 hx7 hx8 z1o q1o hx0o hx1o hx2o hx3o hx4o hx5o hx6o hx7o hx8o p0 p1 p2 p3
                have zx : V.cell? ⟨g, 0, none⟩ = some (.int .i64 (rd_T31 l1 (x : Int)).f0) := (blk_cell HKX.out 0).trans rfl
                go_step
                go_upto_region 13 with (fail)
                go_wp2
                clear zx
                go_loopw [10, 11] (fun v10 v11 wr2 => ∃ k : Nat, v11 = .int .i64 (k : Int) ∧ v10 = .bool (knB l1 x (T.take k)) ∧ k ≤ i ∧ Aside0 (Kd.R Kd.string 9 wr2 w4.heap.size (fun _ => True) (.slice An ns.length cn) ns) ∧ Aside0 (Kd.R (Kd.int .i64) 3 wr2 w5.heap.size (fun _ => True) (.slice (some ⟨g9, 0, none⟩) T.length ct) T) ∧ Aside0 (Below w.heap.size w wr2) ∧ Aside0 (wr2.heap[w.heap.size]? = some (Obj.cells #[.slice A0 l0.length c0, .slice (some ad) l1.length c1] 25 (0, 0))) ∧ Aside0 (wr2.heap[g]? = some (Obj.cells #[.int .i64 (rd_T31 l1 (x : Int)).f0, .int .i64 (rd_T31 l1 (x : Int)).f1, .int .i64 (rd_T31 l1 (x : Int)).f2, .int .i64 (rd_T31 l1 (x : Int)).f3, .string (rd_T31 l1 (x : Int)).f4, .string (rd_T31 l1 (x : Int)).f5, .int .i64 (rd_T31 l1 (x : Int)).f6, .slice A7 (rd_T31 l1 (x : Int)).f7.length c7, .int .i64 (rd_T31 l1 (x : Int)).f8] 31 (0, 0)))) (fun _ v11 _ => i - (intOf v11).toNat)
                case atStart => exact ⟨0, rfl, by unfold knB; rw [List.take_zero, List.any_nil, Bool.or_false], Nat.zero_le _, HRN2, HRT2, HB2, HK2, HKX⟩
                case round =>
                  clear HRN2 HRT2 HB2 HK2 HKX
                  obtain ⟨k, rfl, rfl, hk, HRN, HRT, HBr, HKr, HKX⟩ := hrel
                  by_cases hlt : k < i
                  · have hkT : k < T.length := by have := HI.out; omega
                    have hk9 : T.take (k + 1) = T.take k ++ [T[k]] := by rw [List.take_succ_eq_append_getElem hkT]
                    obtain ⟨q1, q2⟩ := Kd.R_celln 0 HRT.out (k : Int) (by omega) (by omega)
                    have hrd : rdOf (0 : Int) T (k : Int) = T[k] := by
                      unfold rdOf
                      simp [List.getD_eq_getElem?_getD, List.getElem?_eq_getElem hkT]
                    rw [hrd, Int.toNat_natCast] at q1
                    rw [Int.toNat_natCast] at q2
                    have hm := HTM.out T[k] (List.getElem_mem hkT)
                    obtain ⟨y, hy⟩ : ∃ y : Nat, T[k] = (y : Int) := ⟨T[k].toNat, by omega⟩
                    rw [hy] at q1 hk9 hm
                    have HYL := Aside0.mk (show y < l1.length by have := HA.out; omega)
                    have HKN := Aside0.mk (show knB l1 x (T.take (k + 1)) = (knB l1 x (T.take k) || ((rd_T31 l1 (y : Int)).f0 == 3 && (rd_T31 l1 (y : Int)).f4.toList == (rd_T31 l1 (x : Int)).f4.toList)) by unfold knB; rw [hk9, List.any_append, Bool.or_assoc]; simp)
                    obtain ⟨ad', B7, d7, ea, hx0, hx1, hx2, hx3, hx4, hx5, hx6, hx7, hx8, _, _⟩ := at_T31 (Kd.C_below HE.out HBr.out) (y : Int) (by omega) (by have := HYL.out; omega)
                    cases ea
                    rw [Int.toNat_natCast] at hx0 hx1 hx2 hx3 hx4 hx5 hx6 hx7 hx8
                    have z1 : wr.cell? ⟨w.heap.size, 1, none⟩ = some (.slice (some ad) l1.length c1) := (blk_cell HKr.out 1).trans rfl
                    have zn : wr.cell? ⟨g, 4, none⟩ = some (.string (rd_T31 l1 (x : Int)).f4) := (blk_cell HKX.out 4).trans rfl
                    have p0 := eq_true (show (0 : Int) ≤ (k : Int) by omega)
                    have p1 := eq_true (show (k : Int) < (T.length : Int) by omega)
                    have p2 := eq_true (show (0 : Int) ≤ (y : Int) by omega)
                    have p3 := eq_true (show (y : Int) < (l1.length : Int) by have := HYL.out; omega)
                    have HKI := Aside0.mk hlt
                    obtain ⟨b, hb⟩ : ∃ b, knB l1 x (T.take k) = b := ⟨_, rfl⟩
                    rw [hb] at HKN ⊢
                    clear hk9 hrd hm hy hkT hb hk hx1 hx2 hx3 hx5 hx6 hx7 hx8
                    have hlt' := eq_true (show (k : Int) < (i : Int) by omega)
                    cases b with
                    | true =>
                      go_wp2
                      go_quiet (fail)
                      go_wp2
                      have h1 := HKI.out
                      have h2 := HI.out
                      have h3 := HTL.out
                      refine ⟨⟨k + 1, by rw [wrap_i64' (by omega) (by omega), ← Int.natCast_succ], by rw [HKN.out]; rfl, h1, ⟨Kd.R_drewN HRN.out _⟩, ⟨Kd.R_drewN HRT.out _⟩, ⟨pw_below_drewN HBr.out _⟩, ⟨blk_drewN HKr.out _⟩, ⟨blk_drewN HKX.out _⟩⟩, ?_⟩
                      exact meas_next (wrap_i64' (by omega) (by omega)) h1
                    | false =>
                      obtain ⟨by_, hby⟩ : ∃ b, ((rd_T31 l1 (y : Int)).f0 == 3) = b := ⟨_, rfl⟩
                      rw [hby] at HKN
                      cases by_ with
                      | false =>
                        go_wp2
                        go_quiet (fail)
                        go_wp2
                        have h1 := HKI.out
                        have h2 := HI.out
                        have h3 := HTL.out
                        refine ⟨⟨k + 1, by rw [wrap_i64' (by omega) (by omega), ← Int.natCast_succ], by rw [HKN.out]; rfl, h1, ⟨Kd.R_drewN HRN.out _⟩, ⟨Kd.R_drewN HRT.out _⟩, ⟨pw_below_drewN HBr.out _⟩, ⟨blk_drewN HKr.out _⟩, ⟨blk_drewN HKX.out _⟩⟩, ?_⟩
                        exact meas_next (wrap_i64' (by omega) (by omega)) h1
                      | true =>
                        obtain ⟨bn, hbn⟩ : ∃ b, ((rd_T31 l1 (y : Int)).f4.toList == (rd_T31 l1 (x : Int)).f4.toList) = b := ⟨_, rfl⟩
                        rw [hbn] at HKN
                        go_wp2
                        go_quiet (fail)
                        go_wp2
                        have h1 := HKI.out
                        have h2 := HI.out
                        have h3 := HTL.out
                        refine ⟨⟨k + 1, by rw [wrap_i64' (by omega) (by omega), ← Int.natCast_succ], by rw [HKN.out]; rfl, h1, ⟨Kd.R_drewN HRN.out _⟩, ⟨Kd.R_drewN HRT.out _⟩, ⟨pw_below_drewN HBr.out _⟩, ⟨blk_drewN HKr.out _⟩, ⟨blk_drewN HKX.out _⟩⟩, ?_⟩
                        exact meas_next (wrap_i64' (by omega) (by omega)) h1
                  · have hki : k = i := by omega
                    subst hki
                    have HAN := Aside0.mk (show (namesT l1 (T.take (k + 1)) []).length = (namesT l1 (T.take k) []).length + (if knB l1 x (T.take k) = true then 0 else 1) by rw [HT9.out]; exact names_count _ _ _)
                    obtain ⟨b, hb⟩ : ∃ b, knB l1 x (T.take k) = b := ⟨_, rfl⟩
                    rw [hb] at HAN ⊢
                    clear hb hlt hk
                    cases b with
                    | true =>
                      go_wp2
                      have h1 := HI.out
                      have h2 := HTL.out
                      refine ⟨⟨k + 1, by rw [wrap_i64' (by omega) (by omega), ← Int.natCast_succ], by rw [HAN.out, if_pos rfl, Nat.add_zero], h1, HRN, HRT, HBr, HKr⟩, ?_⟩
                      exact meas_next (wrap_i64' (by omega) (by omega)) h1
                    | false =>
                      go_wp2
                      have h1 := HI.out
                      have h2 := HTL.out
                      have h3 : (namesT l1 (T.take k) []).length ≤ T.length := Nat.le_trans (names_le l1 (T.take k) []) (by rw [List.length_take]; simp; omega)
                      refine ⟨⟨k + 1, by rw [wrap_i64' (by omega) (by omega), ← Int.natCast_succ], by rw [HAN.out, if_neg (by decide), wrap_i64' (by omega) (by omega), ← Int.natCast_succ], h1, HRN, HRT, HBr, HKr⟩, ?_⟩
                      exact meas_next (wrap_i64' (by omega) (by omega)) h1
              · have hiT : i = T.length := by omega
                subst hiT
                have HNL := Aside0.mk (show (namesT l1 (T.take T.length) []).length = ns.length by rw [List.take_length, ← HNT.out])
                rw [HNL.out]
                have z1 : wr.cell? ⟨w.heap.size, 1, none⟩ = some (.slice A1 l1.length c1) := (blk_cell HKr.out 1).trans rfl
                obtain ⟨e, he⟩ : ∃ e : Nat, a = (e : Int) := ⟨a.toNat, by have := HA.out; omega⟩
                subst he
                have hn1 := HS.out.n1
                have hw1 : wrap64 ((e : Int) + 1) = (e : Int) + 1 := wrap_i64' (by omega) (by have := HA.out; omega)
                have p0 := eq_true (show (0 : Int) ≤ (e : Int) + 1 by omega)
                have p1 := eq_true (show (e : Int) + 1 ≤ (c1 : Int) by have := HA.out; have := HEc.out; omega)
                clear hn1 hlt hi
                go_upto_region 20 with (fail)
                obtain ⟨V, hV⟩ : ∃ V, V = wr.alloc (Obj.cells #[.slice none 0 0, .slice A1 (e + 1) c1] 25) := ⟨_, rfl⟩
                have hbV : Below wr.heap.size wr V := by rw [hV]; exact (Below.refl _ _).alloc (Nat.le_refl _) _
                have hKX : V.heap[wr.heap.size]? = some (Obj.cells #[.slice none 0 0, .slice A1 (e + 1) c1] 25 (0, 0)) := by rw [hV]; exact blk_new _ _
                rw [← hV]
                have HRN2 := Aside0.mk (Kd.R_below HRN.out hbV)
                have HB2 := Aside0.mk (HBr.out.trans (hbV.mono HBr.out.size))
                have hl2 : (l1.take (e + 1)).length = e + 1 := by rw [List.length_take]; have := HA.out; omega
                have hC2 : Kd.C k31 V A1 (l1.take (e + 1)).length (l1.take (e + 1)) := Kd.C_take (Kd.C_below HE.out HB2.out) (by have := HA.out; omega)
                have kn2 := ast_Names.calls none 0 [] A1 c1 (l1.take (e + 1)) (e : Int) ns V (Kd.C_nil _ _) (Nat.le_refl _) hC2 (by rw [hl2]; have := HA.out; have := HEc.out; omega) (by rw [names_prefix HF.out (by have := HA.out; omega)]; have h9 := HND.out; rw [Int.toNat_natCast] at h9; rw [h9])
                rw [hl2] at kn2
                have KN2 := Aside0.mk kn2
                obtain ⟨g, hg⟩ : ∃ g, g = wr.heap.size := ⟨_, rfl⟩
                rw [← hg] at hKX ⊢
                have y0 : V.cell? ⟨g, 0, none⟩ = some (.slice none 0 0) := (blk_cell hKX 0).trans rfl
                have y1 : V.cell? ⟨g, 1, none⟩ = some (.slice A1 (e + 1) c1) := (blk_cell hKX 1).trans rfl
                clear hV hbV hKX hg hl2 hC2 kn2 z1 p0 p1 HRN HRT HBr HKr hw1
                go_upto_region 21 with (go_at_call 15; refine KN2.out.mono ?_; rintro e9 w7 ⟨vm, rfl, hrm, hbm⟩; obtain ⟨Am, cm, rfl⟩ := Kd.R_slice hrm; have HRM := Aside0.mk hrm; have HRN3 := Aside0.mk (Kd.R_below HRN2.out hbm); have HB7 := Aside0.mk (HB2.out.trans (hbm.mono HB2.out.size)); clear hrm hbm)
                clear y0 y1 KN2 HRN2 HB2
                go_wp2
                go_loopw [14] (fun v14 wr2 => ∃ k : Nat, v14 = .int .i64 (k : Int) ∧ k ≤ ns.length ∧ Aside0 (Kd.R Kd.string 9 wr2 w4.heap.size (fun _ => True) (.slice An ns.length cn) ns) ∧ Aside0 (Kd.R Kd.string 9 wr2 V.heap.size (fun _ => True) (.slice Am ns.length cm) ns) ∧ Aside0 (Below w.heap.size w wr2)) (fun v14 _ => ns.length - (intOf v14).toNat)
                case atStart => exact ⟨0, rfl, Nat.zero_le _, HRN3, HRM, HB7⟩
                case round =>
                  clear HRN3 HRM HB7
                  obtain ⟨k, rfl, hk, HRN, HRM, HBr⟩ := hrel
                  by_cases hlt : k < ns.length
                  · obtain ⟨ga, ca, ea, _⟩ := Kd.R_form HRN.out (by omega)
                    cases ea
                    obtain ⟨gm, cm', em, _⟩ := Kd.R_form HRM.out (by omega)
                    cases em
                    obtain ⟨q1, q2⟩ := Kd.R_celln ByteArray.empty HRN.out (k : Int) (by omega) (by omega)
                    obtain ⟨r1, r2⟩ := Kd.R_celln ByteArray.empty HRM.out (k : Int) (by omega) (by omega)
                    rw [Int.toNat_natCast] at q1 q2 r1 r2
                    obtain ⟨nk, hnk⟩ : ∃ s, rdOf ByteArray.empty ns (k : Int) = s := ⟨_, rfl⟩
                    rw [hnk] at q1 r1
                    have p0 := eq_true (show (0 : Int) ≤ (k : Int) by omega)
                    have p1 := eq_true (show (k : Int) < (ns.length : Int) by omega)
                    have HKI := Aside0.mk hlt
                    have HNB := Aside0.mk (show ns.length ≤ 2000 by rw [HNT.out]; exact Nat.le_trans (names_le _ _ _) (by have := HTL.out; simpa using this))
                    clear hlt hk hnk
                    go_wp2
                    go_quiet (fail)
                    go_wp2
                    have h1 := HKI.out
                    have h2 := HNB.out
                    refine ⟨⟨k + 1, by rw [wrap_i64' (by omega) (by omega), ← Int.natCast_succ], h1, ⟨Kd.R_drewN HRN.out _⟩, ⟨Kd.R_drewN HRM.out _⟩, ⟨pw_below_drewN HBr.out _⟩⟩, ?_⟩
                    exact meas_next (wrap_i64' (by omega) (by omega)) h1
                  · have hke : k = ns.length := by omega
                    subst hke
                    go_wp2
                    go_ret
                    exact ⟨rfl, HBr.out⟩
end Go.Proofs.Ytediidkiedifcaa.Q
