/- The reference's May, walked. -/
import Derived.Test.YtediidkiedifcaaAOneP
import Derived.Test.YtediidkiedifcaaAMay
import Derived.Test.YtediidkiedifcaaQ7
import Derived.Test.YtediidkiedifcaaAInv
namespace Go.Proofs.Ytediidkiedifcaa.Q
set_option linter.unusedVariables false
set_option linter.unusedSimpArgs false
open Go.RowKit Go.Proofs.YtediidkiedifcaaW.PrintWords Go.Proofs.YtediidkiedifcaaW.PrintLast Go.Proofs.YtediidkiedifcaaW.PrintMore Go.Proofs.Ytediidkiedifcaa.Inv
theorem refpoints_f (l0 : List S45) (l1 : List S31) (a : Int) (b : Bool) : astrolaberef04_points.f l0 l1 a b = some (pointsB l1.length a b) := by
  unfold astrolaberef04_points.f pointsB
  cases b with
  | true =>
    rw [if_pos rfl, if_pos rfl]
    by_cases h : a ≥ 0
    · rw [if_pos h, show decide (0 ≤ a) = true from decide_eq_true h, Bool.true_and]
      by_cases h2 : a < (l1.length : Int)
      · rw [if_pos h2, decide_eq_true h2]
      · rw [if_neg h2, decide_eq_false h2]
    · rw [if_neg h, show decide (0 ≤ a) = false from decide_eq_false h, Bool.false_and]
  | false => rw [if_neg (by decide), if_neg (by decide)]
theorem refhas_f (k : Int) : astrolaberef04_Has.f k = some (hasE k, hasF k) := by
  unfold astrolaberef04_Has.f hasE hasF
  by_cases h1 : k ≥ 1
  · rw [if_pos h1]
    by_cases h2 : k = 2
    · subst h2; rfl
    by_cases h3 : k = 3
    · subst h3; rfl
    by_cases h5 : k = 5
    · subst h5; rfl
    have : (1 ≤ k) = True := eq_true h1
    simp [beq_false_of_ne h2, beq_false_of_ne h3, beq_false_of_ne h5, h2, h3, h5, this]
  · rw [if_neg h1]
    have h2 : k ≠ 2 := by omega
    have h3 : k ≠ 3 := by omega
    have h5 : k ≠ 5 := by omega
    have : (1 ≤ k) = False := eq_false h1
    simp [beq_false_of_ne h2, beq_false_of_ne h3, beq_false_of_ne h5, h2, h3, h5, this]
theorem allM_append (xs : List S31) (x : S31) : ∀ i, allM i (xs ++ [x]) = (allM i xs && mayB x ((i + xs.length : Nat) : Int)) := by
  induction xs with
  | nil => intro i; simp [allM]
  | cons y ys ih =>
    intro i
    rw [List.cons_append, allM, ih, allM, Bool.and_assoc, List.length_cons, show i + 1 + ys.length = i + (ys.length + 1) by omega]
theorem allM_take {xs : List S31} {i n : Nat} (h : allM i xs = true) : allM i (xs.take n) = true := by
  induction xs generalizing i n with
  | nil => simp [allM]
  | cons y ys ih =>
    cases n with
    | zero => rfl
    | succ n =>
      rw [allM, Bool.and_eq_true] at h
      rw [List.take_succ_cons, allM, h.1, ih h.2]; rfl
theorem any_take_false {α : Type} {f : α → Bool} {xs : List α} {n : Nat} (h : xs.any f = false) : (xs.take n).any f = false := by
  rw [List.any_eq_false] at h ⊢
  exact fun x hx => h x (List.mem_of_mem_take hx)
set_option maxHeartbeats 8000000 in
set_option maxRecDepth 100000 in
theorem refMay_any (A0 : Option Addr) (c0 : Nat) (l0 : List S45) (A1 : Option Addr) (c1 : Nat) (l1 : List S31) (w : World) (hD : Kd.C k45 w A0 l0.length l0) (hDc : l0.length ≤ c0) (hE : Kd.C k31 w A1 l1.length l1) (hEc : l1.length ≤ c1)
    (h0 : l0.length ≤ 1000000000000) (h1 : l1.length ≤ 1000000000000) (hds : ∀ d ∈ l0, d.f3.length ≤ 1000000000000) (hxs : ∀ x ∈ l1, x.f7.length ≤ 1000000000000) :
    Calls Try.prog 13 #[.agg #[.slice A0 l0.length c0, .slice A1 l1.length c1]] w fun e w' => e = .returned (.bool (mayP l0 l1)) ∧ Below w.heap.size w w' := by
  have hB : Below w.heap.size w (w.alloc (Obj.cells #[.slice A0 l0.length c0, .slice A1 l1.length c1] 25)) := (Below.refl _ _).alloc (Nat.le_refl _) _
  have hK : (w.alloc (Obj.cells #[.slice A0 l0.length c0, .slice A1 l1.length c1] 25)).heap[w.heap.size]? = some (Obj.cells #[.slice A0 l0.length c0, .slice A1 l1.length c1] 25 (0, 0)) := blk_new w _
  have HD := Aside0.mk hD
  have HDc := Aside0.mk hDc
  have HE := Aside0.mk hE
  have HEc := Aside0.mk hEc
  have H0 := Aside0.mk h0
  have H1 := Aside0.mk h1
  have HDS := Aside0.mk hds
  have HXS := Aside0.mk hxs
  clear hD hDc hE hEc h0 h1 hds hxs
  go_enter Try.func13, Try.ntmps13
  go_upto_region 1 with (fail)
  obtain ⟨W, hW⟩ : ∃ W, W = (w.alloc (Obj.cells #[.slice A0 l0.length c0, .slice A1 l1.length c1] 25)) := ⟨_, rfl⟩
  rw [← hW] at hB hK ⊢
  clear hW
  have HB := Aside0.mk hB
  have HK := Aside0.mk hK
  clear hB hK
  go_wp2
  go_loopw [3] (fun v3 wr => ∃ y : Nat, v3 = .int .i64 (y : Int) ∧ y ≤ l1.length ∧ Aside0 (allM 0 (l1.take y) = true) ∧ Aside0 (Below w.heap.size w wr) ∧ Aside0 (wr.heap[w.heap.size]? = some (Obj.cells #[.slice A0 l0.length c0, .slice A1 l1.length c1] 25 (0, 0)))) (fun v3 _ => l1.length - (intOf v3).toNat)
  case atStart => exact ⟨0, rfl, by omega, ⟨rfl⟩, HB, HK⟩
  case round =>
    obtain ⟨y, rfl, hy, HA, HBr, HKr⟩ := hrel
    have z0 : wr.cell? ⟨w.heap.size, 0, none⟩ = some (.slice A0 l0.length c0) := (blk_cell HKr.out 0).trans rfl
    have z1 : wr.cell? ⟨w.heap.size, 1, none⟩ = some (.slice A1 l1.length c1) := (blk_cell HKr.out 1).trans rfl
    by_cases hlt : y < l1.length
    · have p0 : (0 : Int) ≤ (y : Int) := by omega
      have q0 : (y : Int) < (l1.length : Int) := by omega
      obtain ⟨ad, A7, c7, ea, hx0, hx1, hx2, hx3, hx4, hx5, hx6, hx7, hx8, hl7, hi7⟩ := at_T31 (Kd.C_below HE.out HBr.out) (y : Int) p0 q0
      cases ea
      have hrd : rd_T31 l1 (y : Int) = l1[y] := by
        unfold rd_T31
        simp [List.getD_eq_getElem?_getD, List.getElem?_eq_getElem hlt]
      rw [Int.toNat_natCast] at hx0 hx1 hx2 hx3 hx4 hx5 hx6 hx7 hx8
      have HT9 := Aside0.mk (show l1.take (y + 1) = l1.take y ++ [l1[y]] by rw [List.take_succ_eq_append_getElem hlt])
      have HSZ := Aside0.mk (HXS.out _ (List.getElem_mem hlt))
      obtain ⟨x, hx⟩ : ∃ x, l1[y] = x := ⟨_, rfl⟩
      rw [hrd, hx] at hx0 hx1 hx2 hx3 hx4 hx5 hx6 hx7 hx8 hl7 hi7
      rw [hx] at HT9 HSZ
      have KO := Aside0.mk (one_any x A7 c7 (y : Int) wr hi7 hl7 HSZ.out)
      have HAP := Aside0.mk (show allM 0 (l1.take (y + 1)) = mayB x (y : Int) by rw [HT9.out, allM_append, HA.out, Bool.true_and, List.length_take, Nat.min_eq_left (by omega), Nat.zero_add])
      rw [one_may] at KO
      obtain ⟨b, hb⟩ : ∃ b, mayB x (y : Int) = b := ⟨_, rfl⟩
      rw [hb] at KO HAP
      have HY := Aside0.mk (show y < l1.length from hlt)
      clear hlt hl7 hi7 hrd hx hb
      replace p0 := eq_true p0
      replace q0 := eq_true q0
      cases b with
      | false =>
        have HF := Aside0.mk (show mayP l0 l1 = false by
          unfold mayP
          cases h : allM 0 l1 with
          | false => rfl
          | true => have := allM_take (n := y + 1) h; rw [HAP.out] at this; cases this)
        go_wp2_with (go_at_call 30; refine KO.out.mono ?_; rintro e w2 ⟨rfl, hb2⟩; have HB2 := Aside0.mk hb2; clear hb2)
        go_ret
        exact ⟨by rw [HF.out]; rfl, HBr.out.trans (HB2.out.mono HBr.out.size)⟩
      | true =>
        go_wp2_with (go_at_call 30; refine KO.out.mono ?_; rintro e w2 ⟨rfl, hb2⟩; have HB2 := Aside0.mk hb2; clear hb2)
        go_roundw
        case rel =>
          have h1 := HY.out
          have h2 := H1.out
          exact ⟨y + 1, by rw [wrap_i64' (by omega) (by omega), ← Int.natCast_succ], HY.out, HAP, ⟨HBr.out.trans (HB2.out.mono HBr.out.size)⟩, ⟨blk_below HKr.out HB2.out⟩⟩
        case measure =>
          have h1 := HY.out
          have h2 := H1.out
          have hw := wrap_i64' (n := (y : Int) + 1) (by omega) (by omega)
          show l1.length - (intOf (.int .i64 (wrap64 ((y : Int) + 1)))).toNat < l1.length - (intOf (.int .i64 (y : Int))).toNat
          rw [hw, show intOf (.int .i64 ((y : Int) + 1)) = (y : Int) + 1 from rfl, show intOf (.int .i64 (y : Int)) = (y : Int) from rfl]
          omega
    · have hyl : y = l1.length := by omega
      subst hyl
      have HA1 := Aside0.mk (show allM 0 l1 = true by have := HA.out; rwa [List.take_length] at this)
      clear HA hlt hy
      go_wp2
      go_loopw [4] (fun v4 wr2 => ∃ y : Nat, v4 = .int .i64 (y : Int) ∧ y ≤ l0.length ∧ Aside0 ((l0.take y).any (declBad l1.length) = false) ∧ Aside0 (Below w.heap.size w wr2) ∧ Aside0 (wr2.heap[w.heap.size]? = some (Obj.cells #[.slice A0 l0.length c0, .slice A1 l1.length c1] 25 (0, 0)))) (fun v4 _ => l0.length - (intOf v4).toNat)
      case atStart => exact ⟨0, rfl, by omega, ⟨rfl⟩, HBr, HKr⟩
      case round =>
        clear HBr HKr z0 z1
        obtain ⟨y, rfl, hy, HA, HBr, HKr⟩ := hrel
        have z0 : wr.cell? ⟨w.heap.size, 0, none⟩ = some (.slice A0 l0.length c0) := (blk_cell HKr.out 0).trans rfl
        have z1 : wr.cell? ⟨w.heap.size, 1, none⟩ = some (.slice A1 l1.length c1) := (blk_cell HKr.out 1).trans rfl
        by_cases hlt : y < l0.length
        · have p0 : (0 : Int) ≤ (y : Int) := by omega
          have q0 : (y : Int) < (l0.length : Int) := by omega
          obtain ⟨ad, A2, c2, A3, c3, ea, hx0, hx1, hx2, hx3, hx4, hx5, hx6, hl2, hi2, hl3, hi3⟩ := at_T45 (Kd.C_below HD.out HBr.out) (y : Int) p0 q0
          cases ea
          have hrd : rd_T45 l0 (y : Int) = l0[y] := by
            unfold rd_T45
            simp [List.getD_eq_getElem?_getD, List.getElem?_eq_getElem hlt]
          rw [Int.toNat_natCast] at hx0 hx1 hx2 hx3 hx4 hx5 hx6
          have HT9 := Aside0.mk (show l0.take (y + 1) = l0.take y ++ [l0[y]] by rw [List.take_succ_eq_append_getElem hlt])
          have HSZ := Aside0.mk (HDS.out _ (List.getElem_mem hlt))
          obtain ⟨d, hd⟩ : ∃ d, l0[y] = d := ⟨_, rfl⟩
          rw [hrd, hd] at hx0 hx1 hx2 hx3 hx4 hx5 hx6 hl3 hi3
          rw [hd] at HT9 HSZ
          have HAP := Aside0.mk (show (l0.take (y + 1)).any (declBad l1.length) = declBad l1.length d by rw [HT9.out, List.any_append, HA.out]; simp)
          have HI3 := Aside0.mk (Kd.C_below hi3 ((Below.refl wr.heap.size wr).alloc (Nat.le_refl _) (Obj.cells #[.int .i64 d.f0, .string d.f1, .slice A2 d.f2.length c2, .slice A3 d.f3.length c3, .int .i64 d.f4, .int .i64 d.f5, .int .i64 d.f6] 45)))
          have HF0 := Aside0.mk (show declBad l1.length d = true → mayP l0 l1 = false from fun h => by
            unfold mayP
            cases h2 : l0.any (declBad l1.length) with
            | true => simp
            | false => have := any_take_false (n := y + 1) h2; rw [HAP.out, h] at this; cases this)
          have HY := Aside0.mk (show y < l0.length from hlt)
          clear hlt hl2 hi2 hl3 hi3 hrd hd
          replace p0 := eq_true p0
          replace q0 := eq_true q0
          go_upto_region 10 with (fail)
          clear hx0 hx1 hx2 hx3 hx4 hx5 hx6 z0 z1
          obtain ⟨V, hV⟩ : ∃ V, V = wr.alloc (Obj.cells #[.int .i64 d.f0, .string d.f1, .slice A2 d.f2.length c2, .slice A3 d.f3.length c3, .int .i64 d.f4, .int .i64 d.f5, .int .i64 d.f6] 45) := ⟨_, rfl⟩
          have hbV : Below wr.heap.size wr V := by rw [hV]; exact (Below.refl _ _).alloc (Nat.le_refl _) _
          have hkV : V.heap[wr.heap.size]? = some (Obj.cells #[.int .i64 d.f0, .string d.f1, .slice A2 d.f2.length c2, .slice A3 d.f3.length c3, .int .i64 d.f4, .int .i64 d.f5, .int .i64 d.f6] 45 (0, 0)) := by rw [hV]; exact blk_new _ _
          rw [← hV] at HI3 ⊢
          have HBV := Aside0.mk (HBr.out.trans (hbV.mono HBr.out.size))
          have HKV := Aside0.mk (blk_below HKr.out hbV)
          obtain ⟨g, hg⟩ : ∃ g, g = wr.heap.size := ⟨_, rfl⟩
          rw [← hg] at hkV ⊢
          have HGW := Aside0.mk hkV
          have HGL := Aside0.mk (show w.heap.size ≤ g by rw [hg]; exact HBr.out.size)
          clear hV hbV hkV hg HBr HKr
          have z0 : V.cell? ⟨w.heap.size, 0, none⟩ = some (.slice (some ad) l0.length c0) := (blk_cell HKV.out 0).trans rfl
          have z1 : V.cell? ⟨w.heap.size, 1, none⟩ = some (.slice A1 l1.length c1) := (blk_cell HKV.out 1).trans rfl
          have t0 : V.cell? ⟨g, 0, none⟩ = some (.int .i64 d.f0) := (blk_cell HGW.out 0).trans rfl
          have t1 : V.cell? ⟨g, 1, none⟩ = some (.string d.f1) := (blk_cell HGW.out 1).trans rfl
          have t2 : V.cell? ⟨g, 2, none⟩ = some (.slice A2 d.f2.length c2) := (blk_cell HGW.out 2).trans rfl
          have t3 : V.cell? ⟨g, 3, none⟩ = some (.slice A3 d.f3.length c3) := (blk_cell HGW.out 3).trans rfl
          have t4 : V.cell? ⟨g, 4, none⟩ = some (.int .i64 d.f4) := (blk_cell HGW.out 4).trans rfl
          have t5 : V.cell? ⟨g, 5, none⟩ = some (.int .i64 d.f5) := (blk_cell HGW.out 5).trans rfl
          have t6 : V.cell? ⟨g, 6, none⟩ = some (.int .i64 d.f6) := (blk_cell HGW.out 6).trans rfl
          obtain ⟨pb, hpb⟩ : ∃ b, pointsB l1.length d.f5 (d.f0 == 1 || d.f0 == 2) = b := ⟨_, rfl⟩
          have KP := Aside0.mk (show astrolaberef04_points.f l0 l1 d.f5 (d.f0 == 1 || d.f0 == 2) = some pb by rw [refpoints_f, hpb])
          have KPc := Aside0.mk (astrolaberef04_points.calls (some ad) c0 l0 A1 c1 l1 d.f5 (d.f0 == 1 || d.f0 == 2) pb V (Kd.C_below HD.out HBV.out) HDc.out (Kd.C_below HE.out HBV.out) HEc.out KP.out)
          have HDB := Aside0.mk (show declBad l1.length d = (!pb || d.f3.any (itemBad l1.length)) by unfold declBad; rw [hpb])
          clear hpb
          go_cut [36, 37, 38, 39, 40, 41, 42, 43, 44, 45, 46, 47, 48] (fun _ _ _ _ _ _ _ _ _ _ _ _ v48 we => v48 = .bool (!pb) ∧ Aside0 (Below w.heap.size w we) ∧ Aside0 (we.heap[w.heap.size]? = some (Obj.cells #[.slice (some ad) l0.length c0, .slice A1 l1.length c1] 25 (0, 0))) ∧ Aside0 (we.heap[g]? = some (Obj.cells #[.int .i64 d.f0, .string d.f1, .slice A2 d.f2.length c2, .slice A3 d.f3.length c3, .int .i64 d.f4, .int .i64 d.f5, .int .i64 d.f6] 45 (0, 0))) ∧ Aside0 (Kd.C k47 we A3 d.f3.length d.f3))
          case first =>
            by_cases hk1 : d.f0 = 1
            · have hkf : (d.f0 == 1 || d.f0 == 2) = true := by rw [hk1]; rfl
              rw [hkf] at KPc
              have hb1 : (d.f0 == 1) = true := beq_iff_eq.2 hk1
              clear hkf hk1
              go_wp2_with (go_at_call 31; refine KPc.out.mono ?_; rintro e w2 ⟨rfl, hbb⟩; have HB3 := Aside0.mk (HBV.out.trans (hbb.mono HBV.out.size)); have HK2 := Aside0.mk (blk_below HKV.out hbb); have HG2 := Aside0.mk (blk_below HGW.out hbb); have HI2 := Aside0.mk (Kd.C_below HI3.out hbb); clear hbb)
              go_meet
              case rel => exact ⟨rfl, HB3, HK2, HG2, HI2⟩
            · have hb1 : (d.f0 == 1) = false := beq_false_of_ne hk1
              by_cases hk2 : d.f0 = 2
              · have hkf : (d.f0 == 1 || d.f0 == 2) = true := by rw [hk2]; rfl
                rw [hkf] at KPc
                have hb2 : (d.f0 == 2) = true := beq_iff_eq.2 hk2
                clear hkf hk1 hk2
                go_wp2_with (go_at_call 31; refine KPc.out.mono ?_; rintro e w2 ⟨rfl, hbb⟩; have HB3 := Aside0.mk (HBV.out.trans (hbb.mono HBV.out.size)); have HK2 := Aside0.mk (blk_below HKV.out hbb); have HG2 := Aside0.mk (blk_below HGW.out hbb); have HI2 := Aside0.mk (Kd.C_below HI3.out hbb); clear hbb)
                go_meet
                case rel => exact ⟨rfl, HB3, HK2, HG2, HI2⟩
              · have hb2 : (d.f0 == 2) = false := beq_false_of_ne hk2
                have hkf : (d.f0 == 1 || d.f0 == 2) = false := by rw [hb1, hb2]; rfl
                rw [hkf] at KPc
                clear hkf hk1 hk2
                go_wp2_with (go_at_call 31; refine KPc.out.mono ?_; rintro e w2 ⟨rfl, hbb⟩; have HB3 := Aside0.mk (HBV.out.trans (hbb.mono HBV.out.size)); have HK2 := Aside0.mk (blk_below HKV.out hbb); have HG2 := Aside0.mk (blk_below HGW.out hbb); have HI2 := Aside0.mk (Kd.C_below HI3.out hbb); clear hbb)
                go_meet
                case rel => exact ⟨rfl, HB3, HK2, HG2, HI2⟩
          case rest =>
           obtain ⟨hv48, HB3, HK2, HG2, HI2⟩ := hcut
           cases pb with
           | false =>
            subst hv48
            have HF := Aside0.mk (HF0.out (by rw [HDB.out]; rfl))
            go_wp2
            go_ret
            exact ⟨by rw [HF.out]; rfl, HB3.out⟩
           | true =>
            subst hv48
            go_upto_region 12 with (fail)
            have HDB' := Aside0.mk (show declBad l1.length d = d.f3.any (itemBad l1.length) by rw [HDB.out]; rfl)
            clear z0 z1 t0 t1 t2 t3 t4 t5 t6 KP KPc HDB HBV HKV HGW HI3
            go_wp2
            go_loopw [6] (fun v6 wr3 => ∃ j : Nat, v6 = .int .i64 (j : Int) ∧ j ≤ d.f3.length ∧ Aside0 ((d.f3.take j).any (itemBad l1.length) = false) ∧ Aside0 (Below w.heap.size w wr3) ∧ Aside0 (wr3.heap[w.heap.size]? = some (Obj.cells #[.slice (some ad) l0.length c0, .slice A1 l1.length c1] 25 (0, 0))) ∧ Aside0 (wr3.heap[g]? = some (Obj.cells #[.int .i64 d.f0, .string d.f1, .slice A2 d.f2.length c2, .slice A3 d.f3.length c3, .int .i64 d.f4, .int .i64 d.f5, .int .i64 d.f6] 45 (0, 0))) ∧ Aside0 (Kd.C k47 wr3 A3 d.f3.length d.f3)) (fun v6 _ => d.f3.length - (intOf v6).toNat)
            case atStart => exact ⟨0, rfl, by omega, ⟨rfl⟩, HB3, HK2, HG2, HI2⟩
            case round =>
              clear HB3 HK2 HG2 HI2
              obtain ⟨j, rfl, hj, HJ, HB3, HK2, HG2, HI2⟩ := hrel
              have z0 : wr.cell? ⟨w.heap.size, 0, none⟩ = some (.slice (some ad) l0.length c0) := (blk_cell HK2.out 0).trans rfl
              have z1 : wr.cell? ⟨w.heap.size, 1, none⟩ = some (.slice A1 l1.length c1) := (blk_cell HK2.out 1).trans rfl
              have t3 : wr.cell? ⟨g, 3, none⟩ = some (.slice A3 d.f3.length c3) := (blk_cell HG2.out 3).trans rfl
              by_cases hlt : j < d.f3.length
              · have p0 : (0 : Int) ≤ (j : Int) := by omega
                have q0 : (j : Int) < (d.f3.length : Int) := by omega
                obtain ⟨ad3, A5, c5, ea, hx0, hx1, hx2, hx3, hx4, hx5, hx6, hx7, hx8, hl5, hi5⟩ := at_T47 HI2.out (j : Int) p0 q0
                cases ea
                have hrd : rd_T47 d.f3 (j : Int) = d.f3[j] := by
                  unfold rd_T47
                  simp [List.getD_eq_getElem?_getD, List.getElem?_eq_getElem hlt]
                rw [Int.toNat_natCast] at hx0 hx1 hx2 hx3 hx4 hx5 hx6 hx7 hx8
                have HT9 := Aside0.mk (show d.f3.take (j + 1) = d.f3.take j ++ [d.f3[j]] by rw [List.take_succ_eq_append_getElem hlt])
                obtain ⟨i, hi⟩ : ∃ i, d.f3[j] = i := ⟨_, rfl⟩
                rw [hrd, hi] at hx0 hx1 hx2 hx3 hx4 hx5 hx6 hx7 hx8
                rw [hi] at HT9
                have HAJ := Aside0.mk (show (d.f3.take (j + 1)).any (itemBad l1.length) = itemBad l1.length i by rw [HT9.out, List.any_append, HJ.out]; simp)
                have HF1 := Aside0.mk (show itemBad l1.length i = true → mayP l0 l1 = false from fun h => HF0.out (by
                  rw [HDB'.out]
                  cases h2 : d.f3.any (itemBad l1.length) with
                  | true => rfl
                  | false => have := any_take_false (n := j + 1) h2; rw [HAJ.out, h] at this; cases this))
                have HYJ := Aside0.mk (show j < d.f3.length from hlt)
                obtain ⟨e0, he0⟩ : ∃ b, pointsB l1.length i.f3 (hasE i.f0) = b := ⟨_, rfl⟩
                obtain ⟨e1, he1⟩ : ∃ b, pointsB l1.length i.f4 (hasF i.f0) = b := ⟨_, rfl⟩
                have HIB := Aside0.mk (show itemBad l1.length i = (!e0 || !e1) by unfold itemBad; rw [he0, he1])
                have KP0 := Aside0.mk (show astrolaberef04_points.f l0 l1 i.f3 (hasE i.f0) = some e0 by rw [refpoints_f, he0])
                have KP1 := Aside0.mk (show astrolaberef04_points.f l0 l1 i.f4 (hasF i.f0) = some e1 by rw [refpoints_f, he1])
                have HRD := Aside0.mk (hrd.trans hi)
                clear hlt hl5 hi5 hrd hi he0 he1
                replace p0 := eq_true p0
                replace q0 := eq_true q0
                go_upto_region 16 with (go_at_call 32; refine (astrolaberef04_Has.calls i.f0 _ _ _ (refhas_f i.f0)).mono ?_; rintro e w3 ⟨rfl, ⟨nd, rfl⟩⟩)
                obtain ⟨V2, hV⟩ : ∃ V2, V2 = wr.drewN nd := ⟨_, rfl⟩
                have HB7 := Aside0.mk (show Below w.heap.size w V2 by rw [hV]; exact pw_below_drewN HB3.out _)
                have HK7 := Aside0.mk (show V2.heap[w.heap.size]? = some (Obj.cells #[.slice (some ad) l0.length c0, .slice A1 l1.length c1] 25 (0, 0)) by rw [hV]; exact blk_drewN HK2.out _)
                have HG7 := Aside0.mk (show V2.heap[g]? = some (Obj.cells #[.int .i64 d.f0, .string d.f1, .slice A2 d.f2.length c2, .slice (some ad3) d.f3.length c3, .int .i64 d.f4, .int .i64 d.f5, .int .i64 d.f6] 45 (0, 0)) by rw [hV]; exact blk_drewN HG2.out _)
                have HI7 := Aside0.mk (show Kd.C k47 V2 (some ad3) d.f3.length d.f3 by rw [hV]; exact Kd.C_drewN HI2.out _)
                rw [← hV]
                clear hV HB3 HK2 HG2 HI2 hx0 hx1 hx2 hx3 hx4 hx5 hx6 hx7 hx8 z0 z1 t3
                have zz0 : V2.cell? ⟨w.heap.size, 0, none⟩ = some (.slice (some ad) l0.length c0) := (blk_cell HK7.out 0).trans rfl
                have zz1 : V2.cell? ⟨w.heap.size, 1, none⟩ = some (.slice A1 l1.length c1) := (blk_cell HK7.out 1).trans rfl
                have tt3 : V2.cell? ⟨g, 3, none⟩ = some (.slice (some ad3) d.f3.length c3) := (blk_cell HG7.out 3).trans rfl
                obtain ⟨ad4, B5, d5, ea, gx0, gx1, gx2, gx3, gx4, gx5, gx6, gx7, gx8, _, _⟩ := at_T47 HI7.out (j : Int) (of_eq_true p0) (of_eq_true q0)
                cases ea
                rw [Int.toNat_natCast] at gx0 gx1 gx2 gx3 gx4 gx5 gx6 gx7 gx8
                rw [HRD.out] at gx0 gx1 gx2 gx3 gx4 gx5 gx6 gx7 gx8
                --REGION16
                obtain ⟨ib, hib⟩ : ∃ b, (!e0 || !e1) = b := ⟨_, rfl⟩
                have HIB2 := Aside0.mk hib
                clear hib
                go_cut [66, 67, 68, 69, 70, 71, 72, 73, 74, 75, 76, 77, 78, 79, 80, 81, 82, 83, 84, 85, 86, 87] (fun _ _ _ _ _ _ _ _ _ _ _ _ _ _ _ _ _ _ _ _ _ v87 we => v87 = .bool ib ∧ Aside0 (Below V2.heap.size V2 we))
                case first =>
                  cases e0 with
                  | false =>
                    have HX := Aside0.mk (show ib = true by have := HIB2.out; exact this.symm)
                    refine wp_region_inv (by kernel_rfl) (by kernel_rfl) (fun vs => { tmps := List.toArray ((Value.agg #[Value.slice (some ad) l0.length c0, Value.slice A1 l1.length c1]) :: (Value.pointer (some { block := w.heap.size, off := 0 })) :: (u2) :: (Value.int IntKind.i64 ↑l1.length) :: (Value.int IntKind.i64 ↑y) :: (Value.pointer (some { block := g, off := 0 })) :: (Value.int IntKind.i64 ↑j) :: (Value.bool (hasE i.f0)) :: (Value.bool (hasF i.f0)) :: (Value.int IntKind.i64 ↑l1.length) :: (Value.pointer (some { block := w.heap.size, off := 1 })) :: (Value.slice A1 l1.length c1) :: (Value.int IntKind.i64 ↑l1.length) :: (Value.bool false) :: (u14) :: (u15) :: (u16) :: (u17) :: (u18) :: (u19) :: (u20) :: (u21) :: (u22) :: (u23) :: (u24) :: (u25) :: (u26) :: (u27) :: (u28) :: (u29) :: (u30) :: (u31) :: (u32) :: (u33) :: (u34) :: (u35) :: (u36) :: (u37) :: (u38) :: (u39) :: (u40) :: (u41) :: (u42) :: (u43) :: (u44) :: (u45) :: (u46) :: (u47) :: (Value.bool false) :: (Value.int IntKind.i64 ↑j) :: (Value.pointer (some { block := g, off := 3 })) :: (Value.slice (some ad3) d.f3.length c3) :: (Value.int IntKind.i64 ↑d.f3.length) :: (Value.bool true) :: (u54) :: (u55) :: (Value.tuple #[Value.bool (hasE i.f0), Value.bool (hasF i.f0)]) :: (Value.pointer (some { block := g, off := 3 })) :: (Value.slice (some ad3) d.f3.length c3) :: (Value.int IntKind.i64 ↑j) :: (Value.pointer (some (ad3.add (j * 9)))) :: (Value.pointer (some (ad3.add (j * 9)))) :: (Value.int IntKind.i64 i.f0) :: (Value.tuple #[Value.bool (hasE i.f0), Value.bool (hasF i.f0)]) :: (Value.bool (hasE i.f0)) :: (Value.bool (hasF i.f0)) :: (vs 0) :: (vs 1) :: (vs 2) :: (vs 3) :: (vs 4) :: (vs 5) :: (vs 6) :: (vs 7) :: (vs 8) :: (vs 9) :: (vs 10) :: (vs 11) :: (vs 12) :: (vs 13) :: (vs 14) :: (vs 15) :: (vs 16) :: (vs 17) :: (vs 18) :: (vs 19) :: (vs 20) :: (vs 21) :: []), defers := [] }) (fun l vs W => IV (V2).drew (fun (jj : Nat) (u : Value) (W : World) => match jj with | 0 => (u = .agg #[.slice (some ad) l0.length c0, .slice A1 l1.length c1] : Prop) | 1 => (u = .pointer (some ⟨g, 3, none⟩) : Prop) | 2 => (u = .slice (some ad3) d.f3.length c3 : Prop) | 3 => (u = .int .i64 (j : Int) : Prop) | 4 => (u = .pointer (some (ad3.add (j * 9))) : Prop) | 5 => (u = .pointer (some ⟨(ad3.add (j * 9)).block, (ad3.add (j * 9)).off + 3, none⟩) : Prop) | 6 => (u = .int .i64 i.f3 : Prop) | 7 => (u = .bool (hasE i.f0) : Prop) | 8 => (u = .bool false : Prop) | 9 => (u = .bool true : Prop) | 10 => (u = .bool true : Prop) | 11 => (True : Prop) | 12 => (True : Prop) | 13 => (True : Prop) | 14 => (True : Prop) | 15 => (True : Prop) | 16 => (True : Prop) | 17 => (True : Prop) | 18 => (True : Prop) | 19 => (True : Prop) | 20 => (True : Prop) | 21 => (u = .bool true : Prop) | _ => True) l vs W) ?stepA ?finA (fun io => match io with | 0 => u66 | 1 => u67 | 2 => u68 | 3 => u69 | 4 => u70 | 5 => u71 | 6 => u72 | 7 => u73 | 8 => u74 | 9 => u75 | 10 => u76 | 11 => u77 | 12 => u78 | 13 => u79 | 14 => u80 | 15 => u81 | 16 => u82 | 17 => u83 | 18 => u84 | 19 => u85 | 20 => u86 | 21 => u87 | _ => undef) rfl ?startA
                    case startA => exact ⟨Below.refl _ _, nofun⟩
                    case stepA =>
                      intro io oo ho lo vs W h hl hd hcl
                      have hi : io < 22 := (Array.getElem?_eq_some_iff.1 ho).1
                      rcases (by omega : io = 0 ∨ io = 1 ∨ io = 2 ∨ io = 3 ∨ io = 4 ∨ io = 5 ∨ io = 6 ∨ io = 7 ∨ io = 8 ∨ io = 9 ∨ io = 10 ∨ io = 11 ∨ io = 12 ∨ io = 13 ∨ io = 14 ∨ io = 15 ∨ io = 16 ∨ io = 17 ∨ io = 18 ∨ io = 19 ∨ io = 20 ∨ io = 21) with rfl | rfl | rfl | rfl | rfl | rfl | rfl | rfl | rfl | rfl | rfl | rfl | rfl | rfl | rfl | rfl | rfl | rfl | rfl | rfl | rfl | rfl
                      · refine wpOp_step ho (fun K' hK => ?_)
                        obtain rfl := (Option.some.inj ho).symm
                        have HK' := Aside0.mk hK
                        clear hK ho
                        rw [if_pos (by rfl)]
                        have hk := blk_below (blk_drew HK7.out) h.b
                        have z0 : W.cell? ⟨w.heap.size, 0, none⟩ = some (.slice (some ad) l0.length c0) := (blk_cell hk 0).trans rfl
                        have z1 : W.cell? ⟨w.heap.size, 1, none⟩ = some (.slice A1 l1.length c1) := (blk_cell hk 1).trans rfl
                        clear hk
                        go_simp
                        exact HK'.out _ _ ⟨_, by first | rfl | simp [upd, *], h.plain 0 _ rfl⟩
                      · refine wpOp_step ho (fun K' hK => ?_)
                        obtain rfl := (Option.some.inj ho).symm
                        have HK' := Aside0.mk hK
                        clear hK ho
                        rw [if_pos (by rfl)]
                        go_simp
                        exact HK'.out _ _ ⟨_, by first | rfl | simp [upd, *], h.plain 1 _ rfl⟩
                      · refine wpOp_step ho (fun K' hK => ?_)
                        obtain rfl := (Option.some.inj ho).symm
                        have HK' := Aside0.mk hK
                        clear hK ho
                        have t_1 := hd 1 (by kernel_rfl)
                        have v1 : vs 1 = .pointer (some ⟨g, 3, none⟩) := h.a 1 t_1
                        rw [if_pos (by rfl)]
                        have hk := blk_below (blk_drew HG7.out) h.b
                        have z3 : W.cell? ⟨g, 3, none⟩ = some (.slice (some ad3) d.f3.length c3) := (blk_cell hk 3).trans rfl
                        clear hk
                        go_simp
                        exact HK'.out _ _ ⟨_, by first | rfl | simp [upd, *], h.plain 2 _ rfl⟩
                      · refine wpOp_step ho (fun K' hK => ?_)
                        obtain rfl := (Option.some.inj ho).symm
                        have HK' := Aside0.mk hK
                        clear hK ho
                        rw [if_pos (by rfl)]
                        go_simp
                        exact HK'.out _ _ ⟨_, by first | rfl | simp [upd, *], h.plain 3 _ rfl⟩
                      · refine wpOp_step ho (fun K' hK => ?_)
                        obtain rfl := (Option.some.inj ho).symm
                        have HK' := Aside0.mk hK
                        clear hK ho
                        have t_2 := hd 2 (by kernel_rfl)
                        have v2 : vs 2 = .slice (some ad3) d.f3.length c3 := h.a 2 t_2
                        have t_3 := hd 3 (by kernel_rfl)
                        have v3 : vs 3 = .int .i64 (j : Int) := h.a 3 t_3
                        rw [if_pos (by rfl)]
                        go_simp
                        exact HK'.out _ _ ⟨_, by first | rfl | simp [upd, *], h.plain 4 _ rfl⟩
                      · refine wpOp_step ho (fun K' hK => ?_)
                        obtain rfl := (Option.some.inj ho).symm
                        have HK' := Aside0.mk hK
                        clear hK ho
                        have t_4 := hd 4 (by kernel_rfl)
                        have v4 : vs 4 = .pointer (some (ad3.add (j * 9))) := h.a 4 t_4
                        rw [if_pos (by rfl)]
                        go_simp
                        exact HK'.out _ _ ⟨_, by first | rfl | simp [upd, *], h.plain 5 _ rfl⟩
                      · refine wpOp_step ho (fun K' hK => ?_)
                        obtain rfl := (Option.some.inj ho).symm
                        have HK' := Aside0.mk hK
                        clear hK ho
                        have t_5 := hd 5 (by kernel_rfl)
                        have v5 : vs 5 = .pointer (some ⟨(ad3.add (j * 9)).block, (ad3.add (j * 9)).off + 3, none⟩) := h.a 5 t_5
                        rw [if_pos (by rfl)]
                        obtain ⟨ad9, B9, d9, ea9, yx0, yx1, yx2, yx3, yx4, yx5, yx6, yx7, yx8, _, _⟩ := at_T47 (Kd.C_below (Kd.C_drew HI7.out) h.b) (j : Int) (of_eq_true p0) (of_eq_true q0)
                        cases ea9
                        rw [Int.toNat_natCast] at yx3 yx4
                        rw [HRD.out] at yx3 yx4
                        clear yx0 yx1 yx2 yx5 yx6 yx7 yx8
                        go_simp
                        exact HK'.out _ _ ⟨_, by first | rfl | simp [upd, *], h.plain 6 _ rfl⟩
                      · refine wpOp_step ho (fun K' hK => ?_)
                        obtain rfl := (Option.some.inj ho).symm
                        have HK' := Aside0.mk hK
                        clear hK ho
                        rw [if_pos (by rfl)]
                        go_simp
                        exact HK'.out _ _ ⟨_, by first | rfl | simp [upd, *], h.plain 7 _ rfl⟩
                      · refine wpOp_step ho (fun K' hK => ?_)
                        obtain rfl := (Option.some.inj ho).symm
                        have HK' := Aside0.mk hK
                        clear hK ho
                        have t_0 := hd 0 (by kernel_rfl)
                        have v0 : vs 0 = .agg #[.slice (some ad) l0.length c0, .slice A1 l1.length c1] := h.a 0 t_0
                        have t_6 := hd 6 (by kernel_rfl)
                        have v6 : vs 6 = .int .i64 i.f3 := h.a 6 t_6
                        have t_7 := hd 7 (by kernel_rfl)
                        have v7 : vs 7 = .bool (hasE i.f0) := h.a 7 t_7
                        rw [if_pos (by rfl)]
                        have KE := Aside0.mk (astrolaberef04_points.calls (some ad) c0 l0 A1 c1 l1 i.f3 (hasE i.f0) false W (Kd.C_below (Kd.C_drew (Kd.C_below HD.out HB7.out)) h.b) HDc.out (Kd.C_below (Kd.C_drew (Kd.C_below HE.out HB7.out)) h.b) HEc.out KP0.out)
                        go_wp2_with (go_at_call 31; refine KE.out.mono ?_; rintro e we ⟨rfl, hbe⟩)
                        exact HK'.out _ _ ⟨_, by first | rfl | simp [upd, *], h.call (fun _ _ _ _ h1 _ => h1) hbe 8 _ rfl⟩
                      · refine wpOp_step ho (fun K' hK => ?_)
                        obtain rfl := (Option.some.inj ho).symm
                        have HK' := Aside0.mk hK
                        clear hK ho
                        have t_8 := hd 8 (by kernel_rfl)
                        have v8 : vs 8 = .bool false := h.a 8 t_8
                        rw [if_pos (by rfl)]
                        go_simp
                        exact HK'.out _ _ ⟨_, by first | rfl | simp [upd, *], h.plain 9 _ rfl⟩
                      · refine wpOp_step ho (fun K' hK => ?_)
                        obtain rfl := (Option.some.inj ho).symm
                        have HK' := Aside0.mk hK
                        clear hK ho
                        have t_9 := hd 9 (by kernel_rfl)
                        have v9 : vs 9 = .bool true := h.a 9 t_9
                        rw [if_pos (by rfl)]
                        go_simp
                        exact HK'.out _ _ ⟨_, by first | rfl | simp [upd, *], h.plain 10 _ rfl⟩
                      · refine wpOp_step ho (fun K' hK => ?_)
                        obtain rfl := (Option.some.inj ho).symm
                        have HK' := Aside0.mk hK
                        clear hK ho
                        have t_10 := hd 10 (by kernel_rfl)
                        have v10 : vs 10 = .bool true := h.a 10 t_10
                        rw [if_neg (by rw [wanted_of rfl (x := 76) (by kernel_rfl) ((rfl : _ = some (vs 10)).trans (congrArg some v10))]; decide)]
                        exact HK'.out _ _ ⟨undef, by first | rfl | simp [upd, *], h.plain 11 _ trivial⟩
                      · refine wpOp_step ho (fun K' hK => ?_)
                        obtain rfl := (Option.some.inj ho).symm
                        have HK' := Aside0.mk hK
                        clear hK ho
                        have t_10 := hd 10 (by kernel_rfl)
                        have v10 : vs 10 = .bool true := h.a 10 t_10
                        rw [if_neg (by rw [wanted_of rfl (x := 76) (by kernel_rfl) ((rfl : _ = some (vs 10)).trans (congrArg some v10))]; decide)]
                        exact HK'.out _ _ ⟨undef, by first | rfl | simp [upd, *], h.plain 12 _ trivial⟩
                      · refine wpOp_step ho (fun K' hK => ?_)
                        obtain rfl := (Option.some.inj ho).symm
                        have HK' := Aside0.mk hK
                        clear hK ho
                        have t_10 := hd 10 (by kernel_rfl)
                        have v10 : vs 10 = .bool true := h.a 10 t_10
                        rw [if_neg (by rw [wanted_of rfl (x := 76) (by kernel_rfl) ((rfl : _ = some (vs 10)).trans (congrArg some v10))]; decide)]
                        exact HK'.out _ _ ⟨undef, by first | rfl | simp [upd, *], h.plain 13 _ trivial⟩
                      · refine wpOp_step ho (fun K' hK => ?_)
                        obtain rfl := (Option.some.inj ho).symm
                        have HK' := Aside0.mk hK
                        clear hK ho
                        have t_10 := hd 10 (by kernel_rfl)
                        have v10 : vs 10 = .bool true := h.a 10 t_10
                        rw [if_neg (by rw [wanted_of rfl (x := 76) (by kernel_rfl) ((rfl : _ = some (vs 10)).trans (congrArg some v10))]; decide)]
                        exact HK'.out _ _ ⟨undef, by first | rfl | simp [upd, *], h.plain 14 _ trivial⟩
                      · refine wpOp_step ho (fun K' hK => ?_)
                        obtain rfl := (Option.some.inj ho).symm
                        have HK' := Aside0.mk hK
                        clear hK ho
                        have t_10 := hd 10 (by kernel_rfl)
                        have v10 : vs 10 = .bool true := h.a 10 t_10
                        rw [if_neg (by rw [wanted_of rfl (x := 76) (by kernel_rfl) ((rfl : _ = some (vs 10)).trans (congrArg some v10))]; decide)]
                        exact HK'.out _ _ ⟨undef, by first | rfl | simp [upd, *], h.plain 15 _ trivial⟩
                      · refine wpOp_step ho (fun K' hK => ?_)
                        obtain rfl := (Option.some.inj ho).symm
                        have HK' := Aside0.mk hK
                        clear hK ho
                        have t_10 := hd 10 (by kernel_rfl)
                        have v10 : vs 10 = .bool true := h.a 10 t_10
                        rw [if_neg (by rw [wanted_of rfl (x := 76) (by kernel_rfl) ((rfl : _ = some (vs 10)).trans (congrArg some v10))]; decide)]
                        exact HK'.out _ _ ⟨undef, by first | rfl | simp [upd, *], h.plain 16 _ trivial⟩
                      · refine wpOp_step ho (fun K' hK => ?_)
                        obtain rfl := (Option.some.inj ho).symm
                        have HK' := Aside0.mk hK
                        clear hK ho
                        have t_10 := hd 10 (by kernel_rfl)
                        have v10 : vs 10 = .bool true := h.a 10 t_10
                        rw [if_neg (by rw [wanted_of rfl (x := 76) (by kernel_rfl) ((rfl : _ = some (vs 10)).trans (congrArg some v10))]; decide)]
                        exact HK'.out _ _ ⟨undef, by first | rfl | simp [upd, *], h.plain 17 _ trivial⟩
                      · refine wpOp_step ho (fun K' hK => ?_)
                        obtain rfl := (Option.some.inj ho).symm
                        have HK' := Aside0.mk hK
                        clear hK ho
                        have t_10 := hd 10 (by kernel_rfl)
                        have v10 : vs 10 = .bool true := h.a 10 t_10
                        rw [if_neg (by rw [wanted_of rfl (x := 76) (by kernel_rfl) ((rfl : _ = some (vs 10)).trans (congrArg some v10))]; decide)]
                        exact HK'.out _ _ ⟨undef, by first | rfl | simp [upd, *], h.plain 18 _ trivial⟩
                      · refine wpOp_step ho (fun K' hK => ?_)
                        obtain rfl := (Option.some.inj ho).symm
                        have HK' := Aside0.mk hK
                        clear hK ho
                        have t_10 := hd 10 (by kernel_rfl)
                        have v10 : vs 10 = .bool true := h.a 10 t_10
                        rw [if_neg (by rw [wanted_of rfl (x := 76) (by kernel_rfl) ((rfl : _ = some (vs 10)).trans (congrArg some v10))]; decide)]
                        exact HK'.out _ _ ⟨undef, by first | rfl | simp [upd, *], h.plain 19 _ trivial⟩
                      · refine wpOp_step ho (fun K' hK => ?_)
                        obtain rfl := (Option.some.inj ho).symm
                        have HK' := Aside0.mk hK
                        clear hK ho
                        have t_10 := hd 10 (by kernel_rfl)
                        have v10 : vs 10 = .bool true := h.a 10 t_10
                        rw [if_neg (by rw [wanted_of rfl (x := 76) (by kernel_rfl) ((rfl : _ = some (vs 10)).trans (congrArg some v10))]; decide)]
                        exact HK'.out _ _ ⟨undef, by first | rfl | simp [upd, *], h.plain 20 _ trivial⟩
                      · refine wpOp_step ho (fun K' hK => ?_)
                        obtain rfl := (Option.some.inj ho).symm
                        have HK' := Aside0.mk hK
                        clear hK ho
                        have t_10 := hd 10 (by kernel_rfl)
                        have v10 : vs 10 = .bool true := h.a 10 t_10
                        rw [if_pos (by rfl)]
                        go_simp
                        exact HK'.out _ _ ⟨_, by first | rfl | simp [upd, *], h.plain 21 _ rfl⟩
                    case finA =>
                      intro lo vs W hall h
                      have v21 : vs 21 = .bool true := h.a 21 (hall 21 (by decide))
                      have HBW := Aside0.mk ((below_drew1 (Below.refl _ V2)).trans h.b)
                      clear h hall
                      go_step
                      go_step
                      go_meet
                      case rel => exact ⟨by rw [v21, HX.out], HBW⟩
                  | true =>
                    have HX := Aside0.mk (show ib = !e1 by have := HIB2.out; exact this.symm)
                    refine wp_region_inv (by kernel_rfl) (by kernel_rfl) (fun vs => { tmps := List.toArray ((Value.agg #[Value.slice (some ad) l0.length c0, Value.slice A1 l1.length c1]) :: (Value.pointer (some { block := w.heap.size, off := 0 })) :: (u2) :: (Value.int IntKind.i64 ↑l1.length) :: (Value.int IntKind.i64 ↑y) :: (Value.pointer (some { block := g, off := 0 })) :: (Value.int IntKind.i64 ↑j) :: (Value.bool (hasE i.f0)) :: (Value.bool (hasF i.f0)) :: (Value.int IntKind.i64 ↑l1.length) :: (Value.pointer (some { block := w.heap.size, off := 1 })) :: (Value.slice A1 l1.length c1) :: (Value.int IntKind.i64 ↑l1.length) :: (Value.bool false) :: (u14) :: (u15) :: (u16) :: (u17) :: (u18) :: (u19) :: (u20) :: (u21) :: (u22) :: (u23) :: (u24) :: (u25) :: (u26) :: (u27) :: (u28) :: (u29) :: (u30) :: (u31) :: (u32) :: (u33) :: (u34) :: (u35) :: (u36) :: (u37) :: (u38) :: (u39) :: (u40) :: (u41) :: (u42) :: (u43) :: (u44) :: (u45) :: (u46) :: (u47) :: (Value.bool false) :: (Value.int IntKind.i64 ↑j) :: (Value.pointer (some { block := g, off := 3 })) :: (Value.slice (some ad3) d.f3.length c3) :: (Value.int IntKind.i64 ↑d.f3.length) :: (Value.bool true) :: (u54) :: (u55) :: (Value.tuple #[Value.bool (hasE i.f0), Value.bool (hasF i.f0)]) :: (Value.pointer (some { block := g, off := 3 })) :: (Value.slice (some ad3) d.f3.length c3) :: (Value.int IntKind.i64 ↑j) :: (Value.pointer (some (ad3.add (j * 9)))) :: (Value.pointer (some (ad3.add (j * 9)))) :: (Value.int IntKind.i64 i.f0) :: (Value.tuple #[Value.bool (hasE i.f0), Value.bool (hasF i.f0)]) :: (Value.bool (hasE i.f0)) :: (Value.bool (hasF i.f0)) :: (vs 0) :: (vs 1) :: (vs 2) :: (vs 3) :: (vs 4) :: (vs 5) :: (vs 6) :: (vs 7) :: (vs 8) :: (vs 9) :: (vs 10) :: (vs 11) :: (vs 12) :: (vs 13) :: (vs 14) :: (vs 15) :: (vs 16) :: (vs 17) :: (vs 18) :: (vs 19) :: (vs 20) :: (vs 21) :: []), defers := [] }) (fun l vs W => IV (V2).drew (fun (jj : Nat) (u : Value) (W : World) => match jj with | 0 => (u = .agg #[.slice (some ad) l0.length c0, .slice A1 l1.length c1] : Prop) | 1 => (u = .pointer (some ⟨g, 3, none⟩) : Prop) | 2 => (u = .slice (some ad3) d.f3.length c3 : Prop) | 3 => (u = .int .i64 (j : Int) : Prop) | 4 => (u = .pointer (some (ad3.add (j * 9))) : Prop) | 5 => (u = .pointer (some ⟨(ad3.add (j * 9)).block, (ad3.add (j * 9)).off + 3, none⟩) : Prop) | 6 => (u = .int .i64 i.f3 : Prop) | 7 => (u = .bool (hasE i.f0) : Prop) | 8 => (u = .bool true : Prop) | 9 => (u = .bool false : Prop) | 10 => (u = .bool false : Prop) | 11 => (u = .agg #[.slice (some ad) l0.length c0, .slice A1 l1.length c1] : Prop) | 12 => (u = .pointer (some ⟨g, 3, none⟩) : Prop) | 13 => (u = .slice (some ad3) d.f3.length c3 : Prop) | 14 => (u = .int .i64 (j : Int) : Prop) | 15 => (u = .pointer (some (ad3.add (j * 9))) : Prop) | 16 => (u = .pointer (some ⟨(ad3.add (j * 9)).block, (ad3.add (j * 9)).off + 4, none⟩) : Prop) | 17 => (u = .int .i64 i.f4 : Prop) | 18 => (u = .bool (hasF i.f0) : Prop) | 19 => (u = .bool e1 : Prop) | 20 => (u = .bool (!e1) : Prop) | 21 => (u = .bool (!e1) : Prop) | _ => True) l vs W) ?stepB ?finB (fun io => match io with | 0 => u66 | 1 => u67 | 2 => u68 | 3 => u69 | 4 => u70 | 5 => u71 | 6 => u72 | 7 => u73 | 8 => u74 | 9 => u75 | 10 => u76 | 11 => u77 | 12 => u78 | 13 => u79 | 14 => u80 | 15 => u81 | 16 => u82 | 17 => u83 | 18 => u84 | 19 => u85 | 20 => u86 | 21 => u87 | _ => undef) rfl ?startB
                    case startB => exact ⟨Below.refl _ _, nofun⟩
                    case stepB =>
                      intro io oo ho lo vs W h hl hd hcl
                      have hi : io < 22 := (Array.getElem?_eq_some_iff.1 ho).1
                      rcases (by omega : io = 0 ∨ io = 1 ∨ io = 2 ∨ io = 3 ∨ io = 4 ∨ io = 5 ∨ io = 6 ∨ io = 7 ∨ io = 8 ∨ io = 9 ∨ io = 10 ∨ io = 11 ∨ io = 12 ∨ io = 13 ∨ io = 14 ∨ io = 15 ∨ io = 16 ∨ io = 17 ∨ io = 18 ∨ io = 19 ∨ io = 20 ∨ io = 21) with rfl | rfl | rfl | rfl | rfl | rfl | rfl | rfl | rfl | rfl | rfl | rfl | rfl | rfl | rfl | rfl | rfl | rfl | rfl | rfl | rfl | rfl
                      · refine wpOp_step ho (fun K' hK => ?_)
                        obtain rfl := (Option.some.inj ho).symm
                        have HK' := Aside0.mk hK
                        clear hK ho
                        rw [if_pos (by rfl)]
                        have hk := blk_below (blk_drew HK7.out) h.b
                        have z0 : W.cell? ⟨w.heap.size, 0, none⟩ = some (.slice (some ad) l0.length c0) := (blk_cell hk 0).trans rfl
                        have z1 : W.cell? ⟨w.heap.size, 1, none⟩ = some (.slice A1 l1.length c1) := (blk_cell hk 1).trans rfl
                        clear hk
                        go_simp
                        exact HK'.out _ _ ⟨_, by first | rfl | simp [upd, *], h.plain 0 _ rfl⟩
                      · refine wpOp_step ho (fun K' hK => ?_)
                        obtain rfl := (Option.some.inj ho).symm
                        have HK' := Aside0.mk hK
                        clear hK ho
                        rw [if_pos (by rfl)]
                        go_simp
                        exact HK'.out _ _ ⟨_, by first | rfl | simp [upd, *], h.plain 1 _ rfl⟩
                      · refine wpOp_step ho (fun K' hK => ?_)
                        obtain rfl := (Option.some.inj ho).symm
                        have HK' := Aside0.mk hK
                        clear hK ho
                        have t_1 := hd 1 (by kernel_rfl)
                        have v1 : vs 1 = .pointer (some ⟨g, 3, none⟩) := h.a 1 t_1
                        rw [if_pos (by rfl)]
                        have hk := blk_below (blk_drew HG7.out) h.b
                        have z3 : W.cell? ⟨g, 3, none⟩ = some (.slice (some ad3) d.f3.length c3) := (blk_cell hk 3).trans rfl
                        clear hk
                        go_simp
                        exact HK'.out _ _ ⟨_, by first | rfl | simp [upd, *], h.plain 2 _ rfl⟩
                      · refine wpOp_step ho (fun K' hK => ?_)
                        obtain rfl := (Option.some.inj ho).symm
                        have HK' := Aside0.mk hK
                        clear hK ho
                        rw [if_pos (by rfl)]
                        go_simp
                        exact HK'.out _ _ ⟨_, by first | rfl | simp [upd, *], h.plain 3 _ rfl⟩
                      · refine wpOp_step ho (fun K' hK => ?_)
                        obtain rfl := (Option.some.inj ho).symm
                        have HK' := Aside0.mk hK
                        clear hK ho
                        have t_2 := hd 2 (by kernel_rfl)
                        have v2 : vs 2 = .slice (some ad3) d.f3.length c3 := h.a 2 t_2
                        have t_3 := hd 3 (by kernel_rfl)
                        have v3 : vs 3 = .int .i64 (j : Int) := h.a 3 t_3
                        rw [if_pos (by rfl)]
                        go_simp
                        exact HK'.out _ _ ⟨_, by first | rfl | simp [upd, *], h.plain 4 _ rfl⟩
                      · refine wpOp_step ho (fun K' hK => ?_)
                        obtain rfl := (Option.some.inj ho).symm
                        have HK' := Aside0.mk hK
                        clear hK ho
                        have t_4 := hd 4 (by kernel_rfl)
                        have v4 : vs 4 = .pointer (some (ad3.add (j * 9))) := h.a 4 t_4
                        rw [if_pos (by rfl)]
                        go_simp
                        exact HK'.out _ _ ⟨_, by first | rfl | simp [upd, *], h.plain 5 _ rfl⟩
                      · refine wpOp_step ho (fun K' hK => ?_)
                        obtain rfl := (Option.some.inj ho).symm
                        have HK' := Aside0.mk hK
                        clear hK ho
                        have t_5 := hd 5 (by kernel_rfl)
                        have v5 : vs 5 = .pointer (some ⟨(ad3.add (j * 9)).block, (ad3.add (j * 9)).off + 3, none⟩) := h.a 5 t_5
                        rw [if_pos (by rfl)]
                        obtain ⟨ad9, B9, d9, ea9, yx0, yx1, yx2, yx3, yx4, yx5, yx6, yx7, yx8, _, _⟩ := at_T47 (Kd.C_below (Kd.C_drew HI7.out) h.b) (j : Int) (of_eq_true p0) (of_eq_true q0)
                        cases ea9
                        rw [Int.toNat_natCast] at yx3 yx4
                        rw [HRD.out] at yx3 yx4
                        clear yx0 yx1 yx2 yx5 yx6 yx7 yx8
                        go_simp
                        exact HK'.out _ _ ⟨_, by first | rfl | simp [upd, *], h.plain 6 _ rfl⟩
                      · refine wpOp_step ho (fun K' hK => ?_)
                        obtain rfl := (Option.some.inj ho).symm
                        have HK' := Aside0.mk hK
                        clear hK ho
                        rw [if_pos (by rfl)]
                        go_simp
                        exact HK'.out _ _ ⟨_, by first | rfl | simp [upd, *], h.plain 7 _ rfl⟩
                      · refine wpOp_step ho (fun K' hK => ?_)
                        obtain rfl := (Option.some.inj ho).symm
                        have HK' := Aside0.mk hK
                        clear hK ho
                        have t_0 := hd 0 (by kernel_rfl)
                        have v0 : vs 0 = .agg #[.slice (some ad) l0.length c0, .slice A1 l1.length c1] := h.a 0 t_0
                        have t_6 := hd 6 (by kernel_rfl)
                        have v6 : vs 6 = .int .i64 i.f3 := h.a 6 t_6
                        have t_7 := hd 7 (by kernel_rfl)
                        have v7 : vs 7 = .bool (hasE i.f0) := h.a 7 t_7
                        rw [if_pos (by rfl)]
                        have KE := Aside0.mk (astrolaberef04_points.calls (some ad) c0 l0 A1 c1 l1 i.f3 (hasE i.f0) true W (Kd.C_below (Kd.C_drew (Kd.C_below HD.out HB7.out)) h.b) HDc.out (Kd.C_below (Kd.C_drew (Kd.C_below HE.out HB7.out)) h.b) HEc.out KP0.out)
                        go_wp2_with (go_at_call 31; refine KE.out.mono ?_; rintro e we ⟨rfl, hbe⟩)
                        exact HK'.out _ _ ⟨_, by first | rfl | simp [upd, *], h.call (fun _ _ _ _ h1 _ => h1) hbe 8 _ rfl⟩
                      · refine wpOp_step ho (fun K' hK => ?_)
                        obtain rfl := (Option.some.inj ho).symm
                        have HK' := Aside0.mk hK
                        clear hK ho
                        have t_8 := hd 8 (by kernel_rfl)
                        have v8 : vs 8 = .bool true := h.a 8 t_8
                        rw [if_pos (by rfl)]
                        go_simp
                        exact HK'.out _ _ ⟨_, by first | rfl | simp [upd, *], h.plain 9 _ rfl⟩
                      · refine wpOp_step ho (fun K' hK => ?_)
                        obtain rfl := (Option.some.inj ho).symm
                        have HK' := Aside0.mk hK
                        clear hK ho
                        have t_9 := hd 9 (by kernel_rfl)
                        have v9 : vs 9 = .bool false := h.a 9 t_9
                        rw [if_pos (by rfl)]
                        go_simp
                        exact HK'.out _ _ ⟨_, by first | rfl | simp [upd, *], h.plain 10 _ rfl⟩
                      · refine wpOp_step ho (fun K' hK => ?_)
                        obtain rfl := (Option.some.inj ho).symm
                        have HK' := Aside0.mk hK
                        clear hK ho
                        have t_10 := hd 10 (by kernel_rfl)
                        have v10 : vs 10 = .bool false := h.a 10 t_10
                        rw [if_pos (by rw [wanted_of rfl (x := 76) (by kernel_rfl) ((rfl : _ = some (vs 10)).trans (congrArg some v10))]; decide)]
                        have hk := blk_below (blk_drew HK7.out) h.b
                        have z0 : W.cell? ⟨w.heap.size, 0, none⟩ = some (.slice (some ad) l0.length c0) := (blk_cell hk 0).trans rfl
                        have z1 : W.cell? ⟨w.heap.size, 1, none⟩ = some (.slice A1 l1.length c1) := (blk_cell hk 1).trans rfl
                        clear hk
                        go_simp
                        exact HK'.out _ _ ⟨_, by first | rfl | simp [upd, *], h.plain 11 _ rfl⟩
                      · refine wpOp_step ho (fun K' hK => ?_)
                        obtain rfl := (Option.some.inj ho).symm
                        have HK' := Aside0.mk hK
                        clear hK ho
                        have t_10 := hd 10 (by kernel_rfl)
                        have v10 : vs 10 = .bool false := h.a 10 t_10
                        rw [if_pos (by rw [wanted_of rfl (x := 76) (by kernel_rfl) ((rfl : _ = some (vs 10)).trans (congrArg some v10))]; decide)]
                        go_simp
                        exact HK'.out _ _ ⟨_, by first | rfl | simp [upd, *], h.plain 12 _ rfl⟩
                      · refine wpOp_step ho (fun K' hK => ?_)
                        obtain rfl := (Option.some.inj ho).symm
                        have HK' := Aside0.mk hK
                        clear hK ho
                        have t_12 := hd 12 (by kernel_rfl)
                        have v12 : vs 12 = .pointer (some ⟨g, 3, none⟩) := h.a 12 t_12
                        have t_10 := hd 10 (by kernel_rfl)
                        have v10 : vs 10 = .bool false := h.a 10 t_10
                        rw [if_pos (by rw [wanted_of rfl (x := 76) (by kernel_rfl) ((rfl : _ = some (vs 10)).trans (congrArg some v10))]; decide)]
                        have hk := blk_below (blk_drew HG7.out) h.b
                        have z3 : W.cell? ⟨g, 3, none⟩ = some (.slice (some ad3) d.f3.length c3) := (blk_cell hk 3).trans rfl
                        clear hk
                        go_simp
                        exact HK'.out _ _ ⟨_, by first | rfl | simp [upd, *], h.plain 13 _ rfl⟩
                      · refine wpOp_step ho (fun K' hK => ?_)
                        obtain rfl := (Option.some.inj ho).symm
                        have HK' := Aside0.mk hK
                        clear hK ho
                        have t_10 := hd 10 (by kernel_rfl)
                        have v10 : vs 10 = .bool false := h.a 10 t_10
                        rw [if_pos (by rw [wanted_of rfl (x := 76) (by kernel_rfl) ((rfl : _ = some (vs 10)).trans (congrArg some v10))]; decide)]
                        go_simp
                        exact HK'.out _ _ ⟨_, by first | rfl | simp [upd, *], h.plain 14 _ rfl⟩
                      · refine wpOp_step ho (fun K' hK => ?_)
                        obtain rfl := (Option.some.inj ho).symm
                        have HK' := Aside0.mk hK
                        clear hK ho
                        have t_13 := hd 13 (by kernel_rfl)
                        have v13 : vs 13 = .slice (some ad3) d.f3.length c3 := h.a 13 t_13
                        have t_14 := hd 14 (by kernel_rfl)
                        have v14 : vs 14 = .int .i64 (j : Int) := h.a 14 t_14
                        have t_10 := hd 10 (by kernel_rfl)
                        have v10 : vs 10 = .bool false := h.a 10 t_10
                        rw [if_pos (by rw [wanted_of rfl (x := 76) (by kernel_rfl) ((rfl : _ = some (vs 10)).trans (congrArg some v10))]; decide)]
                        go_simp
                        exact HK'.out _ _ ⟨_, by first | rfl | simp [upd, *], h.plain 15 _ rfl⟩
                      · refine wpOp_step ho (fun K' hK => ?_)
                        obtain rfl := (Option.some.inj ho).symm
                        have HK' := Aside0.mk hK
                        clear hK ho
                        have t_15 := hd 15 (by kernel_rfl)
                        have v15 : vs 15 = .pointer (some (ad3.add (j * 9))) := h.a 15 t_15
                        have t_10 := hd 10 (by kernel_rfl)
                        have v10 : vs 10 = .bool false := h.a 10 t_10
                        rw [if_pos (by rw [wanted_of rfl (x := 76) (by kernel_rfl) ((rfl : _ = some (vs 10)).trans (congrArg some v10))]; decide)]
                        go_simp
                        exact HK'.out _ _ ⟨_, by first | rfl | simp [upd, *], h.plain 16 _ rfl⟩
                      · refine wpOp_step ho (fun K' hK => ?_)
                        obtain rfl := (Option.some.inj ho).symm
                        have HK' := Aside0.mk hK
                        clear hK ho
                        have t_16 := hd 16 (by kernel_rfl)
                        have v16 : vs 16 = .pointer (some ⟨(ad3.add (j * 9)).block, (ad3.add (j * 9)).off + 4, none⟩) := h.a 16 t_16
                        have t_10 := hd 10 (by kernel_rfl)
                        have v10 : vs 10 = .bool false := h.a 10 t_10
                        rw [if_pos (by rw [wanted_of rfl (x := 76) (by kernel_rfl) ((rfl : _ = some (vs 10)).trans (congrArg some v10))]; decide)]
                        obtain ⟨ad9, B9, d9, ea9, yx0, yx1, yx2, yx3, yx4, yx5, yx6, yx7, yx8, _, _⟩ := at_T47 (Kd.C_below (Kd.C_drew HI7.out) h.b) (j : Int) (of_eq_true p0) (of_eq_true q0)
                        cases ea9
                        rw [Int.toNat_natCast] at yx3 yx4
                        rw [HRD.out] at yx3 yx4
                        clear yx0 yx1 yx2 yx5 yx6 yx7 yx8
                        go_simp
                        exact HK'.out _ _ ⟨_, by first | rfl | simp [upd, *], h.plain 17 _ rfl⟩
                      · refine wpOp_step ho (fun K' hK => ?_)
                        obtain rfl := (Option.some.inj ho).symm
                        have HK' := Aside0.mk hK
                        clear hK ho
                        have t_10 := hd 10 (by kernel_rfl)
                        have v10 : vs 10 = .bool false := h.a 10 t_10
                        rw [if_pos (by rw [wanted_of rfl (x := 76) (by kernel_rfl) ((rfl : _ = some (vs 10)).trans (congrArg some v10))]; decide)]
                        go_simp
                        exact HK'.out _ _ ⟨_, by first | rfl | simp [upd, *], h.plain 18 _ rfl⟩
                      · refine wpOp_step ho (fun K' hK => ?_)
                        obtain rfl := (Option.some.inj ho).symm
                        have HK' := Aside0.mk hK
                        clear hK ho
                        have t_11 := hd 11 (by kernel_rfl)
                        have v11 : vs 11 = .agg #[.slice (some ad) l0.length c0, .slice A1 l1.length c1] := h.a 11 t_11
                        have t_17 := hd 17 (by kernel_rfl)
                        have v17 : vs 17 = .int .i64 i.f4 := h.a 17 t_17
                        have t_18 := hd 18 (by kernel_rfl)
                        have v18 : vs 18 = .bool (hasF i.f0) := h.a 18 t_18
                        have t_10 := hd 10 (by kernel_rfl)
                        have v10 : vs 10 = .bool false := h.a 10 t_10
                        rw [if_pos (by rw [wanted_of rfl (x := 76) (by kernel_rfl) ((rfl : _ = some (vs 10)).trans (congrArg some v10))]; decide)]
                        have KE := Aside0.mk (astrolaberef04_points.calls (some ad) c0 l0 A1 c1 l1 i.f4 (hasF i.f0) e1 W (Kd.C_below (Kd.C_drew (Kd.C_below HD.out HB7.out)) h.b) HDc.out (Kd.C_below (Kd.C_drew (Kd.C_below HE.out HB7.out)) h.b) HEc.out KP1.out)
                        go_wp2_with (go_at_call 31; refine KE.out.mono ?_; rintro e we ⟨rfl, hbe⟩)
                        exact HK'.out _ _ ⟨_, by first | rfl | simp [upd, *], h.call (fun _ _ _ _ h1 _ => h1) hbe 19 _ rfl⟩
                      · refine wpOp_step ho (fun K' hK => ?_)
                        obtain rfl := (Option.some.inj ho).symm
                        have HK' := Aside0.mk hK
                        clear hK ho
                        have t_19 := hd 19 (by kernel_rfl)
                        have v19 : vs 19 = .bool e1 := h.a 19 t_19
                        have t_10 := hd 10 (by kernel_rfl)
                        have v10 : vs 10 = .bool false := h.a 10 t_10
                        rw [if_pos (by rw [wanted_of rfl (x := 76) (by kernel_rfl) ((rfl : _ = some (vs 10)).trans (congrArg some v10))]; decide)]
                        go_simp
                        exact HK'.out _ _ ⟨_, by first | rfl | simp [upd, *], h.plain 20 _ rfl⟩
                      · refine wpOp_step ho (fun K' hK => ?_)
                        obtain rfl := (Option.some.inj ho).symm
                        have HK' := Aside0.mk hK
                        clear hK ho
                        have t_10 := hd 10 (by kernel_rfl)
                        have v10 : vs 10 = .bool false := h.a 10 t_10
                        have t_20 := hd 20 (by kernel_rfl)
                        have v20 : vs 20 = .bool (!e1) := h.a 20 t_20
                        rw [if_pos (by rfl)]
                        go_simp
                        exact HK'.out _ _ ⟨_, by first | rfl | simp [upd, *], h.plain 21 _ rfl⟩
                    case finB =>
                      intro lo vs W hall h
                      have v21 : vs 21 = .bool (!e1) := h.a 21 (hall 21 (by decide))
                      have HBW := Aside0.mk ((below_drew1 (Below.refl _ V2)).trans h.b)
                      clear h hall
                      go_step
                      go_step
                      go_meet
                      case rel => exact ⟨by rw [v21, HX.out], HBW⟩
                case rest =>
                  obtain ⟨hv87, HBW⟩ := hcut
                  have HB8 := Aside0.mk (HB7.out.trans (HBW.out.mono HB7.out.size))
                  have HK8 := Aside0.mk (blk_below HK7.out HBW.out)
                  have HG8 := Aside0.mk (blk_below HG7.out HBW.out)
                  have HI8 := Aside0.mk (Kd.C_below HI7.out HBW.out)
                  have HIC := Aside0.mk (HIB.out.trans HIB2.out)
                  clear zz0 zz1 tt3 gx0 gx1 gx2 gx3 gx4 gx5 gx6 gx7 gx8 HB7 HK7 HG7 HI7
                  cases ib with
                  | true =>
                    subst hv87
                    have HF := Aside0.mk (HF1.out HIC.out)
                    go_wp2
                    go_ret
                    exact ⟨by rw [HF.out]; rfl, HB8.out⟩
                  | false =>
                    subst hv87
                    go_wp2
                    refine ⟨?_, ?measure9⟩
                    repeat apply Exists.intro
                    refine ⟨?rel9, rfl⟩
                    case rel9 =>
                      have h1 := HYJ.out
                      have h2 := HSZ.out
                      exact ⟨j + 1, by rw [wrap_i64' (by omega) (by omega), ← Int.natCast_succ], HYJ.out, ⟨by rw [HAJ.out, HIC.out]⟩, HB8, HK8, HG8, HI8⟩
                    case measure9 =>
                      have h1 := HYJ.out
                      have h2 := HSZ.out
                      have hw := wrap_i64' (n := (j : Int) + 1) (by omega) (by omega)
                      show d.f3.length - (intOf (.int .i64 (wrap64 ((j : Int) + 1)))).toNat < d.f3.length - (intOf (.int .i64 (j : Int))).toNat
                      rw [hw, show intOf (.int .i64 ((j : Int) + 1)) = (j : Int) + 1 from rfl, show intOf (.int .i64 (j : Int)) = (j : Int) from rfl]
                      omega
              · have hjl : j = d.f3.length := by omega
                subst hjl
                have HDF := Aside0.mk (show declBad l1.length d = false by have := HJ.out; rw [List.take_length] at this; rw [HDB'.out, this])
                clear hlt hj
                go_wp2
                go_roundw
                case rel =>
                  have h1 := HY.out
                  have h2 := H0.out
                  exact ⟨y + 1, by rw [wrap_i64' (by omega) (by omega), ← Int.natCast_succ], HY.out, ⟨by rw [HAP.out, HDF.out]⟩, HB3, HK2⟩
                case measure =>
                  have h1 := HY.out
                  have h2 := H0.out
                  have hw := wrap_i64' (n := (y : Int) + 1) (by omega) (by omega)
                  show l0.length - (intOf (.int .i64 (wrap64 ((y : Int) + 1)))).toNat < l0.length - (intOf (.int .i64 (y : Int))).toNat
                  rw [hw, show intOf (.int .i64 ((y : Int) + 1)) = (y : Int) + 1 from rfl, show intOf (.int .i64 (y : Int)) = (y : Int) from rfl]
                  omega
        · have hyl : y = l0.length := by omega
          subst hyl
          have HMP := Aside0.mk (show mayP l0 l1 = true by unfold mayP; have := HA.out; rw [List.take_length] at this; rw [HA1.out, this]; rfl)
          go_wp2
          go_ret
          exact ⟨by rw [HMP.out]; rfl, HBr.out⟩

end Go.Proofs.Ytediidkiedifcaa.Q
