/- The reference's One, walked. -/
import Derived.Test.YtediidkiedifcaaAMay1
import Derived.Test.YtediidkiedifcaaQ7
namespace Go.Proofs.Ytediidkiedifcaa.Q
set_option linter.unusedVariables false
set_option linter.unusedSimpArgs false
open Go.RowKit Go.Proofs.YtediidkiedifcaaW.PrintWords Go.Proofs.YtediidkiedifcaaW.PrintLast Go.Proofs.YtediidkiedifcaaW.PrintMore
def manyF (k : Int) : Int := if k = 4 ∨ k = 5 ∨ k = 16 ∨ k = 21 then 1 else if (6 ≤ k ∧ k ≤ 14) ∨ k = 17 ∨ k = 18 then 2 else if k = 15 then 3 else if k = 19 then -1 else 0
theorem many_f (n : Nat) (k : Int) : astrolaberef04_Many.f (n + 2) k = some (manyF k) := by
  unfold astrolaberef04_Many.f manyF
  simp only [astrolaberef04_Many.j0, astrolaberef04_Many.j1, beq_iff_eq]
  by_cases h4 : k = 4
  · subst h4; rfl
  by_cases h5 : k = 5
  · subst h5; rfl
  by_cases h16 : k = 16
  · subst h16; rfl
  by_cases h21 : k = 21
  · subst h21; rfl
  by_cases h15 : k = 15
  · subst h15; rfl
  by_cases h19 : k = 19
  · subst h19; rfl
  by_cases h17 : k = 17
  · subst h17; rfl
  by_cases h18 : k = 18
  · subst h18; rfl
  simp only [h4, h5, h16, h21, h15, h19, h17, h18, if_false, or_false]
  by_cases h : 6 ≤ k ∧ k ≤ 14
  · have : k = 6 ∨ k = 7 ∨ k = 8 ∨ k = 9 ∨ k = 10 ∨ k = 11 ∨ k = 12 ∨ k = 13 ∨ k = 14 := by omega
    rw [if_pos h]
    rcases this with rfl | rfl | rfl | rfl | rfl | rfl | rfl | rfl | rfl <;> rfl
  · rw [if_neg h]
    have e6 : k ≠ 6 := by omega
    have e7 : k ≠ 7 := by omega
    have e8 : k ≠ 8 := by omega
    have e9 : k ≠ 9 := by omega
    have e10 : k ≠ 10 := by omega
    have e11 : k ≠ 11 := by omega
    have e12 : k ≠ 12 := by omega
    have e13 : k ≠ 13 := by omega
    have e14 : k ≠ 14 := by omega
    simp [e6, e7, e8, e9, e10, e11, e12, e13, e14]
theorem refparts_f (n : Nat) (x : S31) (h : x.f7.length ≤ 1000000000000) : astrolaberef04_Parts.f (n + 2) x.f0 x.f1 x.f2 x.f3 x.f4 x.f5 x.f6 x.f7 x.f8 = some (partsF x) := by
  unfold astrolaberef04_Parts.f partsF
  rw [many_f, Option.bind_some]
  unfold manyF
  split
  · rfl
  · split
    · rfl
    · split
      · rfl
      · split
        · rw [if_pos (by omega), Option.bind_some, if_pos (by simp; omega)]
          rfl
        · rfl
def tooB (x : S31) (n : Int) : Bool := (decide (n < 1) && x.f1 != 0) || ((decide (n < 2) && x.f2 != 0) || ((decide (n < 3) && x.f3 != 0) || (decide (0 ≤ n) && decide (0 < x.f7.length))))
def oneB (x : S31) (at_ : Int) : Bool :=
  if x.f0 < 1 ∨ x.f0 > 21 then false else if (partsF x).any (outB at_) = true then false else if tooB x (manyF x.f0) = true then false
  else if (namedB x.f0 != !(x.f4.toList == [])) = true then false else if ((x.f0 == 20) != !(x.f5.toList == [])) = true then false
  else if x.f0 > 2 then x.f6 == 0 else decide (0 ≤ x.f6) && (x.f0 == 1 || decide (x.f6 ≤ 1))
set_option maxHeartbeats 16000000 in
set_option maxRecDepth 100000 in
theorem one_mid (x : S31) (A7 : Option Addr) (c7 : Nat) (at_ : Int) (w : World) (hr : Kd.C (Kd.int .i64) w A7 x.f7.length x.f7) (hc : x.f7.length ≤ c7) (hl : x.f7.length ≤ 1000000000000) (h1 : ¬ x.f0 < 1) (h21 : ¬ x.f0 > 21) :
    Calls Try.prog 30 #[.agg #[.int .i64 x.f0, .int .i64 x.f1, .int .i64 x.f2, .int .i64 x.f3, .string x.f4, .string x.f5, .int .i64 x.f6, .slice A7 x.f7.length c7, .int .i64 x.f8], .int .i64 at_] w fun e w' => e = .returned (.bool (oneB x at_)) ∧ Below w.heap.size w w' := by
  have HR0 := Aside0.mk (And.intro h1 h21)
  have hlo : (x.f0 < 1) = False := eq_false h1
  have hhi : (21 < x.f0) = False := eq_false h21
  have HONE := Aside0.mk (show oneB x at_ = if (partsF x).any (outB at_) = true then false else if tooB x (manyF x.f0) = true then false else if (namedB x.f0 != !(x.f4.toList == [])) = true then false else if ((x.f0 == 20) != !(x.f5.toList == [])) = true then false else if x.f0 > 2 then x.f6 == 0 else decide (0 ≤ x.f6) && (x.f0 == 1 || decide (x.f6 ≤ 1)) by unfold oneB; rw [if_neg (by omega)])
  have HC := Aside0.mk hr
  have HL := Aside0.mk hl
  have HCc := Aside0.mk hc
  have hb : Below w.heap.size w (w.alloc (Obj.cells #[.int .i64 x.f0, .int .i64 x.f1, .int .i64 x.f2, .int .i64 x.f3, .string x.f4, .string x.f5, .int .i64 x.f6, .slice A7 x.f7.length c7, .int .i64 x.f8] 31)) := (Below.refl _ _).alloc (Nat.le_refl _) _
  have hk : (w.alloc (Obj.cells #[.int .i64 x.f0, .int .i64 x.f1, .int .i64 x.f2, .int .i64 x.f3, .string x.f4, .string x.f5, .int .i64 x.f6, .slice A7 x.f7.length c7, .int .i64 x.f8] 31)).heap[w.heap.size]? = some (.cells #[.int .i64 x.f0, .int .i64 x.f1, .int .i64 x.f2, .int .i64 x.f3, .string x.f4, .string x.f5, .int .i64 x.f6, .slice A7 x.f7.length c7, .int .i64 x.f8] 31 (0, 0)) := blk_new w _
  have KM := Aside0.mk (many_f 0 x.f0)
  have KPf := Aside0.mk (refparts_f 1 x hl)
  have hkP := Aside0.mk (show (partsF x).length ≤ 1000000000003 by unfold partsF; (repeat' split) <;> first | (simp; done) | (simp; omega) | omega)
  obtain ⟨ps, hps⟩ : ∃ ps, partsF x = ps := ⟨_, rfl⟩
  obtain ⟨n, hn⟩ : ∃ n, manyF x.f0 = n := ⟨_, rfl⟩
  have HMN := Aside0.mk hn
  rw [hps] at HONE KPf hkP
  rw [hn] at HONE KM
  clear hr hl hc hps hn h1 h21
  go_enter Try.func30, Try.ntmps30
  go_upto_region 1 with (fail)
  obtain ⟨W, hW⟩ : ∃ W, W = (w.alloc (Obj.cells #[.int .i64 x.f0, .int .i64 x.f1, .int .i64 x.f2, .int .i64 x.f3, .string x.f4, .string x.f5, .int .i64 x.f6, .slice A7 x.f7.length c7, .int .i64 x.f8] 31)) := ⟨_, rfl⟩
  rw [← hW] at hb hk ⊢
  clear hW
  have y0 : W.cell? ⟨w.heap.size, 0, none⟩ = some (.int .i64 x.f0) := (blk_cell hk 0).trans rfl
  have y1 : W.cell? ⟨w.heap.size, 1, none⟩ = some (.int .i64 x.f1) := (blk_cell hk 1).trans rfl
  have y2 : W.cell? ⟨w.heap.size, 2, none⟩ = some (.int .i64 x.f2) := (blk_cell hk 2).trans rfl
  have y3 : W.cell? ⟨w.heap.size, 3, none⟩ = some (.int .i64 x.f3) := (blk_cell hk 3).trans rfl
  have y4 : W.cell? ⟨w.heap.size, 4, none⟩ = some (.string x.f4) := (blk_cell hk 4).trans rfl
  have y5 : W.cell? ⟨w.heap.size, 5, none⟩ = some (.string x.f5) := (blk_cell hk 5).trans rfl
  have y6 : W.cell? ⟨w.heap.size, 6, none⟩ = some (.int .i64 x.f6) := (blk_cell hk 6).trans rfl
  have y7 : W.cell? ⟨w.heap.size, 7, none⟩ = some (.slice A7 x.f7.length c7) := (blk_cell hk 7).trans rfl
  have y8 : W.cell? ⟨w.heap.size, 8, none⟩ = some (.int .i64 x.f8) := (blk_cell hk 8).trans rfl
  have HB := Aside0.mk hb
  have HK := Aside0.mk hk
  clear hb hk
  go_upto_region 4 with (go_at_call 25; refine (astrolaberef04_Many.calls 2 x.f0 _ _ KM.out).mono ?_; rintro e w1 ⟨rfl, ⟨nd, rfl⟩⟩)
  go_upto_region 6 with (go_at_call 11; refine (astrolaberef04_Parts.calls 3 x.f0 x.f1 x.f2 x.f3 x.f4 x.f5 x.f6 A7 c7 x.f7 x.f8 ps _ (by first | exact Kd.C_below HC.out HB.out | exact Kd.C_drewN (Kd.C_below HC.out HB.out) _) HCc.out KPf.out).mono ?_; rintro e we ⟨vp, rfl, hrp, hbe⟩; obtain ⟨Ap, cp, rfl⟩ := Kd.R_slice hrp; have HRP := Aside0.mk hrp; have HBE := Aside0.mk ((pw_below_drewN HB.out _).trans (hbe.mono HB.out.size)); have HKE := Aside0.mk (blk_below (blk_drewN HK.out _) hbe); clear hrp hbe)
  clear KM KPf y0 y1 y2 y3 y4 y5 y6 y7 y8
  go_loopw [7] (fun v7 wr => ∃ y : Nat, v7 = .int .i64 (y : Int) ∧ y ≤ ps.length ∧ Aside0 ((ps.take y).any (outB at_) = false) ∧ Aside0 (Below w.heap.size w wr) ∧ Aside0 (wr.heap[w.heap.size]? = some (Obj.cells #[.int .i64 x.f0, .int .i64 x.f1, .int .i64 x.f2, .int .i64 x.f3, .string x.f4, .string x.f5, .int .i64 x.f6, .slice A7 x.f7.length c7, .int .i64 x.f8] 31)) ∧ Aside0 (Kd.R (Kd.int .i64) 3 wr W.heap.size (fun _ => True) (.slice Ap ps.length cp) ps)) (fun v7 _ => ps.length - (intOf v7).toNat)
  case atStart => exact ⟨0, rfl, by omega, ⟨by simp⟩, HBE, HKE, HRP⟩
  case round =>
    obtain ⟨y, rfl, hy, HA, HBr, HKr, HRr⟩ := hrel
    by_cases hlt : y < ps.length
    · have ky := (show (0 : Int) ≤ (y : Int) ∧ (y : Int) < (ps.length : Int) by omega)
      obtain ⟨g9, c9, e9, _⟩ := Kd.R_form HRr.out (by omega)
      cases e9
      obtain ⟨q1, q2⟩ := Kd.R_celln 0 HRr.out (y : Int) ky.1 ky.2
      have hrd : rdOf (0 : Int) ps (y : Int) = ps[y] := by
        unfold rdOf
        simp [List.getD_eq_getElem?_getD, List.getElem?_eq_getElem hlt]
      rw [hrd, Int.toNat_natCast] at q1
      rw [Int.toNat_natCast] at q2
      have HT9 := Aside0.mk (show ps.take (y + 1) = ps.take y ++ [ps[y]] by rw [List.take_succ_eq_append_getElem hlt])
      have HIN := Aside0.mk (show ps.any (outB at_) = false → outB at_ ps[y] = false from fun h => by have := List.any_eq_false.1 h ps[y] (List.getElem_mem hlt); simpa using this)
      obtain ⟨cc, hcc⟩ : ∃ c, ps[y] = c := ⟨_, rfl⟩
      rw [hcc] at q1 HT9 HIN
      have p0 := eq_true ky.1
      have q0 := eq_true ky.2
      have HY := Aside0.mk (show y < ps.length from hlt)
      clear hlt hrd hcc ky
      by_cases hneg : cc < 0
      · have HF := Aside0.mk (show oneB x at_ = false by rw [HONE.out, if_pos]; cases h : ps.any (outB at_) with | true => rfl | false => have := HIN.out h; unfold outB at this; rw [show decide (cc < 0) = true from decide_eq_true hneg, Bool.true_or] at this; cases this)
        replace hneg := eq_true hneg
        go_wp2
        go_ret
        exact ⟨by rw [HF.out]; rfl, HBr.out⟩
      · by_cases hge : at_ ≤ cc
        · have HF := Aside0.mk (show oneB x at_ = false by rw [HONE.out, if_pos]; cases h : ps.any (outB at_) with | true => rfl | false => have := HIN.out h; unfold outB at this; rw [show decide (at_ ≤ cc) = true from decide_eq_true hge, Bool.or_true] at this; cases this)
          replace hneg := eq_false hneg
          replace hge := eq_true hge
          go_wp2
          go_ret
          exact ⟨by rw [HF.out]; rfl, HBr.out⟩
        · have HO := Aside0.mk (show outB at_ cc = false by unfold outB; rw [show decide (cc < 0) = false from decide_eq_false hneg, show decide (at_ ≤ cc) = false from decide_eq_false hge]; rfl)
          replace hneg := eq_false hneg
          replace hge := eq_false hge
          go_wp2
          go_roundw
          case rel =>
            have h1 := HY.out
            have h2 := hkP.out
            exact ⟨y + 1, by rw [wrap_i64' (by omega) (by omega), ← Int.natCast_succ], HY.out, ⟨by rw [HT9.out, List.any_append, HA.out]; simp [HO.out]⟩, HBr, HKr, HRr⟩
          case measure =>
            have h1 := HY.out
            have h2 := hkP.out
            have hw := wrap_i64' (n := (y : Int) + 1) (by omega) (by omega)
            show ps.length - (intOf (.int .i64 (wrap64 ((y : Int) + 1)))).toNat < ps.length - (intOf (.int .i64 (y : Int))).toNat
            rw [hw, show intOf (.int .i64 ((y : Int) + 1)) = (y : Int) + 1 from rfl, show intOf (.int .i64 (y : Int)) = (y : Int) from rfl]
            omega
    · have hyl : y = ps.length := by omega
      subst hyl
      have HA' := Aside0.mk (show ps.any (outB at_) = false by have := HA.out; rwa [List.take_length] at this)
      have HONE' := Aside0.mk (HONE.out.trans (if_neg (by rw [HA'.out]; decide)))
      have y0 : wr.cell? ⟨w.heap.size, 0, none⟩ = some (.int .i64 x.f0) := (blk_cell HKr.out 0).trans rfl
      have y1 : wr.cell? ⟨w.heap.size, 1, none⟩ = some (.int .i64 x.f1) := (blk_cell HKr.out 1).trans rfl
      have y2 : wr.cell? ⟨w.heap.size, 2, none⟩ = some (.int .i64 x.f2) := (blk_cell HKr.out 2).trans rfl
      have y3 : wr.cell? ⟨w.heap.size, 3, none⟩ = some (.int .i64 x.f3) := (blk_cell HKr.out 3).trans rfl
      have y4 : wr.cell? ⟨w.heap.size, 4, none⟩ = some (.string x.f4) := (blk_cell HKr.out 4).trans rfl
      have y5 : wr.cell? ⟨w.heap.size, 5, none⟩ = some (.string x.f5) := (blk_cell HKr.out 5).trans rfl
      have y6 : wr.cell? ⟨w.heap.size, 6, none⟩ = some (.int .i64 x.f6) := (blk_cell HKr.out 6).trans rfl
      have y7 : wr.cell? ⟨w.heap.size, 7, none⟩ = some (.slice A7 x.f7.length c7) := (blk_cell HKr.out 7).trans rfl
      have y8 : wr.cell? ⟨w.heap.size, 8, none⟩ = some (.int .i64 x.f8) := (blk_cell HKr.out 8).trans rfl
      have HON1 := HONE'
      clear HONE HA HRr HONE'
      by_cases hk0 : x.f0 = 1
      case pos =>
       have hmany : n = 0 := by rw [← HMN.out]; unfold manyF; rw [hk0]; rfl
       have hnamed : namedB x.f0 = false := by unfold namedB; rw [hk0]; rfl
       have hf20 : (x.f0 == 20) = false := by rw [hk0]; rfl
       have hf3 : (x.f0 == 3) = false := by rw [hk0]; rfl
       have hf19 : (x.f0 == 19) = false := by rw [hk0]; rfl
       have hf1 : (x.f0 == 1) = true := by rw [hk0]; rfl
       have hgt : (x.f0 > 2) = False := eq_false (by omega)
       have hgt2 : (2 < x.f0) = False := hgt
       have HONE' := Aside0.mk (HON1.out.trans (by rw [hmany, hnamed, hf20, if_neg (of_eq_false hgt), hf1]))
       subst hmany
       clear hk0 hnamed HMN HON1
       by_cases hzf1 : x.f1 = 0
       case neg =>
         have HT := Aside0.mk (show tooB x (0) = true by unfold tooB; simp [hzf1])
         have hzf1b : (x.f1 == 0) = false := beq_false_of_ne hzf1
         have hzf1c : (x.f1 != 0) = true := bne_iff_ne.2 hzf1
         go_wp2
         go_ret
         exact ⟨by rw [HONE'.out, if_pos HT.out]; rfl, HBr.out⟩
       case pos =>
        have hzf1b : (x.f1 == 0) = true := beq_iff_eq.2 hzf1
        have hzf1c : (x.f1 != 0) = false := by rw [bne, hzf1b]; rfl
        by_cases hzf2 : x.f2 = 0
        case neg =>
          have HT := Aside0.mk (show tooB x (0) = true by unfold tooB; simp [hzf1, hzf2])
          have hzf2b : (x.f2 == 0) = false := beq_false_of_ne hzf2
          have hzf2c : (x.f2 != 0) = true := bne_iff_ne.2 hzf2
          go_wp2
          go_ret
          exact ⟨by rw [HONE'.out, if_pos HT.out]; rfl, HBr.out⟩
        case pos =>
         have hzf2b : (x.f2 == 0) = true := beq_iff_eq.2 hzf2
         have hzf2c : (x.f2 != 0) = false := by rw [bne, hzf2b]; rfl
         by_cases hzf3 : x.f3 = 0
         case neg =>
           have HT := Aside0.mk (show tooB x (0) = true by unfold tooB; simp [hzf1, hzf2, hzf3])
           have hzf3b : (x.f3 == 0) = false := beq_false_of_ne hzf3
           have hzf3c : (x.f3 != 0) = true := bne_iff_ne.2 hzf3
           go_wp2
           go_ret
           exact ⟨by rw [HONE'.out, if_pos HT.out]; rfl, HBr.out⟩
         case pos =>
          have hzf3b : (x.f3 == 0) = true := beq_iff_eq.2 hzf3
          have hzf3c : (x.f3 != 0) = false := by rw [bne, hzf3b]; rfl
          by_cases hl7 : 0 < x.f7.length
          case pos =>
            have HT := Aside0.mk (show tooB x (0) = true by unfold tooB; simp [hl7])
            have hl7b : ((0 : Int) < (x.f7.length : Int)) = True := eq_true (by omega)
            have hl7c : decide ((0 : Int) < (x.f7.length : Int)) = true := decide_eq_true (by omega)
            go_wp2
            go_ret
            exact ⟨by rw [HONE'.out, if_pos HT.out]; rfl, HBr.out⟩
          case neg =>
           have hl7b : ((0 : Int) < (x.f7.length : Int)) = False := eq_false (by omega)
           have hl7c : decide ((0 : Int) < (x.f7.length : Int)) = false := decide_eq_false (by omega)
           have HT := Aside0.mk (show tooB x (0) = false by unfold tooB; simp [hzf1, hzf2, hzf3, hl7])
           have HN := Aside0.mk (HONE'.out.trans (if_neg (by rw [HT.out]; decide)))
           by_cases hn4 : x.f4.toList = []
           case pos =>
            have hn4e : x.f4.toList.isEmpty = true := by rw [hn4]; rfl
            by_cases hn5 : x.f5.toList = []
            case pos =>
             have hn5e : x.f5.toList.isEmpty = true := by rw [hn5]; rfl
             go_wp2
             all_goals go_ret
             all_goals refine ⟨?_, HBr.out⟩
             all_goals rw [HN.out]
             all_goals first | (simp [*]; done) | (simp [*]; omega)
            case neg =>
             have hn5e : x.f5.toList.isEmpty = false := by cases h : x.f5.toList with | nil => exact absurd h hn5 | cons _ _ => rfl
             go_wp2
             all_goals go_ret
             all_goals refine ⟨?_, HBr.out⟩
             all_goals rw [HN.out]
             all_goals first | (simp [*]; done) | (simp [*]; omega)
           case neg =>
            have hn4e : x.f4.toList.isEmpty = false := by cases h : x.f4.toList with | nil => exact absurd h hn4 | cons _ _ => rfl
            by_cases hn5 : x.f5.toList = []
            case pos =>
             have hn5e : x.f5.toList.isEmpty = true := by rw [hn5]; rfl
             go_wp2
             all_goals go_ret
             all_goals refine ⟨?_, HBr.out⟩
             all_goals rw [HN.out]
             all_goals first | (simp [*]; done) | (simp [*]; omega)
            case neg =>
             have hn5e : x.f5.toList.isEmpty = false := by cases h : x.f5.toList with | nil => exact absurd h hn5 | cons _ _ => rfl
             go_wp2
             all_goals go_ret
             all_goals refine ⟨?_, HBr.out⟩
             all_goals rw [HN.out]
             all_goals first | (simp [*]; done) | (simp [*]; omega)
      case neg =>
       have HNk1 := Aside0.mk hk0
       have HR0 := Aside0.mk (And.intro HR0.out hk0)
       clear hk0
       by_cases hk0 : x.f0 = 2
       case pos =>
        have hmany : n = 0 := by rw [← HMN.out]; unfold manyF; rw [hk0]; rfl
        have hnamed : namedB x.f0 = false := by unfold namedB; rw [hk0]; rfl
        have hf20 : (x.f0 == 20) = false := by rw [hk0]; rfl
        have hf3 : (x.f0 == 3) = false := by rw [hk0]; rfl
        have hf19 : (x.f0 == 19) = false := by rw [hk0]; rfl
        have hf1 : (x.f0 == 1) = false := by rw [hk0]; rfl
        have hgt : (x.f0 > 2) = False := eq_false (by omega)
        have hgt2 : (2 < x.f0) = False := hgt
        have HONE' := Aside0.mk (HON1.out.trans (by rw [hmany, hnamed, hf20, if_neg (of_eq_false hgt), hf1]))
        subst hmany
        clear hk0 hnamed HMN HON1
        by_cases hzf1 : x.f1 = 0
        case neg =>
          have HT := Aside0.mk (show tooB x (0) = true by unfold tooB; simp [hzf1])
          have hzf1b : (x.f1 == 0) = false := beq_false_of_ne hzf1
          have hzf1c : (x.f1 != 0) = true := bne_iff_ne.2 hzf1
          go_wp2
          go_ret
          exact ⟨by rw [HONE'.out, if_pos HT.out]; rfl, HBr.out⟩
        case pos =>
         have hzf1b : (x.f1 == 0) = true := beq_iff_eq.2 hzf1
         have hzf1c : (x.f1 != 0) = false := by rw [bne, hzf1b]; rfl
         by_cases hzf2 : x.f2 = 0
         case neg =>
           have HT := Aside0.mk (show tooB x (0) = true by unfold tooB; simp [hzf1, hzf2])
           have hzf2b : (x.f2 == 0) = false := beq_false_of_ne hzf2
           have hzf2c : (x.f2 != 0) = true := bne_iff_ne.2 hzf2
           go_wp2
           go_ret
           exact ⟨by rw [HONE'.out, if_pos HT.out]; rfl, HBr.out⟩
         case pos =>
          have hzf2b : (x.f2 == 0) = true := beq_iff_eq.2 hzf2
          have hzf2c : (x.f2 != 0) = false := by rw [bne, hzf2b]; rfl
          by_cases hzf3 : x.f3 = 0
          case neg =>
            have HT := Aside0.mk (show tooB x (0) = true by unfold tooB; simp [hzf1, hzf2, hzf3])
            have hzf3b : (x.f3 == 0) = false := beq_false_of_ne hzf3
            have hzf3c : (x.f3 != 0) = true := bne_iff_ne.2 hzf3
            go_wp2
            go_ret
            exact ⟨by rw [HONE'.out, if_pos HT.out]; rfl, HBr.out⟩
          case pos =>
           have hzf3b : (x.f3 == 0) = true := beq_iff_eq.2 hzf3
           have hzf3c : (x.f3 != 0) = false := by rw [bne, hzf3b]; rfl
           by_cases hl7 : 0 < x.f7.length
           case pos =>
             have HT := Aside0.mk (show tooB x (0) = true by unfold tooB; simp [hl7])
             have hl7b : ((0 : Int) < (x.f7.length : Int)) = True := eq_true (by omega)
             have hl7c : decide ((0 : Int) < (x.f7.length : Int)) = true := decide_eq_true (by omega)
             go_wp2
             go_ret
             exact ⟨by rw [HONE'.out, if_pos HT.out]; rfl, HBr.out⟩
           case neg =>
            have hl7b : ((0 : Int) < (x.f7.length : Int)) = False := eq_false (by omega)
            have hl7c : decide ((0 : Int) < (x.f7.length : Int)) = false := decide_eq_false (by omega)
            have HT := Aside0.mk (show tooB x (0) = false by unfold tooB; simp [hzf1, hzf2, hzf3, hl7])
            have HN := Aside0.mk (HONE'.out.trans (if_neg (by rw [HT.out]; decide)))
            by_cases hn4 : x.f4.toList = []
            case pos =>
             have hn4e : x.f4.toList.isEmpty = true := by rw [hn4]; rfl
             by_cases hn5 : x.f5.toList = []
             case pos =>
              have hn5e : x.f5.toList.isEmpty = true := by rw [hn5]; rfl
              go_wp2
              all_goals go_ret
              all_goals refine ⟨?_, HBr.out⟩
              all_goals rw [HN.out]
              all_goals first | (simp [*]; done) | (simp [*]; omega)
             case neg =>
              have hn5e : x.f5.toList.isEmpty = false := by cases h : x.f5.toList with | nil => exact absurd h hn5 | cons _ _ => rfl
              go_wp2
              all_goals go_ret
              all_goals refine ⟨?_, HBr.out⟩
              all_goals rw [HN.out]
              all_goals first | (simp [*]; done) | (simp [*]; omega)
            case neg =>
             have hn4e : x.f4.toList.isEmpty = false := by cases h : x.f4.toList with | nil => exact absurd h hn4 | cons _ _ => rfl
             by_cases hn5 : x.f5.toList = []
             case pos =>
              have hn5e : x.f5.toList.isEmpty = true := by rw [hn5]; rfl
              go_wp2
              all_goals go_ret
              all_goals refine ⟨?_, HBr.out⟩
              all_goals rw [HN.out]
              all_goals first | (simp [*]; done) | (simp [*]; omega)
             case neg =>
              have hn5e : x.f5.toList.isEmpty = false := by cases h : x.f5.toList with | nil => exact absurd h hn5 | cons _ _ => rfl
              go_wp2
              all_goals go_ret
              all_goals refine ⟨?_, HBr.out⟩
              all_goals rw [HN.out]
              all_goals first | (simp [*]; done) | (simp [*]; omega)
       case neg =>
        have HNk2 := Aside0.mk hk0
        have HR0 := Aside0.mk (And.intro HR0.out hk0)
        clear hk0
        by_cases hk0 : x.f0 = 3
        case pos =>
         have hmany : n = 0 := by rw [← HMN.out]; unfold manyF; rw [hk0]; rfl
         have hnamed : namedB x.f0 = true := by unfold namedB; rw [hk0]; rfl
         have hf20 : (x.f0 == 20) = false := by rw [hk0]; rfl
         have hf3 : (x.f0 == 3) = true := by rw [hk0]; rfl
         have hf19 : (x.f0 == 19) = false := by rw [hk0]; rfl
         have hf1 : (x.f0 == 1) = false := by rw [hk0]; rfl
         have hgt : (x.f0 > 2) = True := eq_true (by omega)
         have hgt2 : (2 < x.f0) = True := hgt
         have HONE' := Aside0.mk (HON1.out.trans (by rw [hmany, hnamed, hf20, if_pos (of_eq_true hgt)]))
         subst hmany
         clear hk0 hnamed HMN HON1
         by_cases hzf1 : x.f1 = 0
         case neg =>
           have HT := Aside0.mk (show tooB x (0) = true by unfold tooB; simp [hzf1])
           have hzf1b : (x.f1 == 0) = false := beq_false_of_ne hzf1
           have hzf1c : (x.f1 != 0) = true := bne_iff_ne.2 hzf1
           go_wp2
           go_ret
           exact ⟨by rw [HONE'.out, if_pos HT.out]; rfl, HBr.out⟩
         case pos =>
          have hzf1b : (x.f1 == 0) = true := beq_iff_eq.2 hzf1
          have hzf1c : (x.f1 != 0) = false := by rw [bne, hzf1b]; rfl
          by_cases hzf2 : x.f2 = 0
          case neg =>
            have HT := Aside0.mk (show tooB x (0) = true by unfold tooB; simp [hzf1, hzf2])
            have hzf2b : (x.f2 == 0) = false := beq_false_of_ne hzf2
            have hzf2c : (x.f2 != 0) = true := bne_iff_ne.2 hzf2
            go_wp2
            go_ret
            exact ⟨by rw [HONE'.out, if_pos HT.out]; rfl, HBr.out⟩
          case pos =>
           have hzf2b : (x.f2 == 0) = true := beq_iff_eq.2 hzf2
           have hzf2c : (x.f2 != 0) = false := by rw [bne, hzf2b]; rfl
           by_cases hzf3 : x.f3 = 0
           case neg =>
             have HT := Aside0.mk (show tooB x (0) = true by unfold tooB; simp [hzf1, hzf2, hzf3])
             have hzf3b : (x.f3 == 0) = false := beq_false_of_ne hzf3
             have hzf3c : (x.f3 != 0) = true := bne_iff_ne.2 hzf3
             go_wp2
             go_ret
             exact ⟨by rw [HONE'.out, if_pos HT.out]; rfl, HBr.out⟩
           case pos =>
            have hzf3b : (x.f3 == 0) = true := beq_iff_eq.2 hzf3
            have hzf3c : (x.f3 != 0) = false := by rw [bne, hzf3b]; rfl
            by_cases hl7 : 0 < x.f7.length
            case pos =>
              have HT := Aside0.mk (show tooB x (0) = true by unfold tooB; simp [hl7])
              have hl7b : ((0 : Int) < (x.f7.length : Int)) = True := eq_true (by omega)
              have hl7c : decide ((0 : Int) < (x.f7.length : Int)) = true := decide_eq_true (by omega)
              go_wp2
              go_ret
              exact ⟨by rw [HONE'.out, if_pos HT.out]; rfl, HBr.out⟩
            case neg =>
             have hl7b : ((0 : Int) < (x.f7.length : Int)) = False := eq_false (by omega)
             have hl7c : decide ((0 : Int) < (x.f7.length : Int)) = false := decide_eq_false (by omega)
             have HT := Aside0.mk (show tooB x (0) = false by unfold tooB; simp [hzf1, hzf2, hzf3, hl7])
             have HN := Aside0.mk (HONE'.out.trans (if_neg (by rw [HT.out]; decide)))
             by_cases hn4 : x.f4.toList = []
             case pos =>
              have hn4e : x.f4.toList.isEmpty = true := by rw [hn4]; rfl
              by_cases hn5 : x.f5.toList = []
              case pos =>
               have hn5e : x.f5.toList.isEmpty = true := by rw [hn5]; rfl
               go_wp2
               all_goals go_ret
               all_goals refine ⟨?_, HBr.out⟩
               all_goals rw [HN.out]
               all_goals first | (simp [*]; done) | (simp [*]; omega)
              case neg =>
               have hn5e : x.f5.toList.isEmpty = false := by cases h : x.f5.toList with | nil => exact absurd h hn5 | cons _ _ => rfl
               go_wp2
               all_goals go_ret
               all_goals refine ⟨?_, HBr.out⟩
               all_goals rw [HN.out]
               all_goals first | (simp [*]; done) | (simp [*]; omega)
             case neg =>
              have hn4e : x.f4.toList.isEmpty = false := by cases h : x.f4.toList with | nil => exact absurd h hn4 | cons _ _ => rfl
              by_cases hn5 : x.f5.toList = []
              case pos =>
               have hn5e : x.f5.toList.isEmpty = true := by rw [hn5]; rfl
               go_wp2
               all_goals go_ret
               all_goals refine ⟨?_, HBr.out⟩
               all_goals rw [HN.out]
               all_goals first | (simp [*]; done) | (simp [*]; omega)
              case neg =>
               have hn5e : x.f5.toList.isEmpty = false := by cases h : x.f5.toList with | nil => exact absurd h hn5 | cons _ _ => rfl
               go_wp2
               all_goals go_ret
               all_goals refine ⟨?_, HBr.out⟩
               all_goals rw [HN.out]
               all_goals first | (simp [*]; done) | (simp [*]; omega)
        case neg =>
         have HNk3 := Aside0.mk hk0
         have HR0 := Aside0.mk (And.intro HR0.out hk0)
         clear hk0
         by_cases hk0 : x.f0 = 20
         case pos =>
          have hmany : n = 0 := by rw [← HMN.out]; unfold manyF; rw [hk0]; rfl
          have hnamed : namedB x.f0 = true := by unfold namedB; rw [hk0]; rfl
          have hf20 : (x.f0 == 20) = true := by rw [hk0]; rfl
          have hf3 : (x.f0 == 3) = false := by rw [hk0]; rfl
          have hf19 : (x.f0 == 19) = false := by rw [hk0]; rfl
          have hf1 : (x.f0 == 1) = false := by rw [hk0]; rfl
          have hgt : (x.f0 > 2) = True := eq_true (by omega)
          have hgt2 : (2 < x.f0) = True := hgt
          have HONE' := Aside0.mk (HON1.out.trans (by rw [hmany, hnamed, hf20, if_pos (of_eq_true hgt)]))
          subst hmany
          clear hk0 hnamed HMN HON1
          by_cases hzf1 : x.f1 = 0
          case neg =>
            have HT := Aside0.mk (show tooB x (0) = true by unfold tooB; simp [hzf1])
            have hzf1b : (x.f1 == 0) = false := beq_false_of_ne hzf1
            have hzf1c : (x.f1 != 0) = true := bne_iff_ne.2 hzf1
            go_wp2
            go_ret
            exact ⟨by rw [HONE'.out, if_pos HT.out]; rfl, HBr.out⟩
          case pos =>
           have hzf1b : (x.f1 == 0) = true := beq_iff_eq.2 hzf1
           have hzf1c : (x.f1 != 0) = false := by rw [bne, hzf1b]; rfl
           by_cases hzf2 : x.f2 = 0
           case neg =>
             have HT := Aside0.mk (show tooB x (0) = true by unfold tooB; simp [hzf1, hzf2])
             have hzf2b : (x.f2 == 0) = false := beq_false_of_ne hzf2
             have hzf2c : (x.f2 != 0) = true := bne_iff_ne.2 hzf2
             go_wp2
             go_ret
             exact ⟨by rw [HONE'.out, if_pos HT.out]; rfl, HBr.out⟩
           case pos =>
            have hzf2b : (x.f2 == 0) = true := beq_iff_eq.2 hzf2
            have hzf2c : (x.f2 != 0) = false := by rw [bne, hzf2b]; rfl
            by_cases hzf3 : x.f3 = 0
            case neg =>
              have HT := Aside0.mk (show tooB x (0) = true by unfold tooB; simp [hzf1, hzf2, hzf3])
              have hzf3b : (x.f3 == 0) = false := beq_false_of_ne hzf3
              have hzf3c : (x.f3 != 0) = true := bne_iff_ne.2 hzf3
              go_wp2
              go_ret
              exact ⟨by rw [HONE'.out, if_pos HT.out]; rfl, HBr.out⟩
            case pos =>
             have hzf3b : (x.f3 == 0) = true := beq_iff_eq.2 hzf3
             have hzf3c : (x.f3 != 0) = false := by rw [bne, hzf3b]; rfl
             by_cases hl7 : 0 < x.f7.length
             case pos =>
               have HT := Aside0.mk (show tooB x (0) = true by unfold tooB; simp [hl7])
               have hl7b : ((0 : Int) < (x.f7.length : Int)) = True := eq_true (by omega)
               have hl7c : decide ((0 : Int) < (x.f7.length : Int)) = true := decide_eq_true (by omega)
               go_wp2
               go_ret
               exact ⟨by rw [HONE'.out, if_pos HT.out]; rfl, HBr.out⟩
             case neg =>
              have hl7b : ((0 : Int) < (x.f7.length : Int)) = False := eq_false (by omega)
              have hl7c : decide ((0 : Int) < (x.f7.length : Int)) = false := decide_eq_false (by omega)
              have HT := Aside0.mk (show tooB x (0) = false by unfold tooB; simp [hzf1, hzf2, hzf3, hl7])
              have HN := Aside0.mk (HONE'.out.trans (if_neg (by rw [HT.out]; decide)))
              by_cases hn4 : x.f4.toList = []
              case pos =>
               have hn4e : x.f4.toList.isEmpty = true := by rw [hn4]; rfl
               by_cases hn5 : x.f5.toList = []
               case pos =>
                have hn5e : x.f5.toList.isEmpty = true := by rw [hn5]; rfl
                go_wp2
                all_goals go_ret
                all_goals refine ⟨?_, HBr.out⟩
                all_goals rw [HN.out]
                all_goals first | (simp [*]; done) | (simp [*]; omega)
               case neg =>
                have hn5e : x.f5.toList.isEmpty = false := by cases h : x.f5.toList with | nil => exact absurd h hn5 | cons _ _ => rfl
                go_wp2
                all_goals go_ret
                all_goals refine ⟨?_, HBr.out⟩
                all_goals rw [HN.out]
                all_goals first | (simp [*]; done) | (simp [*]; omega)
              case neg =>
               have hn4e : x.f4.toList.isEmpty = false := by cases h : x.f4.toList with | nil => exact absurd h hn4 | cons _ _ => rfl
               by_cases hn5 : x.f5.toList = []
               case pos =>
                have hn5e : x.f5.toList.isEmpty = true := by rw [hn5]; rfl
                go_wp2
                all_goals go_ret
                all_goals refine ⟨?_, HBr.out⟩
                all_goals rw [HN.out]
                all_goals first | (simp [*]; done) | (simp [*]; omega)
               case neg =>
                have hn5e : x.f5.toList.isEmpty = false := by cases h : x.f5.toList with | nil => exact absurd h hn5 | cons _ _ => rfl
                go_wp2
                all_goals go_ret
                all_goals refine ⟨?_, HBr.out⟩
                all_goals rw [HN.out]
                all_goals first | (simp [*]; done) | (simp [*]; omega)
         case neg =>
          have HNk20 := Aside0.mk hk0
          have HR0 := Aside0.mk (And.intro HR0.out hk0)
          clear hk0
          by_cases hk0 : (x.f0 = 4 ∨ x.f0 = 5 ∨ x.f0 = 16 ∨ x.f0 = 21)
          case pos =>
           have hmany : n = 1 := by rw [← HMN.out]; unfold manyF; rw [if_pos hk0]
           have hnamed : namedB x.f0 = false := by unfold namedB; rw [beq_false_of_ne (show x.f0 ≠ 3 by omega), beq_false_of_ne (show x.f0 ≠ 19 by omega), beq_false_of_ne (show x.f0 ≠ 20 by omega)]; rfl
           have hf20 : (x.f0 == 20) = false := by exact beq_false_of_ne (by omega)
           have hf3 : (x.f0 == 3) = false := by exact beq_false_of_ne (by omega)
           have hf19 : (x.f0 == 19) = false := by exact beq_false_of_ne (by omega)
           have hf1 : (x.f0 == 1) = false := by exact beq_false_of_ne (by omega)
           have hgt : (x.f0 > 2) = True := eq_true (by omega)
           have hgt2 : (2 < x.f0) = True := hgt
           have HONE' := Aside0.mk (HON1.out.trans (by rw [hmany, hnamed, hf20, if_pos (of_eq_true hgt)]))
           subst hmany
           clear hk0 hnamed HMN HON1
           by_cases hzf2 : x.f2 = 0
           case neg =>
             have HT := Aside0.mk (show tooB x (1) = true by unfold tooB; simp [hzf2])
             have hzf2b : (x.f2 == 0) = false := beq_false_of_ne hzf2
             have hzf2c : (x.f2 != 0) = true := bne_iff_ne.2 hzf2
             go_wp2
             go_ret
             exact ⟨by rw [HONE'.out, if_pos HT.out]; rfl, HBr.out⟩
           case pos =>
            have hzf2b : (x.f2 == 0) = true := beq_iff_eq.2 hzf2
            have hzf2c : (x.f2 != 0) = false := by rw [bne, hzf2b]; rfl
            by_cases hzf3 : x.f3 = 0
            case neg =>
              have HT := Aside0.mk (show tooB x (1) = true by unfold tooB; simp [hzf2, hzf3])
              have hzf3b : (x.f3 == 0) = false := beq_false_of_ne hzf3
              have hzf3c : (x.f3 != 0) = true := bne_iff_ne.2 hzf3
              go_wp2
              go_ret
              exact ⟨by rw [HONE'.out, if_pos HT.out]; rfl, HBr.out⟩
            case pos =>
             have hzf3b : (x.f3 == 0) = true := beq_iff_eq.2 hzf3
             have hzf3c : (x.f3 != 0) = false := by rw [bne, hzf3b]; rfl
             by_cases hl7 : 0 < x.f7.length
             case pos =>
               have HT := Aside0.mk (show tooB x (1) = true by unfold tooB; simp [hl7])
               have hl7b : ((0 : Int) < (x.f7.length : Int)) = True := eq_true (by omega)
               have hl7c : decide ((0 : Int) < (x.f7.length : Int)) = true := decide_eq_true (by omega)
               go_wp2
               go_ret
               exact ⟨by rw [HONE'.out, if_pos HT.out]; rfl, HBr.out⟩
             case neg =>
              have hl7b : ((0 : Int) < (x.f7.length : Int)) = False := eq_false (by omega)
              have hl7c : decide ((0 : Int) < (x.f7.length : Int)) = false := decide_eq_false (by omega)
              have HT := Aside0.mk (show tooB x (1) = false by unfold tooB; simp [hzf2, hzf3, hl7])
              have HN := Aside0.mk (HONE'.out.trans (if_neg (by rw [HT.out]; decide)))
              by_cases hn4 : x.f4.toList = []
              case pos =>
               have hn4e : x.f4.toList.isEmpty = true := by rw [hn4]; rfl
               by_cases hn5 : x.f5.toList = []
               case pos =>
                have hn5e : x.f5.toList.isEmpty = true := by rw [hn5]; rfl
                go_wp2
                all_goals go_ret
                all_goals refine ⟨?_, HBr.out⟩
                all_goals rw [HN.out]
                all_goals first | (simp [*]; done) | (simp [*]; omega)
               case neg =>
                have hn5e : x.f5.toList.isEmpty = false := by cases h : x.f5.toList with | nil => exact absurd h hn5 | cons _ _ => rfl
                go_wp2
                all_goals go_ret
                all_goals refine ⟨?_, HBr.out⟩
                all_goals rw [HN.out]
                all_goals first | (simp [*]; done) | (simp [*]; omega)
              case neg =>
               have hn4e : x.f4.toList.isEmpty = false := by cases h : x.f4.toList with | nil => exact absurd h hn4 | cons _ _ => rfl
               by_cases hn5 : x.f5.toList = []
               case pos =>
                have hn5e : x.f5.toList.isEmpty = true := by rw [hn5]; rfl
                go_wp2
                all_goals go_ret
                all_goals refine ⟨?_, HBr.out⟩
                all_goals rw [HN.out]
                all_goals first | (simp [*]; done) | (simp [*]; omega)
               case neg =>
                have hn5e : x.f5.toList.isEmpty = false := by cases h : x.f5.toList with | nil => exact absurd h hn5 | cons _ _ => rfl
                go_wp2
                all_goals go_ret
                all_goals refine ⟨?_, HBr.out⟩
                all_goals rw [HN.out]
                all_goals first | (simp [*]; done) | (simp [*]; omega)
          case neg =>
           have HNku := Aside0.mk hk0
           have HR0 := Aside0.mk (And.intro HR0.out hk0)
           clear hk0
           by_cases hk0 : x.f0 = 15
           case pos =>
            have hmany : n = 3 := by rw [← HMN.out]; unfold manyF; rw [hk0]; rfl
            have hnamed : namedB x.f0 = false := by unfold namedB; rw [hk0]; rfl
            have hf20 : (x.f0 == 20) = false := by rw [hk0]; rfl
            have hf3 : (x.f0 == 3) = false := by rw [hk0]; rfl
            have hf19 : (x.f0 == 19) = false := by rw [hk0]; rfl
            have hf1 : (x.f0 == 1) = false := by rw [hk0]; rfl
            have hgt : (x.f0 > 2) = True := eq_true (by omega)
            have hgt2 : (2 < x.f0) = True := hgt
            have HONE' := Aside0.mk (HON1.out.trans (by rw [hmany, hnamed, hf20, if_pos (of_eq_true hgt)]))
            subst hmany
            clear hk0 hnamed HMN HON1
            by_cases hl7 : 0 < x.f7.length
            case pos =>
              have HT := Aside0.mk (show tooB x (3) = true by unfold tooB; simp [hl7])
              have hl7b : ((0 : Int) < (x.f7.length : Int)) = True := eq_true (by omega)
              have hl7c : decide ((0 : Int) < (x.f7.length : Int)) = true := decide_eq_true (by omega)
              go_wp2
              go_ret
              exact ⟨by rw [HONE'.out, if_pos HT.out]; rfl, HBr.out⟩
            case neg =>
             have hl7b : ((0 : Int) < (x.f7.length : Int)) = False := eq_false (by omega)
             have hl7c : decide ((0 : Int) < (x.f7.length : Int)) = false := decide_eq_false (by omega)
             have HT := Aside0.mk (show tooB x (3) = false by unfold tooB; simp [hl7])
             have HN := Aside0.mk (HONE'.out.trans (if_neg (by rw [HT.out]; decide)))
             by_cases hn4 : x.f4.toList = []
             case pos =>
              have hn4e : x.f4.toList.isEmpty = true := by rw [hn4]; rfl
              by_cases hn5 : x.f5.toList = []
              case pos =>
               have hn5e : x.f5.toList.isEmpty = true := by rw [hn5]; rfl
               go_wp2
               all_goals go_ret
               all_goals refine ⟨?_, HBr.out⟩
               all_goals rw [HN.out]
               all_goals first | (simp [*]; done) | (simp [*]; omega)
              case neg =>
               have hn5e : x.f5.toList.isEmpty = false := by cases h : x.f5.toList with | nil => exact absurd h hn5 | cons _ _ => rfl
               go_wp2
               all_goals go_ret
               all_goals refine ⟨?_, HBr.out⟩
               all_goals rw [HN.out]
               all_goals first | (simp [*]; done) | (simp [*]; omega)
             case neg =>
              have hn4e : x.f4.toList.isEmpty = false := by cases h : x.f4.toList with | nil => exact absurd h hn4 | cons _ _ => rfl
              by_cases hn5 : x.f5.toList = []
              case pos =>
               have hn5e : x.f5.toList.isEmpty = true := by rw [hn5]; rfl
               go_wp2
               all_goals go_ret
               all_goals refine ⟨?_, HBr.out⟩
               all_goals rw [HN.out]
               all_goals first | (simp [*]; done) | (simp [*]; omega)
              case neg =>
               have hn5e : x.f5.toList.isEmpty = false := by cases h : x.f5.toList with | nil => exact absurd h hn5 | cons _ _ => rfl
               go_wp2
               all_goals go_ret
               all_goals refine ⟨?_, HBr.out⟩
               all_goals rw [HN.out]
               all_goals first | (simp [*]; done) | (simp [*]; omega)
           case neg =>
            have HNkt := Aside0.mk hk0
            have HR0 := Aside0.mk (And.intro HR0.out hk0)
            clear hk0
            by_cases hk0 : x.f0 = 19
            case pos =>
             have hmany : n = (-1) := by rw [← HMN.out]; unfold manyF; rw [hk0]; rfl
             have hnamed : namedB x.f0 = true := by unfold namedB; rw [hk0]; rfl
             have hf20 : (x.f0 == 20) = false := by rw [hk0]; rfl
             have hf3 : (x.f0 == 3) = false := by rw [hk0]; rfl
             have hf19 : (x.f0 == 19) = true := by rw [hk0]; rfl
             have hf1 : (x.f0 == 1) = false := by rw [hk0]; rfl
             have hgt : (x.f0 > 2) = True := eq_true (by omega)
             have hgt2 : (2 < x.f0) = True := hgt
             have HONE' := Aside0.mk (HON1.out.trans (by rw [hmany, hnamed, hf20, if_pos (of_eq_true hgt)]))
             subst hmany
             clear hk0 hnamed HMN HON1
             by_cases hzf1 : x.f1 = 0
             case neg =>
               have HT := Aside0.mk (show tooB x (-1) = true by unfold tooB; simp [hzf1])
               have hzf1b : (x.f1 == 0) = false := beq_false_of_ne hzf1
               have hzf1c : (x.f1 != 0) = true := bne_iff_ne.2 hzf1
               go_wp2
               go_ret
               exact ⟨by rw [HONE'.out, if_pos HT.out]; rfl, HBr.out⟩
             case pos =>
              have hzf1b : (x.f1 == 0) = true := beq_iff_eq.2 hzf1
              have hzf1c : (x.f1 != 0) = false := by rw [bne, hzf1b]; rfl
              by_cases hzf2 : x.f2 = 0
              case neg =>
                have HT := Aside0.mk (show tooB x (-1) = true by unfold tooB; simp [hzf1, hzf2])
                have hzf2b : (x.f2 == 0) = false := beq_false_of_ne hzf2
                have hzf2c : (x.f2 != 0) = true := bne_iff_ne.2 hzf2
                go_wp2
                go_ret
                exact ⟨by rw [HONE'.out, if_pos HT.out]; rfl, HBr.out⟩
              case pos =>
               have hzf2b : (x.f2 == 0) = true := beq_iff_eq.2 hzf2
               have hzf2c : (x.f2 != 0) = false := by rw [bne, hzf2b]; rfl
               by_cases hzf3 : x.f3 = 0
               case neg =>
                 have HT := Aside0.mk (show tooB x (-1) = true by unfold tooB; simp [hzf1, hzf2, hzf3])
                 have hzf3b : (x.f3 == 0) = false := beq_false_of_ne hzf3
                 have hzf3c : (x.f3 != 0) = true := bne_iff_ne.2 hzf3
                 go_wp2
                 go_ret
                 exact ⟨by rw [HONE'.out, if_pos HT.out]; rfl, HBr.out⟩
               case pos =>
                have hzf3b : (x.f3 == 0) = true := beq_iff_eq.2 hzf3
                have hzf3c : (x.f3 != 0) = false := by rw [bne, hzf3b]; rfl
                have HT := Aside0.mk (show tooB x (-1) = false by unfold tooB; simp [hzf1, hzf2, hzf3])
                have HN := Aside0.mk (HONE'.out.trans (if_neg (by rw [HT.out]; decide)))
                by_cases hn4 : x.f4.toList = []
                case pos =>
                 have hn4e : x.f4.toList.isEmpty = true := by rw [hn4]; rfl
                 by_cases hn5 : x.f5.toList = []
                 case pos =>
                  have hn5e : x.f5.toList.isEmpty = true := by rw [hn5]; rfl
                  go_wp2
                  all_goals go_ret
                  all_goals refine ⟨?_, HBr.out⟩
                  all_goals rw [HN.out]
                  all_goals first | (simp [*]; done) | (simp [*]; omega)
                 case neg =>
                  have hn5e : x.f5.toList.isEmpty = false := by cases h : x.f5.toList with | nil => exact absurd h hn5 | cons _ _ => rfl
                  go_wp2
                  all_goals go_ret
                  all_goals refine ⟨?_, HBr.out⟩
                  all_goals rw [HN.out]
                  all_goals first | (simp [*]; done) | (simp [*]; omega)
                case neg =>
                 have hn4e : x.f4.toList.isEmpty = false := by cases h : x.f4.toList with | nil => exact absurd h hn4 | cons _ _ => rfl
                 by_cases hn5 : x.f5.toList = []
                 case pos =>
                  have hn5e : x.f5.toList.isEmpty = true := by rw [hn5]; rfl
                  go_wp2
                  all_goals go_ret
                  all_goals refine ⟨?_, HBr.out⟩
                  all_goals rw [HN.out]
                  all_goals first | (simp [*]; done) | (simp [*]; omega)
                 case neg =>
                  have hn5e : x.f5.toList.isEmpty = false := by cases h : x.f5.toList with | nil => exact absurd h hn5 | cons _ _ => rfl
                  go_wp2
                  all_goals go_ret
                  all_goals refine ⟨?_, HBr.out⟩
                  all_goals rw [HN.out]
                  all_goals first | (simp [*]; done) | (simp [*]; omega)
            case neg =>
             have HNkc := Aside0.mk hk0
             have HR0 := Aside0.mk (And.intro HR0.out hk0)
             clear hk0
             have hk0 : ((6 ≤ x.f0 ∧ x.f0 ≤ 14) ∨ x.f0 = 17 ∨ x.f0 = 18) := by have := HR0.out; omega
             have hmany : n = 2 := by rw [← HMN.out]; unfold manyF; rw [if_neg (by omega), if_pos hk0]
             have hnamed : namedB x.f0 = false := by unfold namedB; rw [beq_false_of_ne (show x.f0 ≠ 3 by omega), beq_false_of_ne (show x.f0 ≠ 19 by omega), beq_false_of_ne (show x.f0 ≠ 20 by omega)]; rfl
             have hf20 : (x.f0 == 20) = false := by exact beq_false_of_ne (by omega)
             have hf3 : (x.f0 == 3) = false := by exact beq_false_of_ne (by omega)
             have hf19 : (x.f0 == 19) = false := by exact beq_false_of_ne (by omega)
             have hf1 : (x.f0 == 1) = false := by exact beq_false_of_ne (by omega)
             have hgt : (x.f0 > 2) = True := eq_true (by omega)
             have hgt2 : (2 < x.f0) = True := hgt
             have HONE' := Aside0.mk (HON1.out.trans (by rw [hmany, hnamed, hf20, if_pos (of_eq_true hgt)]))
             subst hmany
             clear hk0 hnamed HMN HON1
             by_cases hzf3 : x.f3 = 0
             case neg =>
               have HT := Aside0.mk (show tooB x (2) = true by unfold tooB; simp [hzf3])
               have hzf3b : (x.f3 == 0) = false := beq_false_of_ne hzf3
               have hzf3c : (x.f3 != 0) = true := bne_iff_ne.2 hzf3
               go_wp2
               go_ret
               exact ⟨by rw [HONE'.out, if_pos HT.out]; rfl, HBr.out⟩
             case pos =>
              have hzf3b : (x.f3 == 0) = true := beq_iff_eq.2 hzf3
              have hzf3c : (x.f3 != 0) = false := by rw [bne, hzf3b]; rfl
              by_cases hl7 : 0 < x.f7.length
              case pos =>
                have HT := Aside0.mk (show tooB x (2) = true by unfold tooB; simp [hl7])
                have hl7b : ((0 : Int) < (x.f7.length : Int)) = True := eq_true (by omega)
                have hl7c : decide ((0 : Int) < (x.f7.length : Int)) = true := decide_eq_true (by omega)
                go_wp2
                go_ret
                exact ⟨by rw [HONE'.out, if_pos HT.out]; rfl, HBr.out⟩
              case neg =>
               have hl7b : ((0 : Int) < (x.f7.length : Int)) = False := eq_false (by omega)
               have hl7c : decide ((0 : Int) < (x.f7.length : Int)) = false := decide_eq_false (by omega)
               have HT := Aside0.mk (show tooB x (2) = false by unfold tooB; simp [hzf3, hl7])
               have HN := Aside0.mk (HONE'.out.trans (if_neg (by rw [HT.out]; decide)))
               by_cases hn4 : x.f4.toList = []
               case pos =>
                have hn4e : x.f4.toList.isEmpty = true := by rw [hn4]; rfl
                by_cases hn5 : x.f5.toList = []
                case pos =>
                 have hn5e : x.f5.toList.isEmpty = true := by rw [hn5]; rfl
                 go_wp2
                 all_goals go_ret
                 all_goals refine ⟨?_, HBr.out⟩
                 all_goals rw [HN.out]
                 all_goals first | (simp [*]; done) | (simp [*]; omega)
                case neg =>
                 have hn5e : x.f5.toList.isEmpty = false := by cases h : x.f5.toList with | nil => exact absurd h hn5 | cons _ _ => rfl
                 go_wp2
                 all_goals go_ret
                 all_goals refine ⟨?_, HBr.out⟩
                 all_goals rw [HN.out]
                 all_goals first | (simp [*]; done) | (simp [*]; omega)
               case neg =>
                have hn4e : x.f4.toList.isEmpty = false := by cases h : x.f4.toList with | nil => exact absurd h hn4 | cons _ _ => rfl
                by_cases hn5 : x.f5.toList = []
                case pos =>
                 have hn5e : x.f5.toList.isEmpty = true := by rw [hn5]; rfl
                 go_wp2
                 all_goals go_ret
                 all_goals refine ⟨?_, HBr.out⟩
                 all_goals rw [HN.out]
                 all_goals first | (simp [*]; done) | (simp [*]; omega)
                case neg =>
                 have hn5e : x.f5.toList.isEmpty = false := by cases h : x.f5.toList with | nil => exact absurd h hn5 | cons _ _ => rfl
                 go_wp2
                 all_goals go_ret
                 all_goals refine ⟨?_, HBr.out⟩
                 all_goals rw [HN.out]
                 all_goals first | (simp [*]; done) | (simp [*]; omega)
set_option maxHeartbeats 4000000 in
set_option maxRecDepth 100000 in
theorem one_lo (x : S31) (A7 : Option Addr) (c7 : Nat) (at_ : Int) (w : World) (hr : Kd.C (Kd.int .i64) w A7 x.f7.length x.f7) (hc : x.f7.length ≤ c7) (hl : x.f7.length ≤ 1000000000000) (hk0 : x.f0 < 1) :
    Calls Try.prog 30 #[.agg #[.int .i64 x.f0, .int .i64 x.f1, .int .i64 x.f2, .int .i64 x.f3, .string x.f4, .string x.f5, .int .i64 x.f6, .slice A7 x.f7.length c7, .int .i64 x.f8], .int .i64 at_] w fun e w' => e = .returned (.bool (oneB x at_)) ∧ Below w.heap.size w w' := by
  have HONE := Aside0.mk (show oneB x at_ = false by unfold oneB; rw [if_pos (by omega)])
  have HC := Aside0.mk hr
  have HL := Aside0.mk hl
  have HCc := Aside0.mk hc
  have hb : Below w.heap.size w (w.alloc (Obj.cells #[.int .i64 x.f0, .int .i64 x.f1, .int .i64 x.f2, .int .i64 x.f3, .string x.f4, .string x.f5, .int .i64 x.f6, .slice A7 x.f7.length c7, .int .i64 x.f8] 31)) := (Below.refl _ _).alloc (Nat.le_refl _) _
  have hk : (w.alloc (Obj.cells #[.int .i64 x.f0, .int .i64 x.f1, .int .i64 x.f2, .int .i64 x.f3, .string x.f4, .string x.f5, .int .i64 x.f6, .slice A7 x.f7.length c7, .int .i64 x.f8] 31)).heap[w.heap.size]? = some (.cells #[.int .i64 x.f0, .int .i64 x.f1, .int .i64 x.f2, .int .i64 x.f3, .string x.f4, .string x.f5, .int .i64 x.f6, .slice A7 x.f7.length c7, .int .i64 x.f8] 31 (0, 0)) := blk_new w _
  clear hr hl hc
  replace hk0 : (x.f0 < 1) = True := eq_true hk0
  go_enter Try.func30, Try.ntmps30
  go_upto_region 1 with (fail)
  obtain ⟨W, hW⟩ : ∃ W, W = (w.alloc (Obj.cells #[.int .i64 x.f0, .int .i64 x.f1, .int .i64 x.f2, .int .i64 x.f3, .string x.f4, .string x.f5, .int .i64 x.f6, .slice A7 x.f7.length c7, .int .i64 x.f8] 31)) := ⟨_, rfl⟩
  rw [← hW] at hb hk ⊢
  clear hW
  have y0 : W.cell? ⟨w.heap.size, 0, none⟩ = some (.int .i64 x.f0) := (blk_cell hk 0).trans rfl
  have y1 : W.cell? ⟨w.heap.size, 1, none⟩ = some (.int .i64 x.f1) := (blk_cell hk 1).trans rfl
  have y2 : W.cell? ⟨w.heap.size, 2, none⟩ = some (.int .i64 x.f2) := (blk_cell hk 2).trans rfl
  have y3 : W.cell? ⟨w.heap.size, 3, none⟩ = some (.int .i64 x.f3) := (blk_cell hk 3).trans rfl
  have y4 : W.cell? ⟨w.heap.size, 4, none⟩ = some (.string x.f4) := (blk_cell hk 4).trans rfl
  have y5 : W.cell? ⟨w.heap.size, 5, none⟩ = some (.string x.f5) := (blk_cell hk 5).trans rfl
  have y6 : W.cell? ⟨w.heap.size, 6, none⟩ = some (.int .i64 x.f6) := (blk_cell hk 6).trans rfl
  have y7 : W.cell? ⟨w.heap.size, 7, none⟩ = some (.slice A7 x.f7.length c7) := (blk_cell hk 7).trans rfl
  have y8 : W.cell? ⟨w.heap.size, 8, none⟩ = some (.int .i64 x.f8) := (blk_cell hk 8).trans rfl
  have HB := Aside0.mk hb
  go_wp2
  go_ret
  exact ⟨by rw [HONE.out]; rfl, HB.out⟩
set_option maxHeartbeats 4000000 in
set_option maxRecDepth 100000 in
theorem one_hi (x : S31) (A7 : Option Addr) (c7 : Nat) (at_ : Int) (w : World) (hr : Kd.C (Kd.int .i64) w A7 x.f7.length x.f7) (hc : x.f7.length ≤ c7) (hl : x.f7.length ≤ 1000000000000) (hk0 : x.f0 > 21) :
    Calls Try.prog 30 #[.agg #[.int .i64 x.f0, .int .i64 x.f1, .int .i64 x.f2, .int .i64 x.f3, .string x.f4, .string x.f5, .int .i64 x.f6, .slice A7 x.f7.length c7, .int .i64 x.f8], .int .i64 at_] w fun e w' => e = .returned (.bool (oneB x at_)) ∧ Below w.heap.size w w' := by
  have HONE := Aside0.mk (show oneB x at_ = false by unfold oneB; rw [if_pos (by omega)])
  have HC := Aside0.mk hr
  have HL := Aside0.mk hl
  have HCc := Aside0.mk hc
  have hb : Below w.heap.size w (w.alloc (Obj.cells #[.int .i64 x.f0, .int .i64 x.f1, .int .i64 x.f2, .int .i64 x.f3, .string x.f4, .string x.f5, .int .i64 x.f6, .slice A7 x.f7.length c7, .int .i64 x.f8] 31)) := (Below.refl _ _).alloc (Nat.le_refl _) _
  have hk : (w.alloc (Obj.cells #[.int .i64 x.f0, .int .i64 x.f1, .int .i64 x.f2, .int .i64 x.f3, .string x.f4, .string x.f5, .int .i64 x.f6, .slice A7 x.f7.length c7, .int .i64 x.f8] 31)).heap[w.heap.size]? = some (.cells #[.int .i64 x.f0, .int .i64 x.f1, .int .i64 x.f2, .int .i64 x.f3, .string x.f4, .string x.f5, .int .i64 x.f6, .slice A7 x.f7.length c7, .int .i64 x.f8] 31 (0, 0)) := blk_new w _
  clear hr hl hc
  have hlo : (x.f0 < 1) = False := eq_false (by omega)
  replace hk0 : (21 < x.f0) = True := eq_true hk0
  go_enter Try.func30, Try.ntmps30
  go_upto_region 1 with (fail)
  obtain ⟨W, hW⟩ : ∃ W, W = (w.alloc (Obj.cells #[.int .i64 x.f0, .int .i64 x.f1, .int .i64 x.f2, .int .i64 x.f3, .string x.f4, .string x.f5, .int .i64 x.f6, .slice A7 x.f7.length c7, .int .i64 x.f8] 31)) := ⟨_, rfl⟩
  rw [← hW] at hb hk ⊢
  clear hW
  have y0 : W.cell? ⟨w.heap.size, 0, none⟩ = some (.int .i64 x.f0) := (blk_cell hk 0).trans rfl
  have y1 : W.cell? ⟨w.heap.size, 1, none⟩ = some (.int .i64 x.f1) := (blk_cell hk 1).trans rfl
  have y2 : W.cell? ⟨w.heap.size, 2, none⟩ = some (.int .i64 x.f2) := (blk_cell hk 2).trans rfl
  have y3 : W.cell? ⟨w.heap.size, 3, none⟩ = some (.int .i64 x.f3) := (blk_cell hk 3).trans rfl
  have y4 : W.cell? ⟨w.heap.size, 4, none⟩ = some (.string x.f4) := (blk_cell hk 4).trans rfl
  have y5 : W.cell? ⟨w.heap.size, 5, none⟩ = some (.string x.f5) := (blk_cell hk 5).trans rfl
  have y6 : W.cell? ⟨w.heap.size, 6, none⟩ = some (.int .i64 x.f6) := (blk_cell hk 6).trans rfl
  have y7 : W.cell? ⟨w.heap.size, 7, none⟩ = some (.slice A7 x.f7.length c7) := (blk_cell hk 7).trans rfl
  have y8 : W.cell? ⟨w.heap.size, 8, none⟩ = some (.int .i64 x.f8) := (blk_cell hk 8).trans rfl
  have HB := Aside0.mk hb
  go_wp2
  go_ret
  exact ⟨by rw [HONE.out]; rfl, HB.out⟩
theorem one_any (x : S31) (A7 : Option Addr) (c7 : Nat) (at_ : Int) (w : World) (hr : Kd.C (Kd.int .i64) w A7 x.f7.length x.f7) (hc : x.f7.length ≤ c7) (hl : x.f7.length ≤ 1000000000000) :
    Calls Try.prog 30 #[.agg #[.int .i64 x.f0, .int .i64 x.f1, .int .i64 x.f2, .int .i64 x.f3, .string x.f4, .string x.f5, .int .i64 x.f6, .slice A7 x.f7.length c7, .int .i64 x.f8], .int .i64 at_] w fun e w' => e = .returned (.bool (oneB x at_)) ∧ Below w.heap.size w w' := by
  by_cases hlo : x.f0 < 1
  · exact one_lo x A7 c7 at_ w hr hc hl hlo
  by_cases hhi : x.f0 > 21
  · exact one_hi x A7 c7 at_ w hr hc hl hhi
  · exact one_mid x A7 c7 at_ w hr hc hl hlo hhi
end Go.Proofs.Ytediidkiedifcaa.Q
