/- The Go function ast.may. -/
import Derived.Test.YtediidkiedifcaaAPure
import Derived.Test.YtediidkiedifcaaAInv
namespace Go.Proofs.Ytediidkiedifcaa.Q
set_option linter.unusedVariables false
set_option linter.unusedSimpArgs false
open Go.RowKit Go.Proofs.YtediidkiedifcaaW.PrintWords Go.Proofs.YtediidkiedifcaaW.PrintLast Go.Proofs.YtediidkiedifcaaW.PrintMore Go.Proofs.Ytediidkiedifcaa.Inv
def namedB (k : Int) : Bool := k == 3 || (k == 19 || k == 20)
def valuedB (k : Int) : Bool := k == 1 || k == 2
def wrongB (x : S31) (at_ : Int) : Bool := !(equalF x (bareF x (namedB x.f0) (x.f0 == 20) (valuedB x.f0))) || (partsF x).any (outB at_)
def bareB (x : S31) : Bool := (namedB x.f0 && x.f4.toList == []) || ((x.f0 == 20) && x.f5.toList == [])
def mayB (x : S31) (at_ : Int) : Bool :=
  if x.f0 < 1 ∨ x.f0 > 21 then false else if wrongB x at_ = true then false else if bareB x = true then false else decide (0 ≤ x.f6) && (x.f0 != 2 || decide (x.f6 ≤ 1))
theorem parts_le (x : S31) (h : x.f7.length ≤ 1000000000000) : (partsF x).length ≤ 4000000000000000000 := by
  by_cases h19 : x.f0 = 19
  · have : partsF x = x.f7 := by
      unfold partsF
      rw [if_neg (by omega), if_neg (by omega), if_neg (by omega), if_pos h19]
    rw [this]
    omega
  · have := parts_len x h19
    omega
def RM (x : S31) (at_ : Int) (n s v e : Bool) (AX FO PT : Value) (j : Nat) (u : Value) (W : World) : Prop :=
  match j with
  | 0 => u = AX
  | 1 => u = AX
  | 2 => u = .bool n
  | 3 => u = PT
  | 4 => u = .int .i64 x.f0
  | 5 => u = .bool s
  | 6 => u = .bool v
  | 7 => ∃ A c, u = .agg #[.int .i64 (bareF x n s v).f0, .int .i64 (bareF x n s v).f1, .int .i64 (bareF x n s v).f2, .int .i64 (bareF x n s v).f3, .string (bareF x n s v).f4, .string (bareF x n s v).f5, .int .i64 (bareF x n s v).f6, .slice A (bareF x n s v).f7.length c, .int .i64 (bareF x n s v).f8] ∧ (bareF x n s v).f7.length ≤ c ∧ Kd.C (Kd.int .i64) W A (bareF x n s v).f7.length (bareF x n s v).f7
  | 8 => u = .bool e
  | 9 => u = .bool (!e)
  | 10 => u = .bool (!e)
  | 11 => e = true → u = AX
  | 12 => e = true → ∃ A c, u = .slice A (partsF x).length c ∧ (partsF x).length ≤ c ∧ Kd.C (Kd.int .i64) W A (partsF x).length (partsF x)
  | 13 => e = true → u = FO
  | 14 => e = true → u = .bool ((partsF x).any (outB at_))
  | 15 => u = .bool (!e || (partsF x).any (outB at_))
  | 16 => u = .bool (!e || (partsF x).any (outB at_))
  | _ => True
theorem RM_keep {x : S31} {at_ : Int} {n s v e : Bool} {AX FO PT : Value} {j : Nat} {u : Value} {W W' : World} (h : RM x at_ n s v e AX FO PT j u W) (hb : Below W.heap.size W W') : RM x at_ n s v e AX FO PT j u W' := by
  unfold RM at h ⊢
  split at h
  · exact h
  · exact h
  · exact h
  · exact h
  · exact h
  · exact h
  · exact h
  · obtain ⟨A, c, e1, h1, hC⟩ := h
    exact ⟨A, c, e1, h1, Kd.C_below hC hb⟩
  · exact h
  · exact h
  · exact h
  · exact h
  · intro he
    obtain ⟨A, c, e1, h1, hC⟩ := h he
    exact ⟨A, c, e1, h1, Kd.C_below hC hb⟩
  · exact h
  · exact h
  · exact h
  · exact h
  · trivial
set_option maxHeartbeats 8000000 in
set_option maxRecDepth 100000 in
theorem may_any (x : S31) (A7 : Option Addr) (c7 : Nat) (at_ : Int) (w : World) (hr : Kd.C (Kd.int .i64) w A7 x.f7.length x.f7) (hc : x.f7.length ≤ c7) (hl : x.f7.length ≤ 1000000000000) :
    Calls Try.prog 26 #[.agg #[.int .i64 x.f0, .int .i64 x.f1, .int .i64 x.f2, .int .i64 x.f3, .string x.f4, .string x.f5, .int .i64 x.f6, .slice A7 x.f7.length c7, .int .i64 x.f8], .int .i64 at_] w fun e w' => e = .returned (.bool (mayB x at_)) ∧ Below w.heap.size w w' := by
  have hb : Below w.heap.size w ((w.alloc (Obj.cells #[.int .i64 x.f0, .int .i64 x.f1, .int .i64 x.f2, .int .i64 x.f3, .string x.f4, .string x.f5, .int .i64 x.f6, .slice A7 x.f7.length c7, .int .i64 x.f8] 31)).alloc (Obj.cells #[.int .i64 at_] 3)) := ((Below.refl _ _).alloc (Nat.le_refl _) _).alloc (by simp) _
  have hk : ((w.alloc (Obj.cells #[.int .i64 x.f0, .int .i64 x.f1, .int .i64 x.f2, .int .i64 x.f3, .string x.f4, .string x.f5, .int .i64 x.f6, .slice A7 x.f7.length c7, .int .i64 x.f8] 31)).alloc (Obj.cells #[.int .i64 at_] 3)).heap[w.heap.size]? = some (.cells #[.int .i64 x.f0, .int .i64 x.f1, .int .i64 x.f2, .int .i64 x.f3, .string x.f4, .string x.f5, .int .i64 x.f6, .slice A7 x.f7.length c7, .int .i64 x.f8] 31 (0, 0)) := blk_alloc (blk_new w _) _
  have hg : ((w.alloc (Obj.cells #[.int .i64 x.f0, .int .i64 x.f1, .int .i64 x.f2, .int .i64 x.f3, .string x.f4, .string x.f5, .int .i64 x.f6, .slice A7 x.f7.length c7, .int .i64 x.f8] 31)).alloc (Obj.cells #[.int .i64 at_] 3)).heap[w.heap.size + 1]? = some (.cells #[.int .i64 at_] 3 (0, 0)) := by
    have := blk_new (w.alloc (Obj.cells #[.int .i64 x.f0, .int .i64 x.f1, .int .i64 x.f2, .int .i64 x.f3, .string x.f4, .string x.f5, .int .i64 x.f6, .slice A7 x.f7.length c7, .int .i64 x.f8] 31)) (Obj.cells #[.int .i64 at_] 3)
    simpa using this
  have HC := Aside0.mk hc
  have HL := Aside0.mk hl
  have HR := Aside0.mk hr
  clear hr hc hl
  obtain ⟨M, hM⟩ : ∃ M, mayB x at_ = M := ⟨_, rfl⟩
  rw [hM]
  unfold mayB at hM
  by_cases hkind : x.f0 < 1 ∨ x.f0 > 21
  · rw [if_pos hkind] at hM
    subst hM
    have HKD := Aside0.mk hkind
    clear hkind
    go_enter Try.func26, Try.ntmps26
    go_upto_region 1 with (fail)
    obtain ⟨W, hW⟩ : ∃ W, W = ((w.alloc (Obj.cells #[.int .i64 x.f0, .int .i64 x.f1, .int .i64 x.f2, .int .i64 x.f3, .string x.f4, .string x.f5, .int .i64 x.f6, .slice A7 x.f7.length c7, .int .i64 x.f8] 31)).alloc (Obj.cells #[.int .i64 at_] 3)) := ⟨_, rfl⟩
    rw [← hW] at hb hk hg ⊢
    clear hW
    have y0 := (blk_cell hk 0).trans rfl
    have y1 := (blk_cell hk 1).trans rfl
    have y2 := (blk_cell hk 2).trans rfl
    have y3 := (blk_cell hk 3).trans rfl
    have y4 := (blk_cell hk 4).trans rfl
    have y5 := (blk_cell hk 5).trans rfl
    have y6 := (blk_cell hk 6).trans rfl
    have y7 := (blk_cell hk 7).trans rfl
    have y8 := (blk_cell hk 8).trans rfl
    have HB := Aside0.mk hb
    clear hb hk hg
    by_cases h1 : x.f0 < 1
    · have d1 : decide (x.f0 < 1) = true := decide_eq_true h1
      go_wp2
      go_ret
      exact ⟨rfl, HB.out⟩
    · have d1 : decide (x.f0 < 1) = false := decide_eq_false h1
      have d2 : decide (21 < x.f0) = true := decide_eq_true (by have := HKD.out; omega)
      clear h1
      go_wp2
      go_ret
      exact ⟨rfl, HB.out⟩
  · rw [if_neg hkind] at hM
    have HM := Aside0.mk hM
    have d1 : decide (x.f0 < 1) = false := decide_eq_false (by omega)
    have d2 : decide (21 < x.f0) = false := decide_eq_false (by omega)
    clear hkind hM
    go_enter Try.func26, Try.ntmps26
    go_upto_region 1 with (fail)
    obtain ⟨W, hW⟩ : ∃ W, W = ((w.alloc (Obj.cells #[.int .i64 x.f0, .int .i64 x.f1, .int .i64 x.f2, .int .i64 x.f3, .string x.f4, .string x.f5, .int .i64 x.f6, .slice A7 x.f7.length c7, .int .i64 x.f8] 31)).alloc (Obj.cells #[.int .i64 at_] 3)) := ⟨_, rfl⟩
    rw [← hW] at hb hk hg ⊢
    clear hW
    have y0 := (blk_cell hk 0).trans rfl
    have y1 := (blk_cell hk 1).trans rfl
    have y2 := (blk_cell hk 2).trans rfl
    have y3 := (blk_cell hk 3).trans rfl
    have y4 := (blk_cell hk 4).trans rfl
    have y5 := (blk_cell hk 5).trans rfl
    have y6 := (blk_cell hk 6).trans rfl
    have y7 := (blk_cell hk 7).trans rfl
    have y8 := (blk_cell hk 8).trans rfl
    have HB := Aside0.mk hb
    have HK := Aside0.mk hk
    have HG := Aside0.mk hg
    clear hb hk hg
    go_upto_region 3 with (fail)
    go_cut [5, 16, 17, 18, 19, 20, 21, 22, 23, 24, 25, 26, 27, 28] (fun v5 _ _ _ _ _ _ _ _ _ _ _ _ _ we => v5 = .bool (namedB x.f0) ∧ we = W)
    case first =>
      by_cases h3 : x.f0 = 3
      · have e3 : (x.f0 == 3) = true := beq_iff_eq.mpr h3
        have HX := Aside0.mk (show namedB x.f0 = true by unfold namedB; rw [e3]; rfl)
        clear h3
        go_wp2
        go_meet
        case rel => exact ⟨by rw [HX.out], rfl⟩
      · have e3 : (x.f0 == 3) = false := beq_false_of_ne h3
        by_cases h19 : x.f0 = 19
        · have e19 : (x.f0 == 19) = true := beq_iff_eq.mpr h19
          have HX := Aside0.mk (show namedB x.f0 = true by unfold namedB; rw [e3, e19]; rfl)
          clear h3 h19
          go_wp2
          go_meet
          case rel => exact ⟨by rw [HX.out], rfl⟩
        · have e19 : (x.f0 == 19) = false := beq_false_of_ne h19
          have HX := Aside0.mk (show namedB x.f0 = (x.f0 == 20) by unfold namedB; rw [e3, e19, Bool.false_or, Bool.false_or])
          clear h3 h19
          go_wp2
          go_meet
          case rel => exact ⟨by rw [HX.out], rfl⟩
    case rest =>
      obtain ⟨rfl, rfl⟩ := hcut
      go_upto_region 4 with (fail)
      go_cut [6, 29, 30, 31, 32, 33, 34, 35, 36] (fun v6 _ _ _ _ _ _ _ _ we => v6 = .bool (valuedB x.f0) ∧ we = wc)
      case first =>
        by_cases h1 : x.f0 = 1
        · have e1 : (x.f0 == 1) = true := beq_iff_eq.mpr h1
          have HX := Aside0.mk (show valuedB x.f0 = true by unfold valuedB; rw [e1]; rfl)
          clear h1
          go_wp2
          go_meet
          case rel => exact ⟨by rw [HX.out], rfl⟩
        · have e1 : (x.f0 == 1) = false := beq_false_of_ne h1
          have HX := Aside0.mk (show valuedB x.f0 = (x.f0 == 2) by unfold valuedB; rw [e1, Bool.false_or])
          clear h1
          go_wp2
          go_meet
          case rel => exact ⟨by rw [HX.out], rfl⟩
      case rest =>
        obtain ⟨rfl, rfl⟩ := hcut
        go_upto_region 6 with (fail)
        have HPL := Aside0.mk (parts_le x HL.out)
        go_cut [38, 39, 40, 41, 42, 43, 44, 45, 46, 47, 48, 49, 50, 51, 52, 53, 54] (fun v38 _ _ _ _ _ _ _ _ _ _ _ _ _ _ _ _ we => v38 = .bool (wrongB x at_) ∧ Aside0 (Below wc.heap.size wc we))
        case first =>
          obtain ⟨eq_, he⟩ : ∃ e, equalF x (bareF x (namedB x.f0) (x.f0 == 20) (valuedB x.f0)) = e := ⟨_, rfl⟩
          have HE := Aside0.mk he
          clear he
          cases eq_ with
          | true =>
            have HW := Aside0.mk (show wrongB x at_ = (false || (partsF x).any (outB at_)) by unfold wrongB; rw [HE.out]; rfl)
            have RK : ∀ j u W W', (RM x at_ (namedB x.f0) (x.f0 == 20) (valuedB x.f0) true (.agg #[.int .i64 x.f0, .int .i64 x.f1, .int .i64 x.f2, .int .i64 x.f3, .string x.f4, .string x.f5, .int .i64 x.f6, .slice A7 x.f7.length c7, .int .i64 x.f8]) (.func (.func 47) #[] #[.pointer (some ⟨w.heap.size + 1, 0, none⟩)]) (.pointer (some ⟨w.heap.size, 0, none⟩))) j u W → Below W.heap.size W W' → (RM x at_ (namedB x.f0) (x.f0 == 20) (valuedB x.f0) true (.agg #[.int .i64 x.f0, .int .i64 x.f1, .int .i64 x.f2, .int .i64 x.f3, .string x.f4, .string x.f5, .int .i64 x.f6, .slice A7 x.f7.length c7, .int .i64 x.f8]) (.func (.func 47) #[] #[.pointer (some ⟨w.heap.size + 1, 0, none⟩)]) (.pointer (some ⟨w.heap.size, 0, none⟩))) j u W' := fun j u W W' => RM_keep
            refine wp_region_inv (by kernel_rfl) (by kernel_rfl) (fun vs => { tmps := List.toArray ((.agg #[.int .i64 x.f0, .int .i64 x.f1, .int .i64 x.f2, .int .i64 x.f3, .string x.f4, .string x.f5, .int .i64 x.f6, .slice A7 x.f7.length c7, .int .i64 x.f8]) :: (.int .i64 at_) :: (.pointer (some ⟨w.heap.size, 0, none⟩)) :: (.pointer (some ⟨w.heap.size + 1, 0, none⟩)) :: (.bool false) :: (.bool (namedB x.f0)) :: (.bool (valuedB x.f0)) :: (.func (.func 47) #[] #[.pointer (some ⟨w.heap.size + 1, 0, none⟩)]) :: (u8) :: (u9) :: (u10) :: (u11) :: (u12) :: (u13) :: (u14) :: (u15) :: (u16) :: (u17) :: (u18) :: (u19) :: (u20) :: (u21) :: (u22) :: (u23) :: (u24) :: (u25) :: (u26) :: (u27) :: (u28) :: (u29) :: (u30) :: (u31) :: (u32) :: (u33) :: (u34) :: (u35) :: (u36) :: (.func (.func 47) #[] #[.pointer (some ⟨w.heap.size + 1, 0, none⟩)]) :: (vs 16) :: (vs 0) :: (vs 1) :: (vs 2) :: (vs 3) :: (vs 4) :: (vs 5) :: (vs 6) :: (vs 7) :: (vs 8) :: (vs 9) :: (vs 10) :: (vs 11) :: (vs 12) :: (vs 13) :: (vs 14) :: (vs 15) :: (undef) :: (u56) :: (u57) :: (u58) :: (u59) :: (u60) :: (u61) :: (u62) :: (u63) :: (u64) :: (u65) :: (u66) :: (u67) :: (u68) :: (u69) :: (u70) :: (u71) :: (u72) :: (u73) :: (u74) :: (u75) :: (u76) :: (u77) :: (u78) :: (u79) :: (u80) :: (u81) :: (u82) :: (u83) :: (u84) :: []), defers := [] }) (fun l vs W => IV wc.drew (RM x at_ (namedB x.f0) (x.f0 == 20) (valuedB x.f0) true (.agg #[.int .i64 x.f0, .int .i64 x.f1, .int .i64 x.f2, .int .i64 x.f3, .string x.f4, .string x.f5, .int .i64 x.f6, .slice A7 x.f7.length c7, .int .i64 x.f8]) (.func (.func 47) #[] #[.pointer (some ⟨w.heap.size + 1, 0, none⟩)]) (.pointer (some ⟨w.heap.size, 0, none⟩))) l vs W) ?steptrue ?fintrue (fun i => match i with | 0 => u39 | 1 => u40 | 2 => u41 | 3 => u42 | 4 => u43 | 5 => u44 | 6 => u45 | 7 => u46 | 8 => u47 | 9 => u48 | 10 => u49 | 11 => u50 | 12 => u51 | 13 => u52 | 14 => u53 | 15 => u54 | _ => undef) rfl ?starttrue
            case starttrue => exact ⟨Below.refl _ _, nofun⟩
            case steptrue =>
              intro i o ho l vs W h hl hd hcl
              have hi : i < 17 := (Array.getElem?_eq_some_iff.1 ho).1
              rcases (by omega : i = 0 ∨ i = 1 ∨ i = 2 ∨ i = 3 ∨ i = 4 ∨ i = 5 ∨ i = 6 ∨ i = 7 ∨ i = 8 ∨ i = 9 ∨ i = 10 ∨ i = 11 ∨ i = 12 ∨ i = 13 ∨ i = 14 ∨ i = 15 ∨ i = 16) with rfl | rfl | rfl | rfl | rfl | rfl | rfl | rfl | rfl | rfl | rfl | rfl | rfl | rfl | rfl | rfl | rfl
              · refine wpOp_step ho (fun K' hK => ?_)
                obtain rfl := (Option.some.inj ho).symm
                have HK' := Aside0.mk hK
                clear hK ho
                rw [if_pos (by rfl)]
                have hk := blk_below (blk_drew HK.out) h.b
                have z0 := (blk_cell hk 0).trans rfl
                have z1 := (blk_cell hk 1).trans rfl
                have z2 := (blk_cell hk 2).trans rfl
                have z3 := (blk_cell hk 3).trans rfl
                have z4 := (blk_cell hk 4).trans rfl
                have z5 := (blk_cell hk 5).trans rfl
                have z6 := (blk_cell hk 6).trans rfl
                have z7 := (blk_cell hk 7).trans rfl
                have z8 := (blk_cell hk 8).trans rfl
                clear hk
                go_simp
                exact HK'.out _ _ ⟨_, by first | rfl | simp [upd, *], h.plain 0 _ rfl⟩
              · refine wpOp_step ho (fun K' hK => ?_)
                obtain rfl := (Option.some.inj ho).symm
                have HK' := Aside0.mk hK
                clear hK ho
                rw [if_pos (by rfl)]
                have hk := blk_below (blk_drew HK.out) h.b
                have z0 := (blk_cell hk 0).trans rfl
                have z1 := (blk_cell hk 1).trans rfl
                have z2 := (blk_cell hk 2).trans rfl
                have z3 := (blk_cell hk 3).trans rfl
                have z4 := (blk_cell hk 4).trans rfl
                have z5 := (blk_cell hk 5).trans rfl
                have z6 := (blk_cell hk 6).trans rfl
                have z7 := (blk_cell hk 7).trans rfl
                have z8 := (blk_cell hk 8).trans rfl
                clear hk
                go_simp
                exact HK'.out _ _ ⟨_, by first | rfl | simp [upd, *], h.plain 1 _ rfl⟩
              · refine wpOp_step ho (fun K' hK => ?_)
                obtain rfl := (Option.some.inj ho).symm
                have HK' := Aside0.mk hK
                clear hK ho
                rw [if_pos (by rfl)]
                go_simp
                exact HK'.out _ _ ⟨_, by first | rfl | simp [upd, *], h.plain 2 _ rfl⟩
              · refine wpOp_step ho (fun K' hK => ?_)
                obtain rfl := (Option.some.inj ho).symm
                have HK' := Aside0.mk hK
                clear hK ho
                rw [if_pos (by rfl)]
                go_simp
                exact HK'.out _ _ ⟨_, by first | rfl | simp [upd, *], h.plain 3 _ rfl⟩
              · refine wpOp_step ho (fun K' hK => ?_)
                obtain rfl := (Option.some.inj ho).symm
                have HK' := Aside0.mk hK
                clear hK ho
                have t_3 := hd 3 (by kernel_rfl)
                have v3 : vs 3 = .pointer (some ⟨w.heap.size, 0, none⟩) := h.a 3 t_3
                rw [if_pos (by rfl)]
                have hk := blk_below (blk_drew HK.out) h.b
                have z0 := (blk_cell hk 0).trans rfl
                clear hk
                go_simp
                exact HK'.out _ _ ⟨_, by first | rfl | simp [upd, *], h.plain 4 _ rfl⟩
              · refine wpOp_step ho (fun K' hK => ?_)
                obtain rfl := (Option.some.inj ho).symm
                have HK' := Aside0.mk hK
                clear hK ho
                have t_4 := hd 4 (by kernel_rfl)
                have v4 : vs 4 = .int .i64 x.f0 := h.a 4 t_4
                rw [if_pos (by rfl)]
                go_simp
                exact HK'.out _ _ ⟨_, by first | rfl | simp [upd, *], h.plain 5 _ rfl⟩
              · refine wpOp_step ho (fun K' hK => ?_)
                obtain rfl := (Option.some.inj ho).symm
                have HK' := Aside0.mk hK
                clear hK ho
                rw [if_pos (by rfl)]
                go_simp
                exact HK'.out _ _ ⟨_, by first | rfl | simp [upd, *], h.plain 6 _ rfl⟩
              · refine wpOp_step ho (fun K' hK => ?_)
                obtain rfl := (Option.some.inj ho).symm
                have HK' := Aside0.mk hK
                clear hK ho
                have t_1 := hd 1 (by kernel_rfl)
                have t_2 := hd 2 (by kernel_rfl)
                have t_5 := hd 5 (by kernel_rfl)
                have t_6 := hd 6 (by kernel_rfl)
                have v1 : vs 1 = .agg #[.int .i64 x.f0, .int .i64 x.f1, .int .i64 x.f2, .int .i64 x.f3, .string x.f4, .string x.f5, .int .i64 x.f6, .slice A7 x.f7.length c7, .int .i64 x.f8] := h.a 1 t_1
                have v2 : vs 2 = .bool (namedB x.f0) := h.a 2 t_2
                have v5 : vs 5 = .bool (x.f0 == 20) := h.a 5 t_5
                have v6 : vs 6 = .bool (valuedB x.f0) := h.a 6 t_6
                rw [if_pos (by rfl)]
                have KE := Aside0.mk (ast_bare.calls 2 x.f0 x.f1 x.f2 x.f3 x.f4 x.f5 x.f6 A7 c7 x.f7 x.f8 (namedB x.f0) (x.f0 == 20) (valuedB x.f0) _ _ _ _ _ _ _ _ _ W (Kd.C_below (Kd.C_drew (Kd.C_below HR.out HB.out)) h.b) HC.out (bare_f 0 x (namedB x.f0) (x.f0 == 20) (valuedB x.f0) (by have := HL.out; omega)))
                go_wp2_with (go_at_call 49; refine KE.out.mono ?_; rintro e we ⟨vb, rfl, hrb, hbe⟩)
                obtain ⟨Ab, cb, rfl⟩ := Kd.R_slice hrb
                exact HK'.out _ _ ⟨.agg #[.int .i64 (bareF x (namedB x.f0) (x.f0 == 20) (valuedB x.f0)).f0, .int .i64 (bareF x (namedB x.f0) (x.f0 == 20) (valuedB x.f0)).f1, .int .i64 (bareF x (namedB x.f0) (x.f0 == 20) (valuedB x.f0)).f2, .int .i64 (bareF x (namedB x.f0) (x.f0 == 20) (valuedB x.f0)).f3, .string (bareF x (namedB x.f0) (x.f0 == 20) (valuedB x.f0)).f4, .string (bareF x (namedB x.f0) (x.f0 == 20) (valuedB x.f0)).f5, .int .i64 (bareF x (namedB x.f0) (x.f0 == 20) (valuedB x.f0)).f6, .slice Ab (bareF x (namedB x.f0) (x.f0 == 20) (valuedB x.f0)).f7.length cb, .int .i64 (bareF x (namedB x.f0) (x.f0 == 20) (valuedB x.f0)).f8], by first | rfl | simp [upd, *], h.call RK hbe 7 _ ⟨Ab, cb, rfl, (Kd.R_reads' hrb).2.1, (Kd.R_reads' hrb).2.2⟩⟩
              · refine wpOp_step ho (fun K' hK => ?_)
                obtain rfl := (Option.some.inj ho).symm
                have HK' := Aside0.mk hK
                clear hK ho
                have t_0 := hd 0 (by kernel_rfl)
                have t_7 := hd 7 (by kernel_rfl)
                have v0 : vs 0 = .agg #[.int .i64 x.f0, .int .i64 x.f1, .int .i64 x.f2, .int .i64 x.f3, .string x.f4, .string x.f5, .int .i64 x.f6, .slice A7 x.f7.length c7, .int .i64 x.f8] := h.a 0 t_0
                obtain ⟨Ab, cb, v7, hb1, hb2⟩ := (h.a 7 t_7 : ∃ A c, vs 7 = .agg #[.int .i64 (bareF x (namedB x.f0) (x.f0 == 20) (valuedB x.f0)).f0, .int .i64 (bareF x (namedB x.f0) (x.f0 == 20) (valuedB x.f0)).f1, .int .i64 (bareF x (namedB x.f0) (x.f0 == 20) (valuedB x.f0)).f2, .int .i64 (bareF x (namedB x.f0) (x.f0 == 20) (valuedB x.f0)).f3, .string (bareF x (namedB x.f0) (x.f0 == 20) (valuedB x.f0)).f4, .string (bareF x (namedB x.f0) (x.f0 == 20) (valuedB x.f0)).f5, .int .i64 (bareF x (namedB x.f0) (x.f0 == 20) (valuedB x.f0)).f6, .slice A (bareF x (namedB x.f0) (x.f0 == 20) (valuedB x.f0)).f7.length c, .int .i64 (bareF x (namedB x.f0) (x.f0 == 20) (valuedB x.f0)).f8] ∧ (bareF x (namedB x.f0) (x.f0 == 20) (valuedB x.f0)).f7.length ≤ c ∧ Kd.C (Kd.int .i64) W A (bareF x (namedB x.f0) (x.f0 == 20) (valuedB x.f0)).f7.length (bareF x (namedB x.f0) (x.f0 == 20) (valuedB x.f0)).f7)
                rw [if_pos (by rfl)]
                have KE := Aside0.mk (ast_equal.calls (x.f7.length + 1) x.f0 x.f1 x.f2 x.f3 x.f4 x.f5 x.f6 A7 c7 x.f7 x.f8 (bareF x (namedB x.f0) (x.f0 == 20) (valuedB x.f0)).f0 (bareF x (namedB x.f0) (x.f0 == 20) (valuedB x.f0)).f1 (bareF x (namedB x.f0) (x.f0 == 20) (valuedB x.f0)).f2 (bareF x (namedB x.f0) (x.f0 == 20) (valuedB x.f0)).f3 (bareF x (namedB x.f0) (x.f0 == 20) (valuedB x.f0)).f4 (bareF x (namedB x.f0) (x.f0 == 20) (valuedB x.f0)).f5 (bareF x (namedB x.f0) (x.f0 == 20) (valuedB x.f0)).f6 Ab cb (bareF x (namedB x.f0) (x.f0 == 20) (valuedB x.f0)).f7 (bareF x (namedB x.f0) (x.f0 == 20) (valuedB x.f0)).f8 _ W (Kd.C_below (Kd.C_drew (Kd.C_below HR.out HB.out)) h.b) HC.out hb2 hb1 (equal_f (x.f7.length + 1) x (bareF x (namedB x.f0) (x.f0 == 20) (valuedB x.f0)) (by omega) (by have := HL.out; omega)))
                rw [HE.out] at KE
                go_wp2_with (go_at_call 48; refine KE.out.mono ?_; rintro e we ⟨rfl, hbe⟩)
                exact HK'.out _ _ ⟨_, by first | rfl | simp [upd, *], h.call RK hbe 8 _ rfl⟩
              · refine wpOp_step ho (fun K' hK => ?_)
                obtain rfl := (Option.some.inj ho).symm
                have HK' := Aside0.mk hK
                clear hK ho
                have t_8 := hd 8 (by kernel_rfl)
                have v8 : vs 8 = .bool true := h.a 8 t_8
                rw [if_pos (by rfl)]
                go_simp
                exact HK'.out _ _ ⟨_, by first | rfl | simp [upd, *], h.plain 9 _ rfl⟩
              · refine wpOp_step ho (fun K' hK => ?_)
                obtain rfl := (Option.some.inj ho).symm
                have HK' := Aside0.mk hK
                clear hK ho
                have t_9 := hd 9 (by kernel_rfl)
                have v9 : vs 9 = .bool false := h.a 9 t_9
                rw [if_pos (by rfl)]
                go_simp
                exact HK'.out _ _ ⟨_, by first | rfl | simp [upd, *], h.plain 10 _ rfl⟩
              · refine wpOp_step ho (fun K' hK => ?_)
                obtain rfl := (Option.some.inj ho).symm
                have HK' := Aside0.mk hK
                clear hK ho
                have t_10 := hd 10 (by kernel_rfl)
                have v10 : vs 10 = .bool false := h.a 10 t_10
                rw [if_pos (by rw [wanted_of rfl (x := 49) (by kernel_rfl) ((rfl : _ = some (vs 10)).trans (congrArg some v10))]; decide)]
                have hk := blk_below (blk_drew HK.out) h.b
                have z0 := (blk_cell hk 0).trans rfl
                have z1 := (blk_cell hk 1).trans rfl
                have z2 := (blk_cell hk 2).trans rfl
                have z3 := (blk_cell hk 3).trans rfl
                have z4 := (blk_cell hk 4).trans rfl
                have z5 := (blk_cell hk 5).trans rfl
                have z6 := (blk_cell hk 6).trans rfl
                have z7 := (blk_cell hk 7).trans rfl
                have z8 := (blk_cell hk 8).trans rfl
                clear hk
                go_simp
                exact HK'.out _ _ ⟨_, by first | rfl | simp [upd, *], h.plain 11 _ (fun _ => rfl)⟩
              · refine wpOp_step ho (fun K' hK => ?_)
                obtain rfl := (Option.some.inj ho).symm
                have HK' := Aside0.mk hK
                clear hK ho
                have t_10 := hd 10 (by kernel_rfl)
                have t_11 := hd 11 (by kernel_rfl)
                have v10 : vs 10 = .bool false := h.a 10 t_10
                have v11 : vs 11 = .agg #[.int .i64 x.f0, .int .i64 x.f1, .int .i64 x.f2, .int .i64 x.f3, .string x.f4, .string x.f5, .int .i64 x.f6, .slice A7 x.f7.length c7, .int .i64 x.f8] := h.a 11 t_11 rfl
                rw [if_pos (by rw [wanted_of rfl (x := 49) (by kernel_rfl) ((rfl : _ = some (vs 10)).trans (congrArg some v10))]; decide)]
                have KE := Aside0.mk (ast_Parts.calls 2 x.f0 x.f1 x.f2 x.f3 x.f4 x.f5 x.f6 A7 c7 x.f7 x.f8 (partsF x) W (Kd.C_below (Kd.C_drew (Kd.C_below HR.out HB.out)) h.b) HC.out (parts_f 0 x (by have := HL.out; omega)))
                go_wp2_with (go_at_call 10; refine KE.out.mono ?_; rintro e we ⟨vp, rfl, hrp, hbe⟩)
                obtain ⟨Ap, cp, rfl⟩ := Kd.R_slice hrp
                exact HK'.out _ _ ⟨.slice Ap (partsF x).length cp, by first | rfl | simp [upd, *], h.call RK hbe 12 _ (fun _ => ⟨Ap, cp, rfl, (Kd.R_reads' hrp).2.1, (Kd.R_reads' hrp).2.2⟩)⟩
              · refine wpOp_step ho (fun K' hK => ?_)
                obtain rfl := (Option.some.inj ho).symm
                have HK' := Aside0.mk hK
                clear hK ho
                have t_10 := hd 10 (by kernel_rfl)
                have v10 : vs 10 = .bool false := h.a 10 t_10
                rw [if_pos (by rw [wanted_of rfl (x := 49) (by kernel_rfl) ((rfl : _ = some (vs 10)).trans (congrArg some v10))]; decide)]
                go_simp
                exact HK'.out _ _ ⟨_, by first | rfl | simp [upd, *], h.plain 13 _ (fun _ => rfl)⟩
              · refine wpOp_step ho (fun K' hK => ?_)
                obtain rfl := (Option.some.inj ho).symm
                have HK' := Aside0.mk hK
                clear hK ho
                have t_10 := hd 10 (by kernel_rfl)
                have t_12 := hd 12 (by kernel_rfl)
                have t_13 := hd 13 (by kernel_rfl)
                have v10 : vs 10 = .bool false := h.a 10 t_10
                obtain ⟨Ap, cp, v12, hp1, hp2⟩ := (h.a 12 t_12 rfl : ∃ A c, vs 12 = .slice A (partsF x).length c ∧ (partsF x).length ≤ c ∧ Kd.C (Kd.int .i64) W A (partsF x).length (partsF x))
                have v13 : vs 13 = .func (.func 47) #[] #[.pointer (some ⟨w.heap.size + 1, 0, none⟩)] := h.a 13 t_13 rfl
                rw [if_pos (by rw [wanted_of rfl (x := 49) (by kernel_rfl) ((rfl : _ = some (vs 10)).trans (congrArg some v10))]; decide)]
                have KE := Aside0.mk (contains_out (w.heap.size + 1) at_ Ap cp (partsF x) W hp2 hp1 HPL.out (blk_below (blk_drew HG.out) h.b))
                go_wp2_with (go_at_call 50; refine KE.out.mono ?_; rintro e we ⟨rfl, rfl⟩)
                exact HK'.out _ _ ⟨_, by first | rfl | simp [upd, *], h.plain 14 _ (fun _ => rfl)⟩
              · refine wpOp_step ho (fun K' hK => ?_)
                obtain rfl := (Option.some.inj ho).symm
                have HK' := Aside0.mk hK
                clear hK ho
                have t_10 := hd 10 (by kernel_rfl)
                have t_14 := hd 14 (by kernel_rfl)
                have v10 : vs 10 = .bool false := h.a 10 t_10
                have v14 : vs 14 = .bool ((partsF x).any (outB at_)) := h.a 14 t_14 rfl
                rw [if_pos (by rfl)]
                go_simp
                exact HK'.out _ _ ⟨_, by first | rfl | simp [upd, *], h.plain 15 _ rfl⟩
              · refine wpOp_step ho (fun K' hK => ?_)
                obtain rfl := (Option.some.inj ho).symm
                have HK' := Aside0.mk hK
                clear hK ho
                have t_15 := hd 15 (by kernel_rfl)
                have v15 : vs 15 = .bool (false || (partsF x).any (outB at_)) := h.a 15 t_15
                rw [if_pos (by rfl)]
                go_simp
                exact HK'.out _ _ ⟨_, by first | rfl | simp [upd, *], h.plain 16 _ rfl⟩
            case fintrue =>
              intro l vs W hall h
              have v16 : vs 16 = .bool (false || (partsF x).any (outB at_)) := h.a 16 (hall 16 (by decide))
              rw [← HW.out] at v16
              have HBW := Aside0.mk ((below_drew1 (Below.refl _ wc)).trans h.b)
              clear h hall
              go_step
              go_step
              go_meet
              case rel => exact ⟨v16, HBW⟩
          | false =>
            have HW := Aside0.mk (show wrongB x at_ = (true || (partsF x).any (outB at_)) by unfold wrongB; rw [HE.out]; rfl)
            have RK : ∀ j u W W', (RM x at_ (namedB x.f0) (x.f0 == 20) (valuedB x.f0) false (.agg #[.int .i64 x.f0, .int .i64 x.f1, .int .i64 x.f2, .int .i64 x.f3, .string x.f4, .string x.f5, .int .i64 x.f6, .slice A7 x.f7.length c7, .int .i64 x.f8]) (.func (.func 47) #[] #[.pointer (some ⟨w.heap.size + 1, 0, none⟩)]) (.pointer (some ⟨w.heap.size, 0, none⟩))) j u W → Below W.heap.size W W' → (RM x at_ (namedB x.f0) (x.f0 == 20) (valuedB x.f0) false (.agg #[.int .i64 x.f0, .int .i64 x.f1, .int .i64 x.f2, .int .i64 x.f3, .string x.f4, .string x.f5, .int .i64 x.f6, .slice A7 x.f7.length c7, .int .i64 x.f8]) (.func (.func 47) #[] #[.pointer (some ⟨w.heap.size + 1, 0, none⟩)]) (.pointer (some ⟨w.heap.size, 0, none⟩))) j u W' := fun j u W W' => RM_keep
            refine wp_region_inv (by kernel_rfl) (by kernel_rfl) (fun vs => { tmps := List.toArray ((.agg #[.int .i64 x.f0, .int .i64 x.f1, .int .i64 x.f2, .int .i64 x.f3, .string x.f4, .string x.f5, .int .i64 x.f6, .slice A7 x.f7.length c7, .int .i64 x.f8]) :: (.int .i64 at_) :: (.pointer (some ⟨w.heap.size, 0, none⟩)) :: (.pointer (some ⟨w.heap.size + 1, 0, none⟩)) :: (.bool false) :: (.bool (namedB x.f0)) :: (.bool (valuedB x.f0)) :: (.func (.func 47) #[] #[.pointer (some ⟨w.heap.size + 1, 0, none⟩)]) :: (u8) :: (u9) :: (u10) :: (u11) :: (u12) :: (u13) :: (u14) :: (u15) :: (u16) :: (u17) :: (u18) :: (u19) :: (u20) :: (u21) :: (u22) :: (u23) :: (u24) :: (u25) :: (u26) :: (u27) :: (u28) :: (u29) :: (u30) :: (u31) :: (u32) :: (u33) :: (u34) :: (u35) :: (u36) :: (.func (.func 47) #[] #[.pointer (some ⟨w.heap.size + 1, 0, none⟩)]) :: (vs 16) :: (vs 0) :: (vs 1) :: (vs 2) :: (vs 3) :: (vs 4) :: (vs 5) :: (vs 6) :: (vs 7) :: (vs 8) :: (vs 9) :: (vs 10) :: (vs 11) :: (vs 12) :: (vs 13) :: (vs 14) :: (vs 15) :: (undef) :: (u56) :: (u57) :: (u58) :: (u59) :: (u60) :: (u61) :: (u62) :: (u63) :: (u64) :: (u65) :: (u66) :: (u67) :: (u68) :: (u69) :: (u70) :: (u71) :: (u72) :: (u73) :: (u74) :: (u75) :: (u76) :: (u77) :: (u78) :: (u79) :: (u80) :: (u81) :: (u82) :: (u83) :: (u84) :: []), defers := [] }) (fun l vs W => IV wc.drew (RM x at_ (namedB x.f0) (x.f0 == 20) (valuedB x.f0) false (.agg #[.int .i64 x.f0, .int .i64 x.f1, .int .i64 x.f2, .int .i64 x.f3, .string x.f4, .string x.f5, .int .i64 x.f6, .slice A7 x.f7.length c7, .int .i64 x.f8]) (.func (.func 47) #[] #[.pointer (some ⟨w.heap.size + 1, 0, none⟩)]) (.pointer (some ⟨w.heap.size, 0, none⟩))) l vs W) ?stepfalse ?finfalse (fun i => match i with | 0 => u39 | 1 => u40 | 2 => u41 | 3 => u42 | 4 => u43 | 5 => u44 | 6 => u45 | 7 => u46 | 8 => u47 | 9 => u48 | 10 => u49 | 11 => u50 | 12 => u51 | 13 => u52 | 14 => u53 | 15 => u54 | _ => undef) rfl ?startfalse
            case startfalse => exact ⟨Below.refl _ _, nofun⟩
            case stepfalse =>
              intro i o ho l vs W h hl hd hcl
              have hi : i < 17 := (Array.getElem?_eq_some_iff.1 ho).1
              rcases (by omega : i = 0 ∨ i = 1 ∨ i = 2 ∨ i = 3 ∨ i = 4 ∨ i = 5 ∨ i = 6 ∨ i = 7 ∨ i = 8 ∨ i = 9 ∨ i = 10 ∨ i = 11 ∨ i = 12 ∨ i = 13 ∨ i = 14 ∨ i = 15 ∨ i = 16) with rfl | rfl | rfl | rfl | rfl | rfl | rfl | rfl | rfl | rfl | rfl | rfl | rfl | rfl | rfl | rfl | rfl
              · refine wpOp_step ho (fun K' hK => ?_)
                obtain rfl := (Option.some.inj ho).symm
                have HK' := Aside0.mk hK
                clear hK ho
                rw [if_pos (by rfl)]
                have hk := blk_below (blk_drew HK.out) h.b
                have z0 := (blk_cell hk 0).trans rfl
                have z1 := (blk_cell hk 1).trans rfl
                have z2 := (blk_cell hk 2).trans rfl
                have z3 := (blk_cell hk 3).trans rfl
                have z4 := (blk_cell hk 4).trans rfl
                have z5 := (blk_cell hk 5).trans rfl
                have z6 := (blk_cell hk 6).trans rfl
                have z7 := (blk_cell hk 7).trans rfl
                have z8 := (blk_cell hk 8).trans rfl
                clear hk
                go_simp
                exact HK'.out _ _ ⟨_, by first | rfl | simp [upd, *], h.plain 0 _ rfl⟩
              · refine wpOp_step ho (fun K' hK => ?_)
                obtain rfl := (Option.some.inj ho).symm
                have HK' := Aside0.mk hK
                clear hK ho
                rw [if_pos (by rfl)]
                have hk := blk_below (blk_drew HK.out) h.b
                have z0 := (blk_cell hk 0).trans rfl
                have z1 := (blk_cell hk 1).trans rfl
                have z2 := (blk_cell hk 2).trans rfl
                have z3 := (blk_cell hk 3).trans rfl
                have z4 := (blk_cell hk 4).trans rfl
                have z5 := (blk_cell hk 5).trans rfl
                have z6 := (blk_cell hk 6).trans rfl
                have z7 := (blk_cell hk 7).trans rfl
                have z8 := (blk_cell hk 8).trans rfl
                clear hk
                go_simp
                exact HK'.out _ _ ⟨_, by first | rfl | simp [upd, *], h.plain 1 _ rfl⟩
              · refine wpOp_step ho (fun K' hK => ?_)
                obtain rfl := (Option.some.inj ho).symm
                have HK' := Aside0.mk hK
                clear hK ho
                rw [if_pos (by rfl)]
                go_simp
                exact HK'.out _ _ ⟨_, by first | rfl | simp [upd, *], h.plain 2 _ rfl⟩
              · refine wpOp_step ho (fun K' hK => ?_)
                obtain rfl := (Option.some.inj ho).symm
                have HK' := Aside0.mk hK
                clear hK ho
                rw [if_pos (by rfl)]
                go_simp
                exact HK'.out _ _ ⟨_, by first | rfl | simp [upd, *], h.plain 3 _ rfl⟩
              · refine wpOp_step ho (fun K' hK => ?_)
                obtain rfl := (Option.some.inj ho).symm
                have HK' := Aside0.mk hK
                clear hK ho
                have t_3 := hd 3 (by kernel_rfl)
                have v3 : vs 3 = .pointer (some ⟨w.heap.size, 0, none⟩) := h.a 3 t_3
                rw [if_pos (by rfl)]
                have hk := blk_below (blk_drew HK.out) h.b
                have z0 := (blk_cell hk 0).trans rfl
                clear hk
                go_simp
                exact HK'.out _ _ ⟨_, by first | rfl | simp [upd, *], h.plain 4 _ rfl⟩
              · refine wpOp_step ho (fun K' hK => ?_)
                obtain rfl := (Option.some.inj ho).symm
                have HK' := Aside0.mk hK
                clear hK ho
                have t_4 := hd 4 (by kernel_rfl)
                have v4 : vs 4 = .int .i64 x.f0 := h.a 4 t_4
                rw [if_pos (by rfl)]
                go_simp
                exact HK'.out _ _ ⟨_, by first | rfl | simp [upd, *], h.plain 5 _ rfl⟩
              · refine wpOp_step ho (fun K' hK => ?_)
                obtain rfl := (Option.some.inj ho).symm
                have HK' := Aside0.mk hK
                clear hK ho
                rw [if_pos (by rfl)]
                go_simp
                exact HK'.out _ _ ⟨_, by first | rfl | simp [upd, *], h.plain 6 _ rfl⟩
              · refine wpOp_step ho (fun K' hK => ?_)
                obtain rfl := (Option.some.inj ho).symm
                have HK' := Aside0.mk hK
                clear hK ho
                have t_1 := hd 1 (by kernel_rfl)
                have t_2 := hd 2 (by kernel_rfl)
                have t_5 := hd 5 (by kernel_rfl)
                have t_6 := hd 6 (by kernel_rfl)
                have v1 : vs 1 = .agg #[.int .i64 x.f0, .int .i64 x.f1, .int .i64 x.f2, .int .i64 x.f3, .string x.f4, .string x.f5, .int .i64 x.f6, .slice A7 x.f7.length c7, .int .i64 x.f8] := h.a 1 t_1
                have v2 : vs 2 = .bool (namedB x.f0) := h.a 2 t_2
                have v5 : vs 5 = .bool (x.f0 == 20) := h.a 5 t_5
                have v6 : vs 6 = .bool (valuedB x.f0) := h.a 6 t_6
                rw [if_pos (by rfl)]
                have KE := Aside0.mk (ast_bare.calls 2 x.f0 x.f1 x.f2 x.f3 x.f4 x.f5 x.f6 A7 c7 x.f7 x.f8 (namedB x.f0) (x.f0 == 20) (valuedB x.f0) _ _ _ _ _ _ _ _ _ W (Kd.C_below (Kd.C_drew (Kd.C_below HR.out HB.out)) h.b) HC.out (bare_f 0 x (namedB x.f0) (x.f0 == 20) (valuedB x.f0) (by have := HL.out; omega)))
                go_wp2_with (go_at_call 49; refine KE.out.mono ?_; rintro e we ⟨vb, rfl, hrb, hbe⟩)
                obtain ⟨Ab, cb, rfl⟩ := Kd.R_slice hrb
                exact HK'.out _ _ ⟨.agg #[.int .i64 (bareF x (namedB x.f0) (x.f0 == 20) (valuedB x.f0)).f0, .int .i64 (bareF x (namedB x.f0) (x.f0 == 20) (valuedB x.f0)).f1, .int .i64 (bareF x (namedB x.f0) (x.f0 == 20) (valuedB x.f0)).f2, .int .i64 (bareF x (namedB x.f0) (x.f0 == 20) (valuedB x.f0)).f3, .string (bareF x (namedB x.f0) (x.f0 == 20) (valuedB x.f0)).f4, .string (bareF x (namedB x.f0) (x.f0 == 20) (valuedB x.f0)).f5, .int .i64 (bareF x (namedB x.f0) (x.f0 == 20) (valuedB x.f0)).f6, .slice Ab (bareF x (namedB x.f0) (x.f0 == 20) (valuedB x.f0)).f7.length cb, .int .i64 (bareF x (namedB x.f0) (x.f0 == 20) (valuedB x.f0)).f8], by first | rfl | simp [upd, *], h.call RK hbe 7 _ ⟨Ab, cb, rfl, (Kd.R_reads' hrb).2.1, (Kd.R_reads' hrb).2.2⟩⟩
              · refine wpOp_step ho (fun K' hK => ?_)
                obtain rfl := (Option.some.inj ho).symm
                have HK' := Aside0.mk hK
                clear hK ho
                have t_0 := hd 0 (by kernel_rfl)
                have t_7 := hd 7 (by kernel_rfl)
                have v0 : vs 0 = .agg #[.int .i64 x.f0, .int .i64 x.f1, .int .i64 x.f2, .int .i64 x.f3, .string x.f4, .string x.f5, .int .i64 x.f6, .slice A7 x.f7.length c7, .int .i64 x.f8] := h.a 0 t_0
                obtain ⟨Ab, cb, v7, hb1, hb2⟩ := (h.a 7 t_7 : ∃ A c, vs 7 = .agg #[.int .i64 (bareF x (namedB x.f0) (x.f0 == 20) (valuedB x.f0)).f0, .int .i64 (bareF x (namedB x.f0) (x.f0 == 20) (valuedB x.f0)).f1, .int .i64 (bareF x (namedB x.f0) (x.f0 == 20) (valuedB x.f0)).f2, .int .i64 (bareF x (namedB x.f0) (x.f0 == 20) (valuedB x.f0)).f3, .string (bareF x (namedB x.f0) (x.f0 == 20) (valuedB x.f0)).f4, .string (bareF x (namedB x.f0) (x.f0 == 20) (valuedB x.f0)).f5, .int .i64 (bareF x (namedB x.f0) (x.f0 == 20) (valuedB x.f0)).f6, .slice A (bareF x (namedB x.f0) (x.f0 == 20) (valuedB x.f0)).f7.length c, .int .i64 (bareF x (namedB x.f0) (x.f0 == 20) (valuedB x.f0)).f8] ∧ (bareF x (namedB x.f0) (x.f0 == 20) (valuedB x.f0)).f7.length ≤ c ∧ Kd.C (Kd.int .i64) W A (bareF x (namedB x.f0) (x.f0 == 20) (valuedB x.f0)).f7.length (bareF x (namedB x.f0) (x.f0 == 20) (valuedB x.f0)).f7)
                rw [if_pos (by rfl)]
                have KE := Aside0.mk (ast_equal.calls (x.f7.length + 1) x.f0 x.f1 x.f2 x.f3 x.f4 x.f5 x.f6 A7 c7 x.f7 x.f8 (bareF x (namedB x.f0) (x.f0 == 20) (valuedB x.f0)).f0 (bareF x (namedB x.f0) (x.f0 == 20) (valuedB x.f0)).f1 (bareF x (namedB x.f0) (x.f0 == 20) (valuedB x.f0)).f2 (bareF x (namedB x.f0) (x.f0 == 20) (valuedB x.f0)).f3 (bareF x (namedB x.f0) (x.f0 == 20) (valuedB x.f0)).f4 (bareF x (namedB x.f0) (x.f0 == 20) (valuedB x.f0)).f5 (bareF x (namedB x.f0) (x.f0 == 20) (valuedB x.f0)).f6 Ab cb (bareF x (namedB x.f0) (x.f0 == 20) (valuedB x.f0)).f7 (bareF x (namedB x.f0) (x.f0 == 20) (valuedB x.f0)).f8 _ W (Kd.C_below (Kd.C_drew (Kd.C_below HR.out HB.out)) h.b) HC.out hb2 hb1 (equal_f (x.f7.length + 1) x (bareF x (namedB x.f0) (x.f0 == 20) (valuedB x.f0)) (by omega) (by have := HL.out; omega)))
                rw [HE.out] at KE
                go_wp2_with (go_at_call 48; refine KE.out.mono ?_; rintro e we ⟨rfl, hbe⟩)
                exact HK'.out _ _ ⟨_, by first | rfl | simp [upd, *], h.call RK hbe 8 _ rfl⟩
              · refine wpOp_step ho (fun K' hK => ?_)
                obtain rfl := (Option.some.inj ho).symm
                have HK' := Aside0.mk hK
                clear hK ho
                have t_8 := hd 8 (by kernel_rfl)
                have v8 : vs 8 = .bool false := h.a 8 t_8
                rw [if_pos (by rfl)]
                go_simp
                exact HK'.out _ _ ⟨_, by first | rfl | simp [upd, *], h.plain 9 _ rfl⟩
              · refine wpOp_step ho (fun K' hK => ?_)
                obtain rfl := (Option.some.inj ho).symm
                have HK' := Aside0.mk hK
                clear hK ho
                have t_9 := hd 9 (by kernel_rfl)
                have v9 : vs 9 = .bool true := h.a 9 t_9
                rw [if_pos (by rfl)]
                go_simp
                exact HK'.out _ _ ⟨_, by first | rfl | simp [upd, *], h.plain 10 _ rfl⟩
              · refine wpOp_step ho (fun K' hK => ?_)
                obtain rfl := (Option.some.inj ho).symm
                have HK' := Aside0.mk hK
                clear hK ho
                have t_10 := hd 10 (by kernel_rfl)
                have v10 : vs 10 = .bool true := h.a 10 t_10
                rw [if_neg (by rw [wanted_of rfl (x := 49) (by kernel_rfl) ((rfl : _ = some (vs 10)).trans (congrArg some v10))]; decide)]
                exact HK'.out _ _ ⟨undef, by first | rfl | simp [upd, *], h.plain 11 _ (fun e => by cases e)⟩
              · refine wpOp_step ho (fun K' hK => ?_)
                obtain rfl := (Option.some.inj ho).symm
                have HK' := Aside0.mk hK
                clear hK ho
                have t_10 := hd 10 (by kernel_rfl)
                have v10 : vs 10 = .bool true := h.a 10 t_10
                rw [if_neg (by rw [wanted_of rfl (x := 49) (by kernel_rfl) ((rfl : _ = some (vs 10)).trans (congrArg some v10))]; decide)]
                exact HK'.out _ _ ⟨undef, by first | rfl | simp [upd, *], h.plain 12 _ (fun e => by cases e)⟩
              · refine wpOp_step ho (fun K' hK => ?_)
                obtain rfl := (Option.some.inj ho).symm
                have HK' := Aside0.mk hK
                clear hK ho
                have t_10 := hd 10 (by kernel_rfl)
                have v10 : vs 10 = .bool true := h.a 10 t_10
                rw [if_neg (by rw [wanted_of rfl (x := 49) (by kernel_rfl) ((rfl : _ = some (vs 10)).trans (congrArg some v10))]; decide)]
                exact HK'.out _ _ ⟨undef, by first | rfl | simp [upd, *], h.plain 13 _ (fun e => by cases e)⟩
              · refine wpOp_step ho (fun K' hK => ?_)
                obtain rfl := (Option.some.inj ho).symm
                have HK' := Aside0.mk hK
                clear hK ho
                have t_10 := hd 10 (by kernel_rfl)
                have v10 : vs 10 = .bool true := h.a 10 t_10
                rw [if_neg (by rw [wanted_of rfl (x := 49) (by kernel_rfl) ((rfl : _ = some (vs 10)).trans (congrArg some v10))]; decide)]
                exact HK'.out _ _ ⟨undef, by first | rfl | simp [upd, *], h.plain 14 _ (fun e => by cases e)⟩
              · refine wpOp_step ho (fun K' hK => ?_)
                obtain rfl := (Option.some.inj ho).symm
                have HK' := Aside0.mk hK
                clear hK ho
                have t_10 := hd 10 (by kernel_rfl)
                have v10 : vs 10 = .bool true := h.a 10 t_10
                rw [if_pos (by rfl)]
                go_simp
                exact HK'.out _ _ ⟨_, by first | rfl | simp [upd, *], h.plain 15 _ rfl⟩
              · refine wpOp_step ho (fun K' hK => ?_)
                obtain rfl := (Option.some.inj ho).symm
                have HK' := Aside0.mk hK
                clear hK ho
                have t_15 := hd 15 (by kernel_rfl)
                have v15 : vs 15 = .bool (true || (partsF x).any (outB at_)) := h.a 15 t_15
                rw [if_pos (by rfl)]
                go_simp
                exact HK'.out _ _ ⟨_, by first | rfl | simp [upd, *], h.plain 16 _ rfl⟩
            case finfalse =>
              intro l vs W hall h
              have v16 : vs 16 = .bool (true || (partsF x).any (outB at_)) := h.a 16 (hall 16 (by decide))
              rw [← HW.out] at v16
              have HBW := Aside0.mk ((below_drew1 (Below.refl _ wc)).trans h.b)
              clear h hall
              go_step
              go_step
              go_meet
              case rel => exact ⟨v16, HBW⟩
        case rest =>
          obtain ⟨hv, HBW⟩ := hcut
          have hk := blk_below HK.out HBW.out
          have hb := HB.out.trans (HBW.out.mono HB.out.size)
          have HB2 := Aside0.mk hb
          have y0 := (blk_cell hk 0).trans rfl
          have y1 := (blk_cell hk 1).trans rfl
          have y2 := (blk_cell hk 2).trans rfl
          have y3 := (blk_cell hk 3).trans rfl
          have y4 := (blk_cell hk 4).trans rfl
          have y5 := (blk_cell hk 5).trans rfl
          have y6 := (blk_cell hk 6).trans rfl
          have y7 := (blk_cell hk 7).trans rfl
          have y8 := (blk_cell hk 8).trans rfl
          clear hk hb
          have hM := HM.out
          obtain ⟨wb, hwb⟩ : ∃ b, wrongB x at_ = b := ⟨_, rfl⟩
          rw [hwb] at hM hv
          clear hwb HM
          cases wb with
          | true =>
            subst hv
            rw [if_pos rfl] at hM
            subst hM
            go_wp2
            go_ret
            exact ⟨rfl, HB2.out⟩
          | false =>
            subst hv
            rw [if_neg (by decide)] at hM
            have HM2 := Aside0.mk hM
            clear hM
            go_upto_region 8 with (fail)
            go_cut [5, 55, 56, 57, 58, 59, 60, 61, 62, 63, 64, 65, 66, 67, 68, 69, 70, 71] (fun _ v55 _ _ _ _ _ _ _ _ _ _ _ _ _ _ _ _ we => v55 = .bool (bareB x) ∧ we = wc)
            case first =>
              cases hn : namedB x.f0 with
              | true =>
                cases e4 : (x.f4.toList == ([] : List UInt8)) with
                | true =>
                  have HX := Aside0.mk (show bareB x = true by unfold bareB; rw [hn, e4]; simp)
                  go_wp2
                  go_meet
                  case rel => exact ⟨by rw [HX.out], rfl⟩
                | false =>
                  cases e20 : (x.f0 == 20) with
                  | true =>
                    cases e5 : (x.f5.toList == ([] : List UInt8)) with
                    | true =>
                      have HX := Aside0.mk (show bareB x = true by unfold bareB; rw [hn, e4, e20, e5]; simp)
                      go_wp2
                      go_meet
                      case rel => exact ⟨by rw [HX.out], rfl⟩
                    | false =>
                      have HX := Aside0.mk (show bareB x = false by unfold bareB; rw [hn, e4, e20, e5]; simp)
                      go_wp2
                      go_meet
                      case rel => exact ⟨by rw [HX.out], rfl⟩
                  | false =>
                    have HX := Aside0.mk (show bareB x = false by unfold bareB; rw [hn, e4, e20]; simp)
                    go_wp2
                    go_meet
                    case rel => exact ⟨by rw [HX.out], rfl⟩
              | false =>
                cases e20 : (x.f0 == 20) with
                | true =>
                  cases e5 : (x.f5.toList == ([] : List UInt8)) with
                  | true =>
                    have HX := Aside0.mk (show bareB x = true by unfold bareB; rw [hn, e20, e5]; simp)
                    go_wp2
                    go_meet
                    case rel => exact ⟨by rw [HX.out], rfl⟩
                  | false =>
                    have HX := Aside0.mk (show bareB x = false by unfold bareB; rw [hn, e20, e5]; simp)
                    go_wp2
                    go_meet
                    case rel => exact ⟨by rw [HX.out], rfl⟩
                | false =>
                  have HX := Aside0.mk (show bareB x = false by unfold bareB; rw [hn, e20]; simp)
                  go_wp2
                  go_meet
                  case rel => exact ⟨by rw [HX.out], rfl⟩
            case rest =>
              obtain ⟨hv, rfl⟩ := hcut
              have hM := HM2.out
              obtain ⟨bb, hbb⟩ : ∃ b, bareB x = b := ⟨_, rfl⟩
              rw [hbb] at hv hM
              clear hbb HM2
              cases bb with
              | true =>
                subst hv
                rw [if_pos rfl] at hM
                subst hM
                go_wp2
                go_ret
                exact ⟨rfl, HB2.out⟩
              | false =>
                subst hv
                rw [if_neg (by decide)] at hM
                have HM3 := Aside0.mk hM
                clear hM
                cases e6 : decide (0 ≤ x.f6) with
                | false =>
                  have hM := HM3.out
                  rw [e6, Bool.false_and] at hM
                  subst hM
                  clear HM3
                  go_wp2
                  go_ret
                  exact ⟨rfl, HB2.out⟩
                | true =>
                  by_cases h2 : x.f0 = 2
                  · have e2 : (x.f0 != 2) = false := bne_eq_false_iff_eq.mpr h2
                    have hM := HM3.out
                    rw [e6, e2, Bool.true_and, Bool.false_or] at hM
                    have HM4 := Aside0.mk hM
                    clear hM HM3 h2
                    go_wp2
                    go_ret
                    exact ⟨by rw [← HM4.out]; rfl, HB2.out⟩
                  · have e2 : (x.f0 != 2) = true := bne_iff_ne.mpr h2
                    have hM := HM3.out
                    rw [e6, e2, Bool.true_and, Bool.true_or] at hM
                    subst hM
                    clear HM3 h2
                    go_wp2
                    go_ret
                    exact ⟨rfl, HB2.out⟩
#print axioms may_any
end Go.Proofs.Ytediidkiedifcaa.Q
