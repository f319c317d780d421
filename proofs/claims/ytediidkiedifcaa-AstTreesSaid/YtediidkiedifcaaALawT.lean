/- The law AstTrees, walked. -/
import Derived.Test.YtediidkiedifcaaALawN
import Derived.Test.YtediidkiedifcaaARDeepL
import Derived.Test.YtediidkiedifcaaAInv
namespace Go.Proofs.Ytediidkiedifcaa.Q
set_option linter.unusedVariables false
set_option linter.unusedSimpArgs false
open Go.RowKit Go.Proofs.YtediidkiedifcaaW.PrintWords Go.Proofs.YtediidkiedifcaaW.PrintLast Go.Proofs.YtediidkiedifcaaW.PrintMore Go.Proofs.Ytediidkiedifcaa.Inv
/-- Is it an expression of a program that may be? -/
def okB (l0 : List S45) (l1 : List S31) (a : Int) : Bool := decide (0 ≤ a) && decide (a < (l1.length : Int)) && mayP l0 l1
theorem right_ok {l0 : List S45} {l1 : List S31} (h : Small l0 l1) (a : Int) : ast_right.f l0 l1 a = some (okB l0 l1 a) := by
  unfold ast_right.f okB
  by_cases h0 : 0 ≤ a
  · by_cases h1 : a < (l1.length : Int)
    · rw [if_pos h0, if_pos h1, h.may, Option.bind_some, decide_eq_true h0, decide_eq_true h1]; simp
    · rw [if_pos h0, if_neg h1, decide_eq_true h0, decide_eq_false h1]; simp
  · rw [if_neg h0, decide_eq_false h0]; simp
def RT5 (PA : Value) (a : Int) (T : List Int) (ns : List ByteArray) (j : Nat) (u : Value) (W : World) : Prop :=
  match j with
  | 0 => u = PA
  | 1 => u = .int .i64 a
  | 2 => ∃ A c b, u = .slice A T.length c ∧ Kd.R (Kd.int .i64) 3 W b (fun _ => True) (.slice A T.length c) T
  | 3 => u = PA
  | 4 => u = .int .i64 a
  | 5 => ∃ A c b, u = .slice A ns.length c ∧ Kd.R Kd.string 9 W b (fun _ => True) (.slice A ns.length c) ns
  | 6 => ∃ A c b, u = .slice A T.length c ∧ Kd.R (Kd.int .i64) 3 W b (fun _ => True) (.slice A T.length c) T
  | 7 => ∃ A c b, u = .slice A ns.length c ∧ Kd.R Kd.string 9 W b (fun _ => True) (.slice A ns.length c) ns
  | _ => True
theorem RT5_keep {PA : Value} {a : Int} {T : List Int} {ns : List ByteArray} {j : Nat} {u : Value} {W W' : World} (h : RT5 PA a T ns j u W) (hb : Below W.heap.size W W') : RT5 PA a T ns j u W' := by
  unfold RT5 at h ⊢
  split at h
  · exact h
  · exact h
  · obtain ⟨A, c, b, e, hr⟩ := h; exact ⟨A, c, b, e, Kd.R_below hr hb⟩
  · exact h
  · exact h
  · obtain ⟨A, c, b, e, hr⟩ := h; exact ⟨A, c, b, e, Kd.R_below hr hb⟩
  · obtain ⟨A, c, b, e, hr⟩ := h; exact ⟨A, c, b, e, Kd.R_below hr hb⟩
  · obtain ⟨A, c, b, e, hr⟩ := h; exact ⟨A, c, b, e, Kd.R_below hr hb⟩
  · trivial
def RT9 (PA : Value) (a d : Int) (nT : Nat) (At : Option Addr) (ct : Nat) (Au : Option Addr) (cu : Nat) (D : List Int) (j : Nat) (u : Value) (W : World) : Prop :=
  match j with
  | 0 => u = .slice At nT ct
  | 1 => u = .int .i64 (nT : Int)
  | 2 => u = .slice Au nT cu
  | 3 => u = .int .i64 (nT : Int)
  | 4 => u = .bool false
  | 5 => u = .bool false
  | 6 => u = PA
  | 7 => u = .int .i64 a
  | 8 => u = .int .i64 d
  | 9 => u = PA
  | 10 => ∃ A c b, u = .slice A D.length c ∧ Kd.R (Kd.int .i64) 3 W b (fun _ => True) (.slice A D.length c) D
  | 11 => u = .int .i64 a
  | 12 => ∃ p, u = .pointer (some p) ∧ W.cell? p = some (.int .i64 d)
  | 13 => u = .int .i64 d
  | 14 => u = .bool false
  | 15 => u = .bool false
  | _ => True
theorem RT9_keep {PA : Value} {a d : Int} {nT : Nat} {At : Option Addr} {ct : Nat} {Au : Option Addr} {cu : Nat} {D : List Int} {j : Nat} {u : Value} {W W' : World} (h : RT9 PA a d nT At ct Au cu D j u W) (hb : Below W.heap.size W W') : RT9 PA a d nT At ct Au cu D j u W' := by
  unfold RT9 at h ⊢
  split at h
  all_goals first
    | exact h
    | (obtain ⟨A, c, b, e, hr⟩ := h; exact ⟨A, c, b, e, Kd.R_below hr hb⟩)
    | (obtain ⟨p, e, hc⟩ := h; exact ⟨p, e, (hb.cell (World.block_lt_of_cell? _ _ hc)).trans hc⟩)
def knT (l1 : List S31) (x : Nat) (l : List ByteArray) : Bool := ((rd_T31 l1 (x : Int)).f0 != 3) || l.any fun t => t.toList == (rd_T31 l1 (x : Int)).f4.toList
theorem knT_eq (l1 : List S31) (x : Nat) (out : List ByteArray) : knT l1 x out = !(isName l1 (x : Int) && !(hasS out (nameOf l1 (x : Int)))) := by
  have e : hasS out (nameOf l1 (x : Int)) = out.any fun t => t.toList == (rd_T31 l1 (x : Int)).f4.toList := by
    unfold hasS nameOf
    congr 1
    funext t
    exact Bool.beq_comm
  rw [e]
  unfold knT isName
  cases hx : ((rd_T31 l1 (x : Int)).f0 == 3) with
  | false => simp [bne, hx]
  | true => simp only [bne, hx, Bool.not_true, Bool.false_or, Bool.true_and, Bool.not_not]
theorem addN_kn (l1 : List S31) (x : Nat) (out : List ByteArray) : addN l1 out (x : Int) = if knT l1 x out = true then out else out ++ [(rd_T31 l1 (x : Int)).f4] := by
  rw [knT_eq]
  unfold addN
  cases hc : (isName l1 (x : Int) && !(hasS out (nameOf l1 (x : Int)))) <;> rfl
theorem pre_take {α : Type} {A B : List α} (h : A <+: B) : B.take A.length = A := by
  obtain ⟨c, rfl⟩ := h
  exact List.take_left
theorem pre_next {A B : List ByteArray} {x : ByteArray} (h : A ++ [x] <+: B) : A.length < B.length ∧ rdOf ByteArray.empty B (A.length : Int) = x := by
  obtain ⟨c, rfl⟩ := h
  refine ⟨by simp, ?_⟩
  unfold rdOf
  simp [List.getD_eq_getElem?_getD]
set_option maxHeartbeats 16000000 in
set_option maxRecDepth 100000 in
theorem trees_walk (A0 : Option Addr) (c0 : Nat) (l0 : List S45) (A1 : Option Addr) (c1 : Nat) (l1 : List S31) (a : Int) (w : World) (hD : Kd.C k45 w A0 l0.length l0) (hDc : l0.length ≤ c0) (hE : Kd.C k31 w A1 l1.length l1) (hEc : l1.length ≤ c1) (hs : Sz l0 l1) :
    Calls Try.prog 4 #[.agg #[.slice A0 l0.length c0, .slice A1 l1.length c1], .int .i64 a] w fun e w' => e = .returned (.bool true) ∧ Below w.heap.size w w' := by
  have hB : Below w.heap.size w (w.alloc (Obj.cells #[.slice A0 l0.length c0, .slice A1 l1.length c1] 25)) := (Below.refl _ _).alloc (Nat.le_refl _) _
  have hK : (w.alloc (Obj.cells #[.slice A0 l0.length c0, .slice A1 l1.length c1] 25)).heap[w.heap.size]? = some (Obj.cells #[.slice A0 l0.length c0, .slice A1 l1.length c1] 25 (0, 0)) := blk_new w _
  obtain ⟨gb, hgb, hsm⟩ := great_f hs
  obtain ⟨kG, hkG⟩ := hgb.rounds
  have KG := Aside0.mk (show ∀ V, Below w.heap.size w V → Calls Try.prog 9 #[.agg #[.slice A0 l0.length c0, .slice A1 l1.length c1]] V fun e w' => e = .returned (.bool gb) ∧ Below V.heap.size V w' from fun V hV => astrolabelaw04_Great.calls kG A0 c0 l0 A1 c1 l1 gb V (Kd.C_below hD hV) hDc (Kd.C_below hE hV) hEc hkG)
  have HSM := Aside0.mk hsm
  have HD := Aside0.mk hD
  have HDc := Aside0.mk hDc
  have HE := Aside0.mk hE
  have HEc := Aside0.mk hEc
  clear hD hDc hE hEc hs hgb hsm hkG
  go_enter Try.func4, Try.ntmps4
  go_upto_region 1 with (fail)
  obtain ⟨W, hW⟩ : ∃ W, W = (w.alloc (Obj.cells #[.slice A0 l0.length c0, .slice A1 l1.length c1] 25)) := ⟨_, rfl⟩
  rw [← hW] at hB hK ⊢
  clear hW
  have HB := Aside0.mk hB
  have HK := Aside0.mk hK
  clear hB hK
  go_upto_region 3 with (go_at_call 8; refine (astrolabelaw04_alive.calls true _ rfl).mono ?_; rintro e w1 ⟨rfl, hb1⟩; have HB1 := Aside0.mk (HB.out.trans (hb1.mono HB.out.size)); have HK1 := Aside0.mk (blk_below HK.out hb1); clear hb1)
  clear HB HK
  have z0 : w1.cell? ⟨w.heap.size, 0, none⟩ = some (.slice A0 l0.length c0) := (blk_cell HK1.out 0).trans rfl
  have z1 : w1.cell? ⟨w.heap.size, 1, none⟩ = some (.slice A1 l1.length c1) := (blk_cell HK1.out 1).trans rfl
  cases gb with
  | true =>
    go_wp2_with (go_at_call 9; refine (KG.out _ HB1.out).mono ?_; rintro e w2 ⟨rfl, hb2⟩; have HB2 := Aside0.mk (HB1.out.trans (hb2.mono HB1.out.size)); clear hb2)
    go_ret
    exact ⟨rfl, HB2.out⟩
  | false =>
    have HS := Aside0.mk (HSM.out rfl)
    go_upto_region 5 with (go_at_call 9; refine (KG.out _ HB1.out).mono ?_; rintro e w2 ⟨rfl, hb2⟩; have HB2 := Aside0.mk (HB1.out.trans (hb2.mono HB1.out.size)); have HK2 := Aside0.mk (blk_below HK1.out hb2); clear hb2)
    clear KG HSM HB1 HK1 z0 z1
    obtain ⟨ok, hok⟩ : ∃ b, okB l0 l1 a = b := ⟨_, rfl⟩
    have HRT := Aside0.mk (show ast_right.f l0 l1 a = some ok by rw [right_ok HS.out, hok])
    have HOK := Aside0.mk hok
    clear hok
    obtain ⟨T, hT⟩ : ∃ T, (if ok = true then (treeAll (a.toNat + 1) l1 a).take 100000 else []) = T := ⟨_, rfl⟩
    obtain ⟨ns, hns⟩ : ∃ ns, (if ok = true then namesP l1 a.toNat else []) = ns := ⟨_, rfl⟩
    have HTR := Aside0.mk (show ast_Tree.f l0 l1 a = some T by unfold ast_Tree.f; rw [HRT.out, Option.bind_some, hT])
    have HNR := Aside0.mk (show ast_Names.f l0 l1 a = some ns by unfold ast_Names.f; rw [HRT.out, Option.bind_some, hns])
    have HTE := Aside0.mk hT
    have HNE := Aside0.mk hns
    clear hT hns
    go_cut [5, 6, 17, 18, 19, 20, 21, 22] (fun v5 v6 _ _ _ _ _ _ we => ∃ At ct bt An cn bn, v5 = .slice At T.length ct ∧ v6 = .slice An ns.length cn ∧ Aside0 (Kd.R (Kd.int .i64) 3 we bt (fun _ => True) (.slice At T.length ct) T) ∧ Aside0 (Kd.R Kd.string 9 we bn (fun _ => True) (.slice An ns.length cn) ns) ∧ Aside0 (Below w2.heap.size w2 we))
    case first =>
      refine wp_region_inv (by kernel_rfl) (by kernel_rfl) (fun vs => { tmps := List.toArray ((Value.agg #[Value.slice A0 l0.length c0, Value.slice A1 l1.length c1]) :: (Value.int IntKind.i64 a) :: (Value.pointer (some { block := w.heap.size, off := 0 })) :: (undef) :: (Value.bool false) :: (vs 6) :: (vs 7) :: (undef) :: (undef) :: (undef) :: (undef) :: (undef) :: (undef) :: (Value.bool true) :: (Value.bool false) :: (Value.agg #[Value.slice A0 l0.length c0, Value.slice A1 l1.length c1]) :: (Value.bool false) :: (vs 0) :: (vs 1) :: (vs 2) :: (vs 3) :: (vs 4) :: (vs 5) :: (undef) :: (undef) :: (undef) :: (undef) :: (undef) :: (undef) :: (undef) :: (undef) :: (undef) :: (undef) :: (undef) :: (undef) :: (undef) :: (undef) :: (undef) :: (undef) :: (undef) :: (undef) :: (undef) :: (undef) :: (undef) :: (undef) :: (undef) :: (undef) :: (undef) :: (undef) :: (undef) :: (undef) :: (undef) :: (undef) :: (undef) :: (undef) :: (undef) :: (undef) :: (undef) :: (undef) :: (undef) :: (undef) :: (undef) :: (undef) :: (undef) :: (undef) :: (undef) :: (undef) :: (undef) :: (undef) :: (undef) :: (undef) :: (undef) :: (undef) :: (undef) :: (undef) :: (undef) :: (undef) :: (undef) :: (undef) :: (undef) :: (undef) :: (undef) :: (undef) :: (undef) :: (undef) :: (undef) :: (undef) :: (undef) :: (undef) :: (undef) :: (undef) :: (undef) :: (undef) :: (undef) :: (undef) :: (undef) :: (undef) :: (undef) :: (undef) :: (undef) :: (undef) :: (undef) :: (undef) :: (undef) :: (undef) :: (undef) :: (undef) :: (undef) :: (undef) :: (undef) :: (undef) :: (undef) :: (undef) :: (undef) :: (undef) :: (undef) :: (undef) :: (undef) :: (undef) :: (undef) :: (undef) :: (undef) :: (undef) :: (undef) :: (undef) :: (undef) :: (undef) :: (undef) :: (undef) :: (undef) :: (undef) :: (undef) :: (undef) :: (undef) :: (undef) :: (undef) :: []), defers := [] }) (fun l vs W => IV w2.drew (RT5 (.agg #[.slice A0 l0.length c0, .slice A1 l1.length c1]) a T ns) l vs W) ?stepR ?finR (fun io => match io with | 0 => undef | 1 => undef | 2 => undef | 3 => undef | 4 => undef | 5 => undef | 6 => undef | 7 => undef | _ => undef) rfl ?startR
      case startR => exact ⟨Below.refl _ _, nofun⟩
      case stepR =>
        intro io oo ho lo vs W h hl hd hcl
        have hi : io < 8 := (Array.getElem?_eq_some_iff.1 ho).1
        rcases (by omega : io = 0 ∨ io = 1 ∨ io = 2 ∨ io = 3 ∨ io = 4 ∨ io = 5 ∨ io = 6 ∨ io = 7) with rfl | rfl | rfl | rfl | rfl | rfl | rfl | rfl
        · refine wpOp_step ho (fun K' hK => ?_)
          obtain rfl := (Option.some.inj ho).symm
          have HK' := Aside0.mk hK
          clear hK ho
          rw [if_pos (by rfl)]
          have hk := blk_below (blk_drew HK2.out) h.b
          have z0 : W.cell? ⟨w.heap.size, 0, none⟩ = some (.slice A0 l0.length c0) := (blk_cell hk 0).trans rfl
          have z1 : W.cell? ⟨w.heap.size, 1, none⟩ = some (.slice A1 l1.length c1) := (blk_cell hk 1).trans rfl
          clear hk
          go_simp
          exact HK'.out _ _ ⟨_, by first | rfl | simp [upd, *], h.plain 0 _ rfl⟩
        · refine wpOp_step ho (fun K' hK => ?_)
          obtain rfl := (Option.some.inj ho).symm
          have HK' := Aside0.mk hK
          clear hK ho
          rw [if_pos (by rfl)]
          go_simp
          exact HK'.out _ _ ⟨_, by first | rfl | simp [upd, *], h.plain 1 _ rfl⟩
        · refine wpOp_step ho (fun K' hK => ?_)
          obtain rfl := (Option.some.inj ho).symm
          have HK' := Aside0.mk hK
          clear hK ho
          have t_0 := hd 0 (by kernel_rfl)
          have v0 : vs 0 = .agg #[.slice A0 l0.length c0, .slice A1 l1.length c1] := h.a 0 t_0
          have t_1 := hd 1 (by kernel_rfl)
          have v1 : vs 1 = .int .i64 a := h.a 1 t_1
          rw [if_pos (by rfl)]
          have KE := Aside0.mk (ast_Tree.calls A0 c0 l0 A1 c1 l1 a T W (Kd.C_below (Kd.C_drew (Kd.C_below HD.out HB2.out)) h.b) HDc.out (Kd.C_below (Kd.C_drew (Kd.C_below HE.out HB2.out)) h.b) HEc.out HTR.out)
          go_wp2_with (go_at_call 14; refine KE.out.mono ?_; rintro e we ⟨vt, rfl, hrt, hbe⟩)
          obtain ⟨At, ct, rfl⟩ := Kd.R_slice hrt
          exact HK'.out _ _ ⟨_, by first | rfl | simp [upd, *], h.call (fun _ _ _ _ => RT5_keep) hbe 2 _ ⟨At, ct, _, rfl, hrt⟩⟩
        · refine wpOp_step ho (fun K' hK => ?_)
          obtain rfl := (Option.some.inj ho).symm
          have HK' := Aside0.mk hK
          clear hK ho
          rw [if_pos (by rfl)]
          have hk := blk_below (blk_drew HK2.out) h.b
          have z0 : W.cell? ⟨w.heap.size, 0, none⟩ = some (.slice A0 l0.length c0) := (blk_cell hk 0).trans rfl
          have z1 : W.cell? ⟨w.heap.size, 1, none⟩ = some (.slice A1 l1.length c1) := (blk_cell hk 1).trans rfl
          clear hk
          go_simp
          exact HK'.out _ _ ⟨_, by first | rfl | simp [upd, *], h.plain 3 _ rfl⟩
        · refine wpOp_step ho (fun K' hK => ?_)
          obtain rfl := (Option.some.inj ho).symm
          have HK' := Aside0.mk hK
          clear hK ho
          rw [if_pos (by rfl)]
          go_simp
          exact HK'.out _ _ ⟨_, by first | rfl | simp [upd, *], h.plain 4 _ rfl⟩
        · refine wpOp_step ho (fun K' hK => ?_)
          obtain rfl := (Option.some.inj ho).symm
          have HK' := Aside0.mk hK
          clear hK ho
          have t_3 := hd 3 (by kernel_rfl)
          have v3 : vs 3 = .agg #[.slice A0 l0.length c0, .slice A1 l1.length c1] := h.a 3 t_3
          have t_4 := hd 4 (by kernel_rfl)
          have v4 : vs 4 = .int .i64 a := h.a 4 t_4
          rw [if_pos (by rfl)]
          have KE := Aside0.mk (ast_Names.calls A0 c0 l0 A1 c1 l1 a ns W (Kd.C_below (Kd.C_drew (Kd.C_below HD.out HB2.out)) h.b) HDc.out (Kd.C_below (Kd.C_drew (Kd.C_below HE.out HB2.out)) h.b) HEc.out HNR.out)
          go_wp2_with (go_at_call 15; refine KE.out.mono ?_; rintro e we ⟨vt, rfl, hrt, hbe⟩)
          obtain ⟨At, ct, rfl⟩ := Kd.R_slice hrt
          exact HK'.out _ _ ⟨_, by first | rfl | simp [upd, *], h.call (fun _ _ _ _ => RT5_keep) hbe 5 _ ⟨At, ct, _, rfl, hrt⟩⟩
        · refine wpOp_step ho (fun K' hK => ?_)
          obtain rfl := (Option.some.inj ho).symm
          have HK' := Aside0.mk hK
          clear hK ho
          have t_2 := hd 2 (by kernel_rfl)
          obtain ⟨Aq, cq, bq, vq, hrq⟩ := (h.a 2 t_2 : RT5 (.agg #[.slice A0 l0.length c0, .slice A1 l1.length c1]) a T ns 2 (vs 2) W)
          rw [if_pos (by rfl)]
          go_simp
          exact HK'.out _ _ ⟨_, by first | rfl | simp [upd, *], h.plain 6 _ ⟨Aq, cq, bq, rfl, hrq⟩⟩
        · refine wpOp_step ho (fun K' hK => ?_)
          obtain rfl := (Option.some.inj ho).symm
          have HK' := Aside0.mk hK
          clear hK ho
          have t_5 := hd 5 (by kernel_rfl)
          obtain ⟨Aq, cq, bq, vq, hrq⟩ := (h.a 5 t_5 : RT5 (.agg #[.slice A0 l0.length c0, .slice A1 l1.length c1]) a T ns 5 (vs 5) W)
          rw [if_pos (by rfl)]
          go_simp
          exact HK'.out _ _ ⟨_, by first | rfl | simp [upd, *], h.plain 7 _ ⟨Aq, cq, bq, rfl, hrq⟩⟩
      case finR =>
        intro lo vs W hall h
        obtain ⟨At, ct, bt, e6, hrt⟩ := (h.a 6 (hall 6 (by decide)) : RT5 (.agg #[.slice A0 l0.length c0, .slice A1 l1.length c1]) a T ns 6 (vs 6) W)
        obtain ⟨An, cn, bn, e7, hrn⟩ := (h.a 7 (hall 7 (by decide)) : RT5 (.agg #[.slice A0 l0.length c0, .slice A1 l1.length c1]) a T ns 7 (vs 7) W)
        have HBW := Aside0.mk ((below_drew1 (Below.refl _ w2)).trans h.b)
        clear h hall
        go_step
        go_step
        go_meet
        case rel => exact ⟨At, ct, bt, An, cn, bn, e6, e7, ⟨hrt⟩, ⟨hrn⟩, HBW⟩
    case rest =>
      obtain ⟨At, ct, bt, An, cn, bn, rfl, rfl, HRT5, HRN5, HBW⟩ := hcut
      have HBe := Aside0.mk (HB2.out.trans (HBW.out.mono HB2.out.size))
      have HKe := Aside0.mk (blk_below HK2.out HBW.out)
      clear HB2 HK2 HBW
      obtain ⟨mb, hmb⟩ : ∃ b, mayP l0 l1 = b := ⟨_, rfl⟩
      have KM := Aside0.mk (show ∀ V, Below w.heap.size w V → Calls Try.prog 13 #[.agg #[.slice A0 l0.length c0, .slice A1 l1.length c1]] V fun e w' => e = .returned (.bool mb) ∧ Below V.heap.size V w' from fun V hV => astrolabelaw04_May2 V hV HD.out HDc.out HE.out HEc.out (HS.out.may.trans (by rw [hmb])))
      have HMB := Aside0.mk hmb
      clear hmb
      have z0 : wc.cell? ⟨w.heap.size, 0, none⟩ = some (.slice A0 l0.length c0) := (blk_cell HKe.out 0).trans rfl
      have z1 : wc.cell? ⟨w.heap.size, 1, none⟩ = some (.slice A1 l1.length c1) := (blk_cell HKe.out 1).trans rfl
      cases ok with
      | false =>
        have KD := Aside0.mk (show ∀ V, Below w.heap.size w V → Calls Try.prog 16 #[.agg #[.slice A0 l0.length c0, .slice A1 l1.length c1], .int .i64 a] V fun e w' => e = .returned (.int .i64 0) ∧ Below V.heap.size V w' from fun V hV => ast_Deep.calls A0 c0 l0 A1 c1 l1 a 0 V (Kd.C_below HD.out hV) HDc.out (Kd.C_below HE.out hV) HEc.out (by unfold ast_Deep.f; rw [HRT.out]; rfl))
        obtain ⟨nT, hnT⟩ : ∃ n, T.length = n := ⟨_, rfl⟩
        obtain ⟨nN, hnN⟩ : ∃ n, ns.length = n := ⟨_, rfl⟩
        rw [hnT, hnN]
        have hT0 : nT = 0 := by have h := HTE.out; rw [if_neg (by decide)] at h; rw [← hnT, ← h]; rfl
        have hN0 : nN = 0 := by have h := HNE.out; rw [if_neg (by decide)] at h; rw [← hnN, ← h]; rfl
        clear hnT hnN
        subst hT0 hN0
        clear HRT5 HRN5 HTE HNE HTR HNR HRT
        cases mb with
        | false =>
          go_wp2_with (first | (go_at_call 13; refine (KM.out _ HBe.out).mono ?_; rintro e w3 ⟨rfl, hb3⟩; have HB3 := Aside0.mk (HBe.out.trans (hb3.mono HBe.out.size)); have HK3 := Aside0.mk (blk_below HKe.out hb3); have x0 : w3.cell? ⟨w.heap.size, 0, none⟩ = some (.slice A0 l0.length c0) := (blk_cell HK3.out 0).trans rfl; have x1 : w3.cell? ⟨w.heap.size, 1, none⟩ = some (.slice A1 l1.length c1) := (blk_cell HK3.out 1).trans rfl; clear hb3) | (go_at_call 16; refine (KD.out _ HB3.out).mono ?_; rintro e w4 ⟨rfl, hb4⟩; have HB4 := Aside0.mk (HB3.out.trans (hb4.mono HB3.out.size)); clear hb4))
          go_ret
          exact ⟨rfl, HB4.out⟩
        | true =>
          by_cases h0 : a < 0
          · replace h0 := eq_true h0
            go_wp2_with (first | (go_at_call 13; refine (KM.out _ HBe.out).mono ?_; rintro e w3 ⟨rfl, hb3⟩; have HB3 := Aside0.mk (HBe.out.trans (hb3.mono HBe.out.size)); have HK3 := Aside0.mk (blk_below HKe.out hb3); have x0 : w3.cell? ⟨w.heap.size, 0, none⟩ = some (.slice A0 l0.length c0) := (blk_cell HK3.out 0).trans rfl; have x1 : w3.cell? ⟨w.heap.size, 1, none⟩ = some (.slice A1 l1.length c1) := (blk_cell HK3.out 1).trans rfl; clear hb3) | (go_at_call 16; refine (KD.out _ HB3.out).mono ?_; rintro e w4 ⟨rfl, hb4⟩; have HB4 := Aside0.mk (HB3.out.trans (hb4.mono HB3.out.size)); clear hb4))
            go_ret
            exact ⟨rfl, HB4.out⟩
          · by_cases h1 : (l1.length : Int) ≤ a
            · replace h0 := eq_false h0
              replace h1 := eq_true h1
              go_wp2_with (first | (go_at_call 13; refine (KM.out _ HBe.out).mono ?_; rintro e w3 ⟨rfl, hb3⟩; have HB3 := Aside0.mk (HBe.out.trans (hb3.mono HBe.out.size)); have HK3 := Aside0.mk (blk_below HKe.out hb3); have x0 : w3.cell? ⟨w.heap.size, 0, none⟩ = some (.slice A0 l0.length c0) := (blk_cell HK3.out 0).trans rfl; have x1 : w3.cell? ⟨w.heap.size, 1, none⟩ = some (.slice A1 l1.length c1) := (blk_cell HK3.out 1).trans rfl; clear hb3) | (go_at_call 16; refine (KD.out _ HB3.out).mono ?_; rintro e w4 ⟨rfl, hb4⟩; have HB4 := Aside0.mk (HB3.out.trans (hb4.mono HB3.out.size)); clear hb4))
              go_ret
              exact ⟨rfl, HB4.out⟩
            · exfalso
              have h := HOK.out
              unfold okB at h
              rw [HMB.out, decide_eq_true (by omega), decide_eq_true (by omega)] at h
              cases h
      | true =>
        have HA := Aside0.mk (show 0 ≤ a ∧ a < (l1.length : Int) by have h := HOK.out; unfold okB at h; rw [Bool.and_eq_true, Bool.and_eq_true] at h; exact ⟨of_decide_eq_true h.1.1, of_decide_eq_true h.1.2⟩)
        have hmb : mb = true := by have h := HOK.out; unfold okB at h; rw [Bool.and_eq_true] at h; rw [← HMB.out]; exact h.2
        subst hmb
        have HF := Aside0.mk (show Fine l0 l1 from ⟨HS.out, HMB.out⟩)
        have HTT := Aside0.mk (show (Q.treeV l1 a).take 100000 = T from HTE.out)
        have HNN := Aside0.mk (show namesT l1 (Q.treeV l1 a) [] = ns by have h1 : namesP l1 a.toNat = ns := HNE.out; rw [← h1, namesP_eq HF.out.par (e := a.toNat) (by have := HA.out; omega), Int.toNat_of_nonneg HA.out.1])
        clear HTE HNE HOK HMB HTR HNR
        obtain ⟨kT, hkT⟩ := (HF.out.reftree 100000 (Nat.le_refl _) (a.toNat + 1) a [] HA.out.1 (by omega) HA.out.2 (Nat.zero_le _)).rounds
        rw [List.nil_append, List.length_nil, Nat.sub_zero, show (treeAll (a.toNat + 1) l1 a).take 100000 = T from HTT.out] at hkT
        have KU := Aside0.mk (show ∀ V, Below w.heap.size w V → Calls Try.prog 17 #[.agg #[.slice A0 l0.length c0, .slice A1 l1.length c1], .int .i64 a, .slice none 0 0, .int .i64 100000] V fun e w' => ∃ v0_ : Value, e = .returned (v0_) ∧ Kd.R (Kd.int .i64) 3 w' V.heap.size (fun _ => True) v0_ T ∧ Below V.heap.size V w' from fun V hV => (astrolaberef04_Tree.calls kT A0 c0 l0 A1 c1 l1 a (fun k_ => some k_ = (.slice none 0 0 : Value).ownBlock) (.slice none 0 0) ([] : List Int) (100000 : Nat) T V V (Below.refl _ _) (Kd.C_kept_came k45_heap HD.out hV (fun k_ hs_ => (fun e_ => by simp [Value.ownBlock] at e_) hs_)) HDc.out (Kd.C_kept_came k31_heap HE.out hV (fun k_ hs_ => (fun e_ => by simp [Value.ownBlock] at e_) hs_)) HEc.out (Kd.R_nil _ _ _ _ _) hkT).mono (fun e w' ⟨v, h1, h2, h3, _⟩ => ⟨v, h1, Kd.R_mono (ok' := fun _ => True) h2 (fun _ _ => trivial), h3⟩))
        clear hkT
        have h0 := eq_false (show ¬ a < 0 by have := HA.out; omega)
        have h1 := eq_false (show ¬ (l1.length : Int) ≤ a by have := HA.out; omega)
        go_upto_region 8 with (first | (go_at_call 13; refine (KM.out _ HBe.out).mono ?_; rintro e w3 ⟨rfl, hb3⟩; have HB3 := Aside0.mk (HBe.out.trans (hb3.mono HBe.out.size)); have HK3 := Aside0.mk (blk_below HKe.out hb3); have HRT3 := Aside0.mk (Kd.R_below HRT5.out hb3); have HRN3 := Aside0.mk (Kd.R_below HRN5.out hb3); have x0 : w3.cell? ⟨w.heap.size, 0, none⟩ = some (.slice A0 l0.length c0) := (blk_cell HK3.out 0).trans rfl; have x1 : w3.cell? ⟨w.heap.size, 1, none⟩ = some (.slice A1 l1.length c1) := (blk_cell HK3.out 1).trans rfl; clear hb3))
        clear KM z0 z1 h0 h1 HKe HBe
        go_upto_region 9 with (first | (go_at_call 17; refine (KU.out _ HB3.out).mono ?_; rintro e w4 ⟨vu, rfl, hru, hb4⟩; obtain ⟨Au, cu, rfl⟩ := Kd.R_slice hru; have HRU4 := Aside0.mk hru; have HB4 := Aside0.mk (HB3.out.trans (hb4.mono HB3.out.size)); have HK4 := Aside0.mk (blk_below HK3.out hb4); have HRT4 := Aside0.mk (Kd.R_below HRT3.out hb4); have HRN4 := Aside0.mk (Kd.R_below HRN3.out hb4); clear hru hb4 HB3 HK3 HRT3 HRN3))
        clear KU x0 x1
        obtain ⟨kR, hkR⟩ := HF.out.refdeep_f.rounds
        have HKR := Aside0.mk hkR
        clear hkR
        go_cut [54, 55, 56, 57, 58, 59, 60, 61, 62, 63, 64, 65, 66, 67, 68, 69] (fun _ _ _ _ _ _ _ _ _ _ _ _ _ _ _ v69 we => v69 = .bool false ∧ Aside0 (Below w4.heap.size w4 we))
        case first =>
          refine wp_region_inv (by kernel_rfl) (by kernel_rfl) (fun vs => { tmps := List.toArray ((Value.agg #[Value.slice A0 l0.length c0, Value.slice A1 l1.length c1]) :: (Value.int IntKind.i64 a) :: (Value.pointer (some { block := w.heap.size, off := 0 })) :: (undef) :: (Value.bool false) :: (Value.slice At T.length ct) :: (Value.slice An ns.length cn) :: (Value.slice Au T.length cu) :: (undef) :: (undef) :: (undef) :: (undef) :: (undef) :: (u13) :: (u14) :: (u15) :: (u16) :: (u17) :: (u18) :: (u19) :: (u20) :: (u21) :: (u22) :: (Value.agg #[Value.slice A0 l0.length c0, Value.slice A1 l1.length c1]) :: (Value.bool true) :: (Value.bool false) :: (Value.bool false) :: (Value.int IntKind.i64 a) :: (Value.bool false) :: (Value.bool false) :: (Value.bool false) :: (Value.int IntKind.i64 a) :: (Value.pointer (some { block := w.heap.size, off := 1 })) :: (Value.slice A1 l1.length c1) :: (Value.int IntKind.i64 ↑l1.length) :: (Value.bool false) :: (Value.bool false) :: (u37) :: (u38) :: (u39) :: (u40) :: (u41) :: (u42) :: (u43) :: (u44) :: (u45) :: (u46) :: (u47) :: (u48) :: (u49) :: (u50) :: (Value.agg #[Value.slice A0 l0.length c0, Value.slice A1 l1.length c1]) :: (Value.int IntKind.i64 a) :: (Value.slice Au T.length cu) :: (vs 0) :: (vs 1) :: (vs 2) :: (vs 3) :: (vs 4) :: (vs 5) :: (vs 6) :: (vs 7) :: (vs 8) :: (vs 9) :: (vs 10) :: (vs 11) :: (vs 12) :: (vs 13) :: (vs 14) :: (vs 15) :: (u70) :: (u71) :: (u72) :: (u73) :: (u74) :: (u75) :: (u76) :: (u77) :: (u78) :: (u79) :: (u80) :: (u81) :: (u82) :: (u83) :: (u84) :: (u85) :: (u86) :: (u87) :: (u88) :: (u89) :: (u90) :: (u91) :: (u92) :: (u93) :: (u94) :: (u95) :: (u96) :: (u97) :: (u98) :: (u99) :: (u100) :: (u101) :: (u102) :: (u103) :: (u104) :: (u105) :: (u106) :: (u107) :: (u108) :: (u109) :: (u110) :: (u111) :: (u112) :: (u113) :: (u114) :: (u115) :: (u116) :: (u117) :: (u118) :: (u119) :: (u120) :: (u121) :: (u122) :: (u123) :: (u124) :: (u125) :: (u126) :: (u127) :: (u128) :: (u129) :: (u130) :: (u131) :: (u132) :: (u133) :: (u134) :: (u135) :: []), defers := [] }) (fun l vs W => IV w4.drew (RT9 (.agg #[.slice A0 l0.length c0, .slice A1 l1.length c1]) a (Q.deepV l1 a) T.length At ct Au cu (deepL l1 l1.length)) l vs W) ?stepR ?finR (fun io => match io with | 0 => u54 | 1 => u55 | 2 => u56 | 3 => u57 | 4 => u58 | 5 => u59 | 6 => u60 | 7 => u61 | 8 => u62 | 9 => u63 | 10 => u64 | 11 => u65 | 12 => u66 | 13 => u67 | 14 => u68 | 15 => u69 | _ => undef) rfl ?startR
          case startR => exact ⟨Below.refl _ _, nofun⟩
          case stepR =>
            intro io oo ho lo vs W h hl hd hcl
            have hi : io < 16 := (Array.getElem?_eq_some_iff.1 ho).1
            rcases (by omega : io = 0 ∨ io = 1 ∨ io = 2 ∨ io = 3 ∨ io = 4 ∨ io = 5 ∨ io = 6 ∨ io = 7 ∨ io = 8 ∨ io = 9 ∨ io = 10 ∨ io = 11 ∨ io = 12 ∨ io = 13 ∨ io = 14 ∨ io = 15) with rfl | rfl | rfl | rfl | rfl | rfl | rfl | rfl | rfl | rfl | rfl | rfl | rfl | rfl | rfl | rfl
            · refine wpOp_step ho (fun K' hK => ?_)
              obtain rfl := (Option.some.inj ho).symm
              have HK' := Aside0.mk hK
              clear hK ho
              rw [if_pos (by rfl)]
              go_simp
              exact HK'.out _ _ ⟨_, by first | rfl | simp [upd, *], h.plain 0 _ rfl⟩
            · refine wpOp_step ho (fun K' hK => ?_)
              obtain rfl := (Option.some.inj ho).symm
              have HK' := Aside0.mk hK
              clear hK ho
              have t_0 := hd 0 (by kernel_rfl)
              have v0 : vs 0 = .slice At T.length ct := h.a 0 t_0
              rw [if_pos (by rfl)]
              go_simp
              exact HK'.out _ _ ⟨_, by first | rfl | simp [upd, *], h.plain 1 _ rfl⟩
            · refine wpOp_step ho (fun K' hK => ?_)
              obtain rfl := (Option.some.inj ho).symm
              have HK' := Aside0.mk hK
              clear hK ho
              rw [if_pos (by rfl)]
              go_simp
              exact HK'.out _ _ ⟨_, by first | rfl | simp [upd, *], h.plain 2 _ rfl⟩
            · refine wpOp_step ho (fun K' hK => ?_)
              obtain rfl := (Option.some.inj ho).symm
              have HK' := Aside0.mk hK
              clear hK ho
              have t_2 := hd 2 (by kernel_rfl)
              have v2 : vs 2 = .slice Au T.length cu := h.a 2 t_2
              rw [if_pos (by rfl)]
              go_simp
              exact HK'.out _ _ ⟨_, by first | rfl | simp [upd, *], h.plain 3 _ rfl⟩
            · refine wpOp_step ho (fun K' hK => ?_)
              obtain rfl := (Option.some.inj ho).symm
              have HK' := Aside0.mk hK
              clear hK ho
              have t_1 := hd 1 (by kernel_rfl)
              have v1 : vs 1 = .int .i64 (T.length : Int) := h.a 1 t_1
              have t_3 := hd 3 (by kernel_rfl)
              have v3 : vs 3 = .int .i64 (T.length : Int) := h.a 3 t_3
              rw [if_pos (by rfl)]
              go_simp
              exact HK'.out _ _ ⟨_, by first | rfl | simp [upd, *], h.plain 4 _ rfl⟩
            · refine wpOp_step ho (fun K' hK => ?_)
              obtain rfl := (Option.some.inj ho).symm
              have HK' := Aside0.mk hK
              clear hK ho
              have t_4 := hd 4 (by kernel_rfl)
              have v4 : vs 4 = .bool false := h.a 4 t_4
              rw [if_pos (by rfl)]
              go_simp
              exact HK'.out _ _ ⟨_, by first | rfl | simp [upd, *], h.plain 5 _ rfl⟩
            · refine wpOp_step ho (fun K' hK => ?_)
              obtain rfl := (Option.some.inj ho).symm
              have HK' := Aside0.mk hK
              clear hK ho
              have t_5 := hd 5 (by kernel_rfl)
              have v5 : vs 5 = .bool false := h.a 5 t_5
              rw [if_pos (by rw [wanted_of rfl (x := 59) (by kernel_rfl) ((rfl : _ = some (vs 5)).trans (congrArg some v5))]; decide)]
              have hk := blk_below (blk_drew HK4.out) h.b
              have z0 : W.cell? ⟨w.heap.size, 0, none⟩ = some (.slice A0 l0.length c0) := (blk_cell hk 0).trans rfl
              have z1 : W.cell? ⟨w.heap.size, 1, none⟩ = some (.slice A1 l1.length c1) := (blk_cell hk 1).trans rfl
              clear hk
              go_simp
              exact HK'.out _ _ ⟨_, by first | rfl | simp [upd, *], h.plain 6 _ rfl⟩
            · refine wpOp_step ho (fun K' hK => ?_)
              obtain rfl := (Option.some.inj ho).symm
              have HK' := Aside0.mk hK
              clear hK ho
              have t_5 := hd 5 (by kernel_rfl)
              have v5 : vs 5 = .bool false := h.a 5 t_5
              rw [if_pos (by rw [wanted_of rfl (x := 59) (by kernel_rfl) ((rfl : _ = some (vs 5)).trans (congrArg some v5))]; decide)]
              go_simp
              exact HK'.out _ _ ⟨_, by first | rfl | simp [upd, *], h.plain 7 _ rfl⟩
            · refine wpOp_step ho (fun K' hK => ?_)
              obtain rfl := (Option.some.inj ho).symm
              have HK' := Aside0.mk hK
              clear hK ho
              have t_6 := hd 6 (by kernel_rfl)
              have v6 : vs 6 = .agg #[.slice A0 l0.length c0, .slice A1 l1.length c1] := h.a 6 t_6
              have t_7 := hd 7 (by kernel_rfl)
              have v7 : vs 7 = .int .i64 a := h.a 7 t_7
              have t_5 := hd 5 (by kernel_rfl)
              have v5 : vs 5 = .bool false := h.a 5 t_5
              rw [if_pos (by rw [wanted_of rfl (x := 59) (by kernel_rfl) ((rfl : _ = some (vs 5)).trans (congrArg some v5))]; decide)]
              have KE := Aside0.mk (ast_Deep.calls A0 c0 l0 A1 c1 l1 a (Q.deepV l1 a) W (Kd.C_below (Kd.C_drew (Kd.C_below HD.out HB4.out)) h.b) HDc.out (Kd.C_below (Kd.C_drew (Kd.C_below HE.out HB4.out)) h.b) HEc.out (HF.out.deep HA.out.1 HA.out.2))
              go_wp2_with (go_at_call 16; refine KE.out.mono ?_; rintro e we ⟨rfl, hbe⟩)
              exact HK'.out _ _ ⟨_, by first | rfl | simp [upd, *], h.call (fun _ _ _ _ => RT9_keep) hbe 8 _ rfl⟩
            · refine wpOp_step ho (fun K' hK => ?_)
              obtain rfl := (Option.some.inj ho).symm
              have HK' := Aside0.mk hK
              clear hK ho
              have t_5 := hd 5 (by kernel_rfl)
              have v5 : vs 5 = .bool false := h.a 5 t_5
              rw [if_pos (by rw [wanted_of rfl (x := 59) (by kernel_rfl) ((rfl : _ = some (vs 5)).trans (congrArg some v5))]; decide)]
              have hk := blk_below (blk_drew HK4.out) h.b
              have z0 : W.cell? ⟨w.heap.size, 0, none⟩ = some (.slice A0 l0.length c0) := (blk_cell hk 0).trans rfl
              have z1 : W.cell? ⟨w.heap.size, 1, none⟩ = some (.slice A1 l1.length c1) := (blk_cell hk 1).trans rfl
              clear hk
              go_simp
              exact HK'.out _ _ ⟨_, by first | rfl | simp [upd, *], h.plain 9 _ rfl⟩
            · refine wpOp_step ho (fun K' hK => ?_)
              obtain rfl := (Option.some.inj ho).symm
              have HK' := Aside0.mk hK
              clear hK ho
              have t_9 := hd 9 (by kernel_rfl)
              have v9 : vs 9 = .agg #[.slice A0 l0.length c0, .slice A1 l1.length c1] := h.a 9 t_9
              have t_5 := hd 5 (by kernel_rfl)
              have v5 : vs 5 = .bool false := h.a 5 t_5
              rw [if_pos (by rw [wanted_of rfl (x := 59) (by kernel_rfl) ((rfl : _ = some (vs 5)).trans (congrArg some v5))]; decide)]
              have KE := Aside0.mk (astrolaberef04_Deep.calls kR A0 c0 l0 A1 c1 l1 (deepL l1 l1.length) W (Kd.C_below (Kd.C_drew (Kd.C_below HD.out HB4.out)) h.b) HDc.out (Kd.C_below (Kd.C_drew (Kd.C_below HE.out HB4.out)) h.b) HEc.out HKR.out)
              go_wp2_with (go_at_call 18; refine KE.out.mono ?_; rintro e we ⟨vt, rfl, hrt, hbe⟩)
              obtain ⟨Ad, cd, rfl⟩ := Kd.R_slice hrt
              exact HK'.out _ _ ⟨_, by first | rfl | simp [upd, *], h.call (fun _ _ _ _ => RT9_keep) hbe 10 _ ⟨Ad, cd, _, rfl, hrt⟩⟩
            · refine wpOp_step ho (fun K' hK => ?_)
              obtain rfl := (Option.some.inj ho).symm
              have HK' := Aside0.mk hK
              clear hK ho
              have t_5 := hd 5 (by kernel_rfl)
              have v5 : vs 5 = .bool false := h.a 5 t_5
              rw [if_pos (by rw [wanted_of rfl (x := 59) (by kernel_rfl) ((rfl : _ = some (vs 5)).trans (congrArg some v5))]; decide)]
              go_simp
              exact HK'.out _ _ ⟨_, by first | rfl | simp [upd, *], h.plain 11 _ rfl⟩
            · refine wpOp_step ho (fun K' hK => ?_)
              obtain rfl := (Option.some.inj ho).symm
              have HK' := Aside0.mk hK
              clear hK ho
              have t_10 := hd 10 (by kernel_rfl)
              obtain ⟨Aq, cq, bq, v10, hrq⟩ := (h.a 10 t_10 : RT9 (.agg #[.slice A0 l0.length c0, .slice A1 l1.length c1]) a (Q.deepV l1 a) T.length At ct Au cu (deepL l1 l1.length) 10 (vs 10) W)
              have t_11 := hd 11 (by kernel_rfl)
              have v11 : vs 11 = .int .i64 a := h.a 11 t_11
              have t_5 := hd 5 (by kernel_rfl)
              have v5 : vs 5 = .bool false := h.a 5 t_5
              rw [if_pos (by rw [wanted_of rfl (x := 59) (by kernel_rfl) ((rfl : _ = some (vs 5)).trans (congrArg some v5))]; decide)]
              have hDl := deepL_length l1 l1.length
              obtain ⟨gq, cq', eq, _⟩ := Kd.R_form hrq (by have := HA.out; omega)
              cases eq
              obtain ⟨q1, q2⟩ := Kd.R_celln 0 hrq a HA.out.1 (by have := HA.out; omega)
              have hrd : rdOf (0 : Int) (deepL l1 l1.length) a = Q.deepV l1 a := deepL_get (by have := HA.out; omega)
              rw [hrd] at q1
              have p0 := eq_true HA.out.1
              have p1 := eq_true (show a < ((deepL l1 l1.length).length : Int) by have := HA.out; omega)
              clear hDl hrd
              go_simp
              exact HK'.out _ _ ⟨_, by first | rfl | simp [upd, *], h.plain 12 _ ⟨_, rfl, q1⟩⟩
            · refine wpOp_step ho (fun K' hK => ?_)
              obtain rfl := (Option.some.inj ho).symm
              have HK' := Aside0.mk hK
              clear hK ho
              have t_12 := hd 12 (by kernel_rfl)
              obtain ⟨pq, v12, hcq⟩ := (h.a 12 t_12 : RT9 (.agg #[.slice A0 l0.length c0, .slice A1 l1.length c1]) a (Q.deepV l1 a) T.length At ct Au cu (deepL l1 l1.length) 12 (vs 12) W)
              have t_5 := hd 5 (by kernel_rfl)
              have v5 : vs 5 = .bool false := h.a 5 t_5
              rw [if_pos (by rw [wanted_of rfl (x := 59) (by kernel_rfl) ((rfl : _ = some (vs 5)).trans (congrArg some v5))]; decide)]
              go_simp
              exact HK'.out _ _ ⟨_, by first | rfl | simp [upd, *], h.plain 13 _ rfl⟩
            · refine wpOp_step ho (fun K' hK => ?_)
              obtain rfl := (Option.some.inj ho).symm
              have HK' := Aside0.mk hK
              clear hK ho
              have t_8 := hd 8 (by kernel_rfl)
              have v8 : vs 8 = .int .i64 (Q.deepV l1 a) := h.a 8 t_8
              have t_13 := hd 13 (by kernel_rfl)
              have v13 : vs 13 = .int .i64 (Q.deepV l1 a) := h.a 13 t_13
              have t_5 := hd 5 (by kernel_rfl)
              have v5 : vs 5 = .bool false := h.a 5 t_5
              rw [if_pos (by rw [wanted_of rfl (x := 59) (by kernel_rfl) ((rfl : _ = some (vs 5)).trans (congrArg some v5))]; decide)]
              go_simp
              exact HK'.out _ _ ⟨_, by first | rfl | simp [upd, *], h.plain 14 _ rfl⟩
            · refine wpOp_step ho (fun K' hK => ?_)
              obtain rfl := (Option.some.inj ho).symm
              have HK' := Aside0.mk hK
              clear hK ho
              have t_5 := hd 5 (by kernel_rfl)
              have v5 : vs 5 = .bool false := h.a 5 t_5
              have t_14 := hd 14 (by kernel_rfl)
              have v14 : vs 14 = .bool false := h.a 14 t_14
              rw [if_pos (by rfl)]
              go_simp
              exact HK'.out _ _ ⟨_, by first | rfl | simp [upd, *], h.plain 15 _ rfl⟩
          case finR =>
            intro lo vs W hall h
            have e15 : vs 15 = .bool false := h.a 15 (hall 15 (by decide))
            have HBW := Aside0.mk ((below_drew1 (Below.refl _ w4)).trans h.b)
            clear h hall
            go_step
            go_step
            go_meet
            case rel => exact ⟨e15, HBW⟩
        case rest =>
          obtain ⟨rfl, HBW⟩ := hcut
          go_step
          go_upto_region 11 with (fail)
          go_wp2
          have HRTc := Aside0.mk (Kd.R_below HRT4.out HBW.out)
          have HRUc := Aside0.mk (Kd.R_below HRU4.out HBW.out)
          have HRNc := Aside0.mk (Kd.R_below HRN4.out HBW.out)
          have HBc := Aside0.mk (HB4.out.trans (HBW.out.mono HB4.out.size))
          have HKc := Aside0.mk (blk_below HK4.out HBW.out)
          clear HRT4 HRU4 HRN4 HB4 HK4 HBW HKR
          have HTM := Aside0.mk (show ∀ y ∈ T, 0 ≤ y ∧ y ≤ a by rw [← HTT.out]; intro y hy; exact tree_mem HF.out HA.out.1 HA.out.2 y (List.mem_of_mem_take hy))
          have HTL := Aside0.mk (show T.length ≤ 100000 by rw [← HTT.out, List.length_take]; exact Nat.min_le_left _ _)
          have HPRE := Aside0.mk (show ∀ i, namesT l1 (T.take i) [] <+: ns by
            intro i
            have e : Q.treeV l1 a = T.take i ++ (T.drop i ++ (Q.treeV l1 a).drop 100000) := by rw [← List.append_assoc, List.take_append_drop, ← HTT.out, List.take_append_drop]
            rw [← HNN.out, e, namesT_append]
            exact namesT_pre l1 _ _)
          go_loopw [8, 9] (fun v8 v9 wr => ∃ i : Nat, v9 = .int .i64 (i : Int) ∧ v8 = .int .i64 ((namesT l1 (T.take i) []).length : Int) ∧ i ≤ T.length ∧ Aside0 (Kd.R Kd.string 9 wr bn (fun _ => True) (.slice An ns.length cn) ns) ∧ Aside0 (Kd.R (Kd.int .i64) 3 wr bt (fun _ => True) (.slice At T.length ct) T) ∧ Aside0 (Kd.R (Kd.int .i64) 3 wr w3.heap.size (fun _ => True) (.slice Au T.length cu) T) ∧ Aside0 (Below w.heap.size w wr) ∧ Aside0 (wr.heap[w.heap.size]? = some (Obj.cells #[.slice A0 l0.length c0, .slice A1 l1.length c1] 25 (0, 0)))) (fun _ v9 _ => T.length - (intOf v9).toNat)
          case atStart => exact ⟨0, rfl, rfl, Nat.zero_le _, HRNc, HRTc, HRUc, HBc, HKc⟩
          case round =>
            clear HRNc HRTc HRUc HBc HKc
            obtain ⟨i, rfl, rfl, hi, HRN, HRT, HRU, HBr, HKr⟩ := hrel
            by_cases hlt : i < T.length
            · have hT9 : T.take (i + 1) = T.take i ++ [T[i]] := by rw [List.take_succ_eq_append_getElem hlt]
              obtain ⟨g9, c9, e9, _⟩ := Kd.R_form HRT.out (by omega)
              cases e9
              obtain ⟨gu, cu9, eu, _⟩ := Kd.R_form HRU.out (by omega)
              cases eu
              obtain ⟨q1, q2⟩ := Kd.R_celln 0 HRT.out (i : Int) (by omega) (by omega)
              obtain ⟨r1, r2⟩ := Kd.R_celln 0 HRU.out (i : Int) (by omega) (by omega)
              have hrd : rdOf (0 : Int) T (i : Int) = T[i] := by
                unfold rdOf
                simp [List.getD_eq_getElem?_getD, List.getElem?_eq_getElem hlt]
              rw [hrd, Int.toNat_natCast] at q1 r1
              rw [Int.toNat_natCast] at q2 r2
              have hm := HTM.out T[i] (List.getElem_mem hlt)
              obtain ⟨x, hx⟩ : ∃ x : Nat, T[i] = (x : Int) := ⟨T[i].toNat, by omega⟩
              rw [hx] at q1 r1 hT9 hm
              have HT9 := Aside0.mk hT9
              have HI := Aside0.mk hlt
              have HX := Aside0.mk (show x < l1.length by have := HA.out; omega)
              have p0 := eq_true (show (0 : Int) ≤ (i : Int) by omega)
              have p1 := eq_true (show (i : Int) < (T.length : Int) by omega)
              clear hT9 hrd hx hm hlt hi
              go_upto_region 15 with (fail)
              go_quiet (fail)
              go_upto_region 17 with (fail)
              obtain ⟨wq, hwq⟩ : ∃ W, W = wr.drewN nq := ⟨_, rfl⟩
              have HRNq := Aside0.mk (show Kd.R Kd.string 9 wq bn (fun _ => True) (.slice An ns.length cn) ns by rw [hwq]; exact Kd.R_drewN HRN.out _)
              have HRTq := Aside0.mk (show Kd.R (Kd.int .i64) 3 wq bt (fun _ => True) (.slice (some ⟨g9, 0, none⟩) T.length ct) T by rw [hwq]; exact Kd.R_drewN HRT.out _)
              have HRUq := Aside0.mk (show Kd.R (Kd.int .i64) 3 wq w3.heap.size (fun _ => True) (.slice (some ⟨gu, 0, none⟩) T.length cu) T by rw [hwq]; exact Kd.R_drewN HRU.out _)
              have HBq := Aside0.mk (show Below w.heap.size w wq by rw [hwq]; exact pw_below_drewN HBr.out _)
              have HKq := Aside0.mk (show wq.heap[w.heap.size]? = some (Obj.cells #[.slice A0 l0.length c0, .slice A1 l1.length c1] 25 (0, 0)) by rw [hwq]; exact blk_drewN HKr.out _)
              have r1q : wq.cell? ⟨gu, i, none⟩ = some (.int .i64 (x : Int)) := by rw [hwq]; exact r1
              rw [← hwq]
              clear hwq q1 q2 r1 r2 HRN HRT HRU HBr HKr
              obtain ⟨ad, A7, c7, ea, hx0, hx1, hx2, hx3, hx4, hx5, hx6, hx7, hx8, hl7, hi7⟩ := at_T31 (Kd.C_below HE.out HBq.out) (x : Int) (by omega) (by have := HX.out; omega)
              cases ea
              rw [Int.toNat_natCast] at hx0 hx1 hx2 hx3 hx4 hx5 hx6 hx7 hx8
              have z1 : wq.cell? ⟨w.heap.size, 1, none⟩ = some (.slice (some ad) l1.length c1) := (blk_cell HKq.out 1).trans rfl
              have p2 := eq_true (show (0 : Int) ≤ (x : Int) by omega)
              have p3 := eq_true (show (x : Int) < (l1.length : Int) by have := HX.out; omega)
              have z1o := fun (o : Obj) => (World.cell?_alloc_lt wq o _ (World.block_lt_of_cell? _ _ z1)).trans z1
              have r1o := fun (o : Obj) => (World.cell?_alloc_lt wq o _ (World.block_lt_of_cell? _ _ r1q)).trans r1q
              have hx0o := fun (o : Obj) => (World.cell?_alloc_lt wq o _ (World.block_lt_of_cell? _ _ hx0)).trans hx0
              have hx1o := fun (o : Obj) => (World.cell?_alloc_lt wq o _ (World.block_lt_of_cell? _ _ hx1)).trans hx1
              have hx2o := fun (o : Obj) => (World.cell?_alloc_lt wq o _ (World.block_lt_of_cell? _ _ hx2)).trans hx2
              have hx3o := fun (o : Obj) => (World.cell?_alloc_lt wq o _ (World.block_lt_of_cell? _ _ hx3)).trans hx3
              have hx4o := fun (o : Obj) => (World.cell?_alloc_lt wq o _ (World.block_lt_of_cell? _ _ hx4)).trans hx4
              have hx5o := fun (o : Obj) => (World.cell?_alloc_lt wq o _ (World.block_lt_of_cell? _ _ hx5)).trans hx5
              have hx6o := fun (o : Obj) => (World.cell?_alloc_lt wq o _ (World.block_lt_of_cell? _ _ hx6)).trans hx6
              have hx7o := fun (o : Obj) => (World.cell?_alloc_lt wq o _ (World.block_lt_of_cell? _ _ hx7)).trans hx7
              have hx8o := fun (o : Obj) => (World.cell?_alloc_lt wq o _ (World.block_lt_of_cell? _ _ hx8)).trans hx8
              clear hl7 hi7
              go_region
              obtain ⟨V, hV⟩ : ∃ V, V = (wq.alloc (Obj.cells #[.int .i64 (rd_T31 l1 (x : Int)).f0, .int .i64 (rd_T31 l1 (x : Int)).f1, .int .i64 (rd_T31 l1 (x : Int)).f2, .int .i64 (rd_T31 l1 (x : Int)).f3, .string (rd_T31 l1 (x : Int)).f4, .string (rd_T31 l1 (x : Int)).f5, .int .i64 (rd_T31 l1 (x : Int)).f6, .slice A7 (rd_T31 l1 (x : Int)).f7.length c7, .int .i64 (rd_T31 l1 (x : Int)).f8] 31)).drew := ⟨_, rfl⟩
              have hbV : Below wq.heap.size wq V := by rw [hV]; exact below_drew1 ((Below.refl _ _).alloc (Nat.le_refl _) _)
              have HKX := Aside0.mk (show V.heap[wq.heap.size]? = some (Obj.cells #[.int .i64 (rd_T31 l1 (x : Int)).f0, .int .i64 (rd_T31 l1 (x : Int)).f1, .int .i64 (rd_T31 l1 (x : Int)).f2, .int .i64 (rd_T31 l1 (x : Int)).f3, .string (rd_T31 l1 (x : Int)).f4, .string (rd_T31 l1 (x : Int)).f5, .int .i64 (rd_T31 l1 (x : Int)).f6, .slice A7 (rd_T31 l1 (x : Int)).f7.length c7, .int .i64 (rd_T31 l1 (x : Int)).f8] 31 (0, 0)) by rw [hV]; exact blk_drew (blk_new _ _))
              rw [← hV]
              have HRN2 := Aside0.mk (Kd.R_below HRNq.out hbV)
              have HRT2 := Aside0.mk (Kd.R_below HRTq.out hbV)
              have HRU2 := Aside0.mk (Kd.R_below HRUq.out hbV)
              have HB2 := Aside0.mk (HBq.out.trans (hbV.mono HBq.out.size))
              have HK2 := Aside0.mk (blk_below HKq.out hbV)
              obtain ⟨g, hg⟩ : ∃ g, g = wq.heap.size := ⟨_, rfl⟩
              rw [← hg] at HKX ⊢
              clear hV hbV hg HRNq HRTq HRUq HBq HKq z1 hx0 hx1 hx2 hx3 hx4 hx5 hx6 hx7 hx8 z1o r1o r1q hx0o hx1o hx2o hx3o hx4o hx5o hx6o hx7o hx8o p0 p1 p2 p3
              have zx : V.cell? ⟨g, 0, none⟩ = some (.int .i64 (rd_T31 l1 (x : Int)).f0) := (blk_cell HKX.out 0).trans rfl
              go_step
              go_upto_region 19 with (fail)
              go_wp2
              clear zx
              obtain ⟨m, hm⟩ : ∃ m, (namesT l1 (T.take i) []).length = m := ⟨_, rfl⟩
              rw [hm]
              have HM := Aside0.mk hm
              have HMN := Aside0.mk (show m ≤ ns.length by rw [← hm]; exact (HPRE.out i).length_le)
              have HNT := Aside0.mk (show m ≤ 100000 by rw [← hm]; exact Nat.le_trans (names_le l1 (T.take i) []) (by rw [List.length_take, List.length_nil, Nat.zero_add]; exact Nat.le_trans (Nat.min_le_right _ _) HTL.out))
              clear hm
              have HNX := Aside0.mk (show namesT l1 (T.take (i + 1)) [] = if knT l1 x (namesT l1 (T.take i) []) = true then namesT l1 (T.take i) [] else namesT l1 (T.take i) [] ++ [(rd_T31 l1 (x : Int)).f4] by rw [HT9.out, namesT_append]; exact addN_kn l1 x _)
              have HTK := Aside0.mk (show ns.take m = namesT l1 (T.take i) [] by rw [← HM.out]; exact pre_take (HPRE.out i))
              go_loopw [11, 12] (fun v11 v12 wr2 => ∃ k : Nat, v12 = .int .i64 (k : Int) ∧ v11 = .bool (knT l1 x (ns.take k)) ∧ k ≤ m ∧ Aside0 (Kd.R Kd.string 9 wr2 bn (fun _ => True) (.slice An ns.length cn) ns) ∧ Aside0 (Kd.R (Kd.int .i64) 3 wr2 bt (fun _ => True) (.slice (some ⟨g9, 0, none⟩) T.length ct) T) ∧ Aside0 (Kd.R (Kd.int .i64) 3 wr2 w3.heap.size (fun _ => True) (.slice (some ⟨gu, 0, none⟩) T.length cu) T) ∧ Aside0 (Below w.heap.size w wr2) ∧ Aside0 (wr2.heap[w.heap.size]? = some (Obj.cells #[.slice A0 l0.length c0, .slice (some ad) l1.length c1] 25 (0, 0))) ∧ Aside0 (wr2.heap[g]? = some (Obj.cells #[.int .i64 (rd_T31 l1 (x : Int)).f0, .int .i64 (rd_T31 l1 (x : Int)).f1, .int .i64 (rd_T31 l1 (x : Int)).f2, .int .i64 (rd_T31 l1 (x : Int)).f3, .string (rd_T31 l1 (x : Int)).f4, .string (rd_T31 l1 (x : Int)).f5, .int .i64 (rd_T31 l1 (x : Int)).f6, .slice A7 (rd_T31 l1 (x : Int)).f7.length c7, .int .i64 (rd_T31 l1 (x : Int)).f8] 31 (0, 0)))) (fun _ v12 _ => m - (intOf v12).toNat)
              case atStart => exact ⟨0, rfl, by unfold knT; rw [List.take_zero, List.any_nil, Bool.or_false], Nat.zero_le _, HRN2, HRT2, HRU2, HB2, HK2, HKX⟩
              case round =>
                clear HRN2 HRT2 HRU2 HB2 HK2 HKX
                obtain ⟨k, rfl, rfl, hk, HRN, HRT, HRU, HBr, HKr, HKX⟩ := hrel
                by_cases hlt : k < m
                · have hkn : k < ns.length := by have := HMN.out; omega
                  have hk9 : ns.take (k + 1) = ns.take k ++ [ns[k]] := by rw [List.take_succ_eq_append_getElem hkn]
                  obtain ⟨ga, ca, ea, _⟩ := Kd.R_form HRN.out (by omega)
                  cases ea
                  obtain ⟨q1, q2⟩ := Kd.R_celln ByteArray.empty HRN.out (k : Int) (by omega) (by omega)
                  have hrd : rdOf ByteArray.empty ns (k : Int) = ns[k] := by
                    unfold rdOf
                    simp [List.getD_eq_getElem?_getD, List.getElem?_eq_getElem hkn]
                  rw [hrd, Int.toNat_natCast] at q1
                  rw [Int.toNat_natCast] at q2
                  obtain ⟨nk, hnk⟩ : ∃ s, ns[k] = s := ⟨_, rfl⟩
                  rw [hnk] at q1 hk9
                  have HKN := Aside0.mk (show knT l1 x (ns.take (k + 1)) = (knT l1 x (ns.take k) || (nk.toList == (rd_T31 l1 (x : Int)).f4.toList)) by unfold knT; rw [hk9, List.any_append, Bool.or_assoc]; simp)
                  have zn : wr.cell? ⟨g, 4, none⟩ = some (.string (rd_T31 l1 (x : Int)).f4) := (blk_cell HKX.out 4).trans rfl
                  have p0 := eq_true (show (0 : Int) ≤ (k : Int) by omega)
                  have p1 := eq_true (show (k : Int) < (ns.length : Int) by omega)
                  have HKI := Aside0.mk hlt
                  obtain ⟨b, hb⟩ : ∃ b, knT l1 x (ns.take k) = b := ⟨_, rfl⟩
                  rw [hb] at HKN ⊢
                  clear hk9 hrd hnk hb hk hkn
                  have hlt' := eq_true (show (k : Int) < (m : Int) by omega)
                  cases b with
                  | true =>
                    go_wp2
                    go_quiet (fail)
                    go_wp2
                    have h1 := HKI.out
                    have h2 := HNT.out
                    refine ⟨⟨k + 1, by rw [wrap_i64' (by omega) (by omega), ← Int.natCast_succ], by rw [HKN.out]; rfl, h1, ⟨Kd.R_drewN HRN.out _⟩, ⟨Kd.R_drewN HRT.out _⟩, ⟨Kd.R_drewN HRU.out _⟩, ⟨pw_below_drewN HBr.out _⟩, ⟨blk_drewN HKr.out _⟩, ⟨blk_drewN HKX.out _⟩⟩, ?_⟩
                    exact meas_next (wrap_i64' (by omega) (by omega)) h1
                  | false =>
                    obtain ⟨bn', hbn⟩ : ∃ b, (nk.toList == (rd_T31 l1 (x : Int)).f4.toList) = b := ⟨_, rfl⟩
                    rw [hbn] at HKN
                    go_wp2
                    go_quiet (fail)
                    go_wp2
                    have h1 := HKI.out
                    have h2 := HNT.out
                    refine ⟨⟨k + 1, by rw [wrap_i64' (by omega) (by omega), ← Int.natCast_succ], by rw [HKN.out]; rfl, h1, ⟨Kd.R_drewN HRN.out _⟩, ⟨Kd.R_drewN HRT.out _⟩, ⟨Kd.R_drewN HRU.out _⟩, ⟨pw_below_drewN HBr.out _⟩, ⟨blk_drewN HKr.out _⟩, ⟨blk_drewN HKX.out _⟩⟩, ?_⟩
                    exact meas_next (wrap_i64' (by omega) (by omega)) h1
                · have hki : k = m := by omega
                  subst hki
                  rw [HTK.out]
                  obtain ⟨b, hb⟩ : ∃ b, knT l1 x (namesT l1 (T.take i) []) = b := ⟨_, rfl⟩
                  rw [hb] at HNX ⊢
                  clear hb hlt hk
                  cases b with
                  | true =>
                    have HN2 := Aside0.mk (show namesT l1 (T.take (i + 1)) [] = namesT l1 (T.take i) [] by rw [HNX.out, if_pos rfl])
                    go_wp2
                    have h1 := HI.out
                    have h2 := HTL.out
                    refine ⟨⟨i + 1, by rw [wrap_i64' (by omega) (by omega), ← Int.natCast_succ], by rw [HN2.out, HM.out], h1, HRN, HRT, HRU, HBr, HKr⟩, ?_⟩
                    exact meas_next (wrap_i64' (by omega) (by omega)) h1
                  | false =>
                    have HN2 := Aside0.mk (show namesT l1 (T.take (i + 1)) [] = namesT l1 (T.take i) [] ++ [(rd_T31 l1 (x : Int)).f4] by rw [HNX.out, if_neg (by decide)])
                    have hnx : namesT l1 (T.take i) [] ++ [(rd_T31 l1 (x : Int)).f4] <+: ns := by rw [← HN2.out]; exact HPRE.out (i + 1)
                    obtain ⟨hkn, hrd⟩ := pre_next hnx
                    rw [HM.out] at hkn hrd
                    obtain ⟨ga, ca, ea, _⟩ := Kd.R_form HRN.out (by omega)
                    cases ea
                    obtain ⟨q1, q2⟩ := Kd.R_celln ByteArray.empty HRN.out (k : Int) (by omega) (by omega)
                    rw [hrd, Int.toNat_natCast] at q1
                    rw [Int.toNat_natCast] at q2
                    have zn : wr.cell? ⟨g, 4, none⟩ = some (.string (rd_T31 l1 (x : Int)).f4) := (blk_cell HKX.out 4).trans rfl
                    have p0 := eq_true (show (0 : Int) ≤ (k : Int) by omega)
                    have p1 := eq_true (show (k : Int) < (ns.length : Int) by omega)
                    have p3 := eq_false (show ¬ (ns.length : Int) ≤ (k : Int) by omega)
                    have hlt' := eq_false (show ¬ (k : Int) < (k : Int) by omega)
                    clear hnx hkn hrd
                    go_wp2
                    go_quiet (fail)
                    go_wp2
                    have h1 := HI.out
                    have h2 := HTL.out
                    have h3 := HNT.out
                    refine ⟨⟨i + 1, by rw [wrap_i64' (by omega) (by omega), ← Int.natCast_succ], by rw [HN2.out, List.length_append, HM.out, wrap_i64' (by omega) (by omega)]; rfl, h1, ⟨Kd.R_drewN HRN.out _⟩, ⟨Kd.R_drewN HRT.out _⟩, ⟨Kd.R_drewN HRU.out _⟩, ⟨pw_below_drewN HBr.out _⟩, ⟨blk_drewN HKr.out _⟩⟩, ?_⟩
                    exact meas_next (wrap_i64' (by omega) (by omega)) h1
            · have hiT : i = T.length := by omega
              subst hiT
              have HEN := Aside0.mk (show T.length = 100000 ∨ (namesT l1 (T.take T.length) []).length = ns.length by
                by_cases hb : (Q.treeV l1 a).length < 100000
                · right
                  rw [List.take_length, ← HNN.out, ← HTT.out, List.take_of_length_le (by omega)]
                · left
                  rw [← HTT.out, List.length_take]
                  omega)
              obtain ⟨m, hm⟩ : ∃ m, (namesT l1 (T.take T.length) []).length = m := ⟨_, rfl⟩
              rw [hm] at HEN ⊢
              obtain ⟨nT, hnT⟩ : ∃ n, T.length = n := ⟨_, rfl⟩
              rw [hnT] at HEN ⊢
              obtain ⟨nN, hnN⟩ : ∃ n, ns.length = n := ⟨_, rfl⟩
              rw [hnN] at HEN ⊢
              clear hm hnT hnN hlt hi
              by_cases he : m = nN
              · subst he
                go_wp2
                go_ret
                exact ⟨rfl, HBr.out⟩
              · have hT : nT = 100000 := HEN.out.resolve_right he
                subst hT
                have hne : ((m : Int) == (nN : Int)) = false := by rw [beq_eq_false_iff_ne]; omega
                go_wp2
                go_ret
                exact ⟨rfl, HBr.out⟩
end Go.Proofs.Ytediidkiedifcaa.Q
