/- The Go function ast.May. -/
import Derived.Test.YtediidkiedifcaaADecl
namespace Go.Proofs.Ytediidkiedifcaa.Q
set_option linter.unusedVariables false
set_option linter.unusedSimpArgs false
open Go.RowKit Go.Proofs.YtediidkiedifcaaW.PrintWords Go.Proofs.YtediidkiedifcaaW.PrintLast Go.Proofs.YtediidkiedifcaaW.PrintMore
def allM : Nat → List S31 → Bool
  | _, [] => true
  | i, x :: xs => mayB x (i : Int) && allM (i + 1) xs
def mayP (l0 : List S45) (l1 : List S31) : Bool := allM 0 l1 && !(l0.any (declBad l1.length))
def ast_May.f (l0 : List S45) (l1 : List S31) : Option Bool :=
  if (decide (l0.length ≤ 1000000000000) && (decide (l1.length ≤ 1000000000000) && ((l0.all fun d => decide (d.f3.length ≤ 1000000000000)) && (l1.all fun x => decide (x.f7.length ≤ 1000000000000))))) = true then some (mayP l0 l1) else none
set_option maxHeartbeats 8000000 in
set_option maxRecDepth 100000 in
theorem ast_May.calls (A0_0 : Option Addr) (c0_0 : Nat) (l0_0 : List S45) (A0_1 : Option Addr) (c0_1 : Nat) (l0_1 : List S31) (r : Bool) (w : World) (hr0_0 : Kd.C k45 w A0_0 l0_0.length l0_0) (hc0_0 : l0_0.length ≤ c0_0) (hr0_1 : Kd.C k31 w A0_1 l0_1.length l0_1) (hc0_1 : l0_1.length ≤ c0_1) (h : ast_May.f l0_0 l0_1 = some r) :
    Calls Try.prog 12 #[.agg #[.slice A0_0 l0_0.length c0_0, .slice A0_1 l0_1.length c0_1]] w fun e w' => e = .returned (.bool r) ∧ Below w.heap.size w w' := by
  unfold ast_May.f at h
  split at h
  case isFalse => cases h
  rename_i hs
  obtain rfl := Option.some.inj h
  clear h
  simp only [Bool.and_eq_true, decide_eq_true_eq, List.all_eq_true] at hs
  have HS := Aside0.mk hs
  clear hs
  obtain ⟨M, hM⟩ : ∃ M, mayP l0_0 l0_1 = M := ⟨_, rfl⟩
  rw [hM]
  unfold mayP at hM
  have HM := Aside0.mk hM
  clear hM
  have hb : Below w.heap.size w (w.alloc (Obj.cells #[.slice A0_0 l0_0.length c0_0, .slice A0_1 l0_1.length c0_1] 25)) := (Below.refl _ _).alloc (Nat.le_refl _) _
  have hk : (w.alloc (Obj.cells #[.slice A0_0 l0_0.length c0_0, .slice A0_1 l0_1.length c0_1] 25)).heap[w.heap.size]? = some (.cells #[.slice A0_0 l0_0.length c0_0, .slice A0_1 l0_1.length c0_1] 25 (0, 0)) := blk_new w _
  have HD := Aside0.mk hr0_0
  have HDc := Aside0.mk hc0_0
  have HE := Aside0.mk hr0_1
  have HEc := Aside0.mk hc0_1
  clear hr0_0 hc0_0 hr0_1 hc0_1
  go_enter Try.func12, Try.ntmps12
  go_upto_region 1 with (fail)
  obtain ⟨W, hW⟩ : ∃ W, W = (w.alloc (Obj.cells #[.slice A0_0 l0_0.length c0_0, .slice A0_1 l0_1.length c0_1] 25)) := ⟨_, rfl⟩
  rw [← hW] at hb hk ⊢
  clear hW
  have y0 := (blk_cell hk 0).trans rfl
  have y1 := (blk_cell hk 1).trans rfl
  have HB := Aside0.mk hb
  have HK := Aside0.mk hk
  clear hb hk
  go_wp2
  clear y0 y1
  go_loopw [3, 4, 8] (fun _ _ v8 wr => ∃ x : Int, v8 = .int .i64 x ∧ Aside0 (0 ≤ x ∧ x ≤ (l0_1.length : Int) ∧ allM x.toNat (l0_1.drop x.toNat) = allM 0 l0_1) ∧ Aside0 (Below W.heap.size W wr)) (fun _ _ v8 _ => l0_1.length - (intOf v8).toNat)
  case atStart => exact ⟨0, rfl, ⟨by omega, by omega, by simp⟩, ⟨Below.refl _ _⟩⟩
  case round =>
    obtain ⟨x, rfl, HX, HW⟩ := hrel
    have HBW := Aside0.mk (HB.out.trans (HW.out.mono HB.out.size))
    by_cases hlt : x < (l0_1.length : Int)
    · have p0 := HX.out.1
      have q0 := hlt
      obtain ⟨ad, A7, c7, ea, hx0, hx1, hx2, hx3, hx4, hx5, hx6, hx7, hx8, hl7, hi7⟩ := at_T31 (Kd.C_below HE.out HBW.out) x p0 q0
      cases ea
      have hi : x.toNat < l0_1.length := by omega
      have hrd : rd_T31 l0_1 x = l0_1[x.toNat] := by
        unfold rd_T31
        simp [List.getD_eq_getElem?_getD, List.getElem?_eq_getElem hi]
      have hdrop : allM x.toNat (l0_1.drop x.toNat) = (mayB (rd_T31 l0_1 x) x && allM (x.toNat + 1) (l0_1.drop (x.toNat + 1))) := by
        rw [List.drop_eq_getElem_cons hi, allM, hrd, Int.toNat_of_nonneg p0]
      have HDR := Aside0.mk hdrop
      have HLT := Aside0.mk hlt
      have hsz : (rd_T31 l0_1 x).f7.length ≤ 1000000000000 := by rw [hrd]; exact HS.out.2.2.2 _ (List.getElem_mem hi)
      have KO := Aside0.mk (fun (V : World) (hV : Below wr.heap.size wr V) => may_any (rd_T31 l0_1 x) A7 c7 x V (Kd.C_below hi7 hV) hl7 hsz)
      obtain ⟨b, hb⟩ : ∃ b, mayB (rd_T31 l0_1 x) x = b := ⟨_, rfl⟩
      rw [hb] at HDR KO
      clear hlt hi hrd hdrop hb hi7 hl7 hsz
      replace p0 := eq_true p0
      replace q0 := eq_true q0
      cases b with
      | false =>
        have hM := HM.out
        rw [← HX.out.2.2, HDR.out, Bool.false_and, Bool.false_and] at hM
        subst hM
        go_wp2_with (go_at_call 26; refine (KO.out _ ((Below.refl _ _).alloc (Nat.le_refl _) _)).mono ?_; rintro e w' ⟨rfl, hbb⟩; have HB2 := Aside0.mk (hbb); clear hbb)
        go_ret
        exact ⟨rfl, (HBW.out.alloc HBW.out.size _).trans (HB2.out.mono (HBW.out.alloc HBW.out.size _).size)⟩
      | true =>
        go_wp2_with (go_at_call 26; refine (KO.out _ ((Below.refl _ _).alloc (Nat.le_refl _) _)).mono ?_; rintro e w' ⟨rfl, hbb⟩; have HB2 := Aside0.mk ((HW.out.alloc HW.out.size _).trans (hbb.mono (HW.out.alloc HW.out.size _).size)); clear hbb)
        go_roundw
        case rel =>
          have h1 := HX.out
          have h2 := HLT.out
          have h3 := HS.out.2.1
          refine ⟨x + 1, by rw [wrap_i64' (by omega) (by omega)], ⟨by omega, by omega, ?_⟩, HB2⟩
          rw [← h1.2.2, HDR.out, Bool.true_and, show (x + 1).toNat = x.toNat + 1 by omega]
        case measure =>
          have h1 := HX.out
          have h2 := HLT.out
          have h3 := HS.out.2.1
          have hw := wrap_i64' (n := x + 1) (by omega) (by omega)
          simp [intOf, hw]
          omega
    · have q0 : decide (x < (l0_1.length : Int)) = false := decide_eq_false hlt
      have hM := HM.out
      have hxl : x = (l0_1.length : Int) := by have := HX.out.2.1; omega
      rw [← HX.out.2.2, List.drop_of_length_le (by omega), allM, Bool.true_and] at hM
      have HM2 := Aside0.mk hM
      have hk := blk_below HK.out HW.out
      have y0 := (blk_cell hk 0).trans rfl
      have HK2 := Aside0.mk hk
      clear hlt hM hxl hk
      go_wp2_with (go_at_call 27; refine (contains_28 w.heap.size A0_0 c0_0 l0_0 A0_1 c0_1 l0_1 A0_0 c0_0 l0_0 _ (Kd.C_below HD.out HBW.out) HDc.out (by have := HS.out.1; omega) HK2.out (Kd.C_below HD.out HBW.out) HDc.out (Kd.C_below HE.out HBW.out) HEc.out (fun d hd => by have := HS.out.2.2.1 d hd; omega)).mono ?_; rintro e w' ⟨rfl, hbb⟩; have HB2 := Aside0.mk (HBW.out.trans (hbb.mono HBW.out.size)); clear hbb)
      go_ret
      exact ⟨by rw [← HM2.out]; rfl, HB2.out⟩
#print axioms ast_May.calls
end Go.Proofs.Ytediidkiedifcaa.Q
