/- The Go function ast.Names. -/
import Derived.Test.YtediidkiedifcaaANames2
import Derived.Test.YtediidkiedifcaaQ5
import Derived.Laws.EntriesVeiled
namespace Go.Proofs.Ytediidkiedifcaa.Q
set_option linter.unusedVariables false
set_option linter.unusedSimpArgs false
open Go.RowKit Go.Proofs.YtediidkiedifcaaW.PrintWords Go.Proofs.YtediidkiedifcaaW.PrintLast Go.Proofs.YtediidkiedifcaaW.PrintMore
theorem may_parts {x : S31} {at_ : Int} (h : mayB x at_ = true) : ∀ c ∈ partsF x, 0 ≤ c ∧ c < at_ := by
  intro c hc
  unfold mayB at h
  split at h
  · cases h
  · split at h
    · cases h
    · rename_i hw
      unfold wrongB at hw
      have h2 : (partsF x).any (outB at_) = false := by
        cases h3 : (partsF x).any (outB at_) with
        | false => rfl
        | true => exact absurd (by rw [h3, Bool.or_true]) hw
      have h4 := List.any_eq_false.1 h2 c hc
      unfold outB at h4
      simp only [Bool.or_eq_true, decide_eq_true_eq, not_or] at h4
      omega
theorem allM_get : ∀ (xs : List S31) (i : Nat), allM i xs = true → ∀ (j : Nat) (hj : j < xs.length), mayB xs[j] ((i + j : Nat) : Int) = true
  | [], i, h, j, hj => by simp at hj
  | x :: xs, i, h, j, hj => by
    rw [allM, Bool.and_eq_true] at h
    match j, hj with
    | 0, _ => exact h.1
    | j + 1, hj =>
      have := allM_get xs (i + 1) h.2 j (by simpa using hj)
      rw [show i + 1 + j = i + (j + 1) by omega] at this
      exact this
theorem may_par {l0 : List S45} {l1 : List S31} (h : mayP l0 l1 = true) : ∀ x : Int, 0 ≤ x → x < (l1.length : Int) → ∀ c ∈ partsF (rd_T31 l1 x), 0 ≤ c ∧ c < x := by
  intro x h0 h1
  have hi : x.toNat < l1.length := by omega
  have hrd : rd_T31 l1 x = l1[x.toNat] := by
    unfold rd_T31
    simp [List.getD_eq_getElem?_getD, List.getElem?_eq_getElem hi]
  unfold mayP at h
  rw [Bool.and_eq_true] at h
  have h2 := allM_get l1 0 h.1 x.toNat hi
  rw [Nat.zero_add, Int.toNat_of_nonneg h0] at h2
  rw [hrd]
  exact may_parts h2
noncomputable def ast_Names.f (l0 : List S45) (l1 : List S31) (a1 : Int) : Option (List ByteArray) :=
  (ast_right.f l0 l1 a1).bind fun b => some (if b = true then namesP l1 a1.toNat else [])
theorem right_true {l0 : List S45} {l1 : List S31} {a1 : Int} (h : ast_right.f l0 l1 a1 = some true) : 0 ≤ a1 ∧ a1 < (l1.length : Int) ∧ mayP l0 l1 = true ∧ l1.length ≤ 1000000000000 ∧ (∀ x ∈ l1, x.f7.length ≤ 1000000000000) := by
  unfold ast_right.f at h
  by_cases h0 : a1 ≥ 0
  · rw [if_pos h0] at h
    by_cases h1 : a1 < (l1.length : Int)
    · rw [if_pos h1] at h
      obtain ⟨b, hb, e⟩ := Option.bind_eq_some_iff.1 h
      obtain rfl := Option.some.inj e
      unfold ast_May.f at hb
      split at hb
      · rename_i hs
        simp only [Bool.and_eq_true, decide_eq_true_eq, List.all_eq_true] at hs
        exact ⟨h0, h1, Option.some.inj hb, hs.2.1, hs.2.2.2⟩
      · cases hb
    · rw [if_neg h1] at h
      cases h
  · rw [if_neg h0] at h
    cases h
set_option maxHeartbeats 8000000 in
set_option maxRecDepth 100000 in
theorem ast_Names.calls (A0_0 : Option Addr) (c0_0 : Nat) (l0_0 : List S45) (A0_1 : Option Addr) (c0_1 : Nat) (l0_1 : List S31) (a1 : Int) (r : List ByteArray) (w : World) (hr0_0 : Kd.C k45 w A0_0 l0_0.length l0_0) (hc0_0 : l0_0.length ≤ c0_0) (hr0_1 : Kd.C k31 w A0_1 l0_1.length l0_1) (hc0_1 : l0_1.length ≤ c0_1) (h : ast_Names.f l0_0 l0_1 a1 = some r) :
    Calls Try.prog 15 #[.agg #[.slice A0_0 l0_0.length c0_0, .slice A0_1 l0_1.length c0_1], .int .i64 a1] w fun e w' => ∃ v0_ : Value, e = .returned (v0_) ∧ Kd.R Kd.string 9 w' w.heap.size (fun _ => True) v0_ r ∧ Below w.heap.size w w' := by
  unfold ast_Names.f at h
  obtain ⟨b, hb, h⟩ := Option.bind_eq_some_iff.1 h
  obtain rfl := Option.some.inj h
  clear h
  have hB1 : Below w.heap.size w (w.alloc (Obj.cells #[.slice A0_0 l0_0.length c0_0, .slice A0_1 l0_1.length c0_1] 25)) := (Below.refl _ _).alloc (Nat.le_refl _) _
  have hk : (w.alloc (Obj.cells #[.slice A0_0 l0_0.length c0_0, .slice A0_1 l0_1.length c0_1] 25)).heap[w.heap.size]? = some (.cells #[.slice A0_0 l0_0.length c0_0, .slice A0_1 l0_1.length c0_1] 25 (0, 0)) := blk_new w _
  have HD := Aside0.mk hr0_0
  have HDc := Aside0.mk hc0_0
  have HE := Aside0.mk hr0_1
  have HEc := Aside0.mk hc0_1
  have HRT := Aside0.mk hb
  clear hr0_0 hc0_0 hr0_1 hc0_1 hb
  go_enter Try.func15, Try.ntmps15
  go_upto_region 1 with (fail)
  obtain ⟨W, hW⟩ : ∃ W, W = (w.alloc (Obj.cells #[.slice A0_0 l0_0.length c0_0, .slice A0_1 l0_1.length c0_1] 25)) := ⟨_, rfl⟩
  rw [← hW] at hB1 hk ⊢
  clear hW
  have y0 := (blk_cell hk 0).trans rfl
  have y1 := (blk_cell hk 1).trans rfl
  have HB := Aside0.mk hB1
  have HK := Aside0.mk hk
  have KR := Aside0.mk (ast_right.calls A0_0 c0_0 l0_0 A0_1 c0_1 l0_1 a1 b W (Kd.C_below HD.out hB1) HDc.out (Kd.C_below HE.out hB1) HEc.out HRT.out)
  clear hB1 hk
  cases b with
  | false =>
    go_wp2_with (go_at_call 33; refine KR.out.mono ?_; rintro e w' ⟨rfl, hbb⟩; have HB2 := Aside0.mk hbb; clear hbb)
    go_ret
    exact ⟨_, rfl, Kd.R_nil _ _ _ _ _, HB.out.trans (HB2.out.mono HB.out.size)⟩
  | true =>
    go_upto_region 3 with (go_at_call 33; refine KR.out.mono ?_; rintro e w' ⟨rfl, hbb⟩; have HB2 := Aside0.mk (HB.out.trans (hbb.mono HB.out.size)); have HK2 := Aside0.mk (blk_below HK.out hbb); clear hbb)
    have ky := (blk_cell HK2.out 1).trans rfl
    have HRr := Aside0.mk (right_true HRT.out)
    obtain ⟨p0, q0, _, _, _⟩ := HRr.out
    clear y0 y1 KR
    go_upto_region 6 with ((with_reducible refine gate_dst (N := 15) rfl ?_); refine Kd.R_make Kd.bool (w0 := w) w.heap.size 4 rfl (N := 15) rfl 60 _ _ rfl (l0_1.length : Int) rfl rfl Try.underlying60 (.bool false) 1 info4 rfl (by decide) (by omega) false (ok := fun _ => True) (okp := fun _ => True) rfl (fun _ hk => hk) trivial (by omega) (by have := HRr.out.2.2.2.1; omega) HB2.out HB2.out.size ?_; intro v1 w1 ho hb hg hnew; rw [Int.toNat_natCast] at ho; obtain ⟨gb, cb, ev, f1, f2, cells, hc⟩ := Kd.R_form ho (by rw [List.length_replicate]; omega); rw [List.length_replicate] at ev; subst ev; have HO := Aside0.mk ho; have HB3 := Aside0.mk hb; have HG3 := Aside0.mk hg; have F1 := Aside0.mk f1; have F2 := Aside0.mk f2; clear ho hb hg hnew f1 f2 hc)
    have hkp : w1.heap[w.heap.size]? = some (.cells #[.slice A0_0 l0_0.length c0_0, .slice A0_1 l0_1.length c0_1] 25 (0, 0)) := blk_grown HK2.out HG3.out (by simp)
    obtain ⟨V1, e1⟩ : ∃ V, V = w1.alloc (Obj.cells #[.slice (some ⟨gb, 0, none⟩) l0_1.length cb] 60) := ⟨_, rfl⟩
    have km1 : V1.heap[w1.heap.size]? = some (.cells #[.slice (some ⟨gb, 0, none⟩) l0_1.length cb] 60 (0, 0)) := by rw [e1]; exact blk_new _ _
    have b1 : Below w1.heap.size w1 V1 := by rw [e1]; exact (Below.refl _ _).alloc (Nat.le_refl _) _
    have s1 : V1.heap.size = w1.heap.size + 1 := by rw [e1]; simp
    obtain ⟨V2, e2⟩ : ∃ V, V = V1.alloc (Obj.cells #[.slice none 0 0] 33) := ⟨_, rfl⟩
    have ko2 : V2.heap[V1.heap.size]? = some (.cells #[.slice none 0 0] 33 (0, 0)) := by rw [e2]; exact blk_new _ _
    have b2 : Below V1.heap.size V1 V2 := by rw [e2]; exact (Below.refl _ _).alloc (Nat.le_refl _) _
    have s2 : V2.heap.size = V1.heap.size + 1 := by rw [e2]; simp
    obtain ⟨V3, e3⟩ : ∃ V, V = V2.alloc (Obj.cells #[.nilFunc] 61) := ⟨_, rfl⟩
    have kf3 : V3.heap[V2.heap.size]? = some (.cells #[.nilFunc] 61 (0, 0)) := by rw [e3]; exact blk_new _ _
    have b3 : Below V2.heap.size V2 V3 := by rw [e3]; exact (Below.refl _ _).alloc (Nat.le_refl _) _
    rw [← e1, ← e2, ← e3]
    rw [s2, s1] at kf3
    have km3 := blk_below (blk_below km1 b2) b3
    have ko3 := blk_below ko2 b3
    rw [s1] at ko3
    have kp3 := blk_below (blk_below (blk_below hkp b1) b2) b3
    have hm3 := Kd.R_below (Kd.R_below (Kd.R_below HO.out b1) b2) b3
    have hb3 : Below w.heap.size w V3 := ((HB3.out.trans (b1.mono HB3.out.size)).trans (b2.mono (by have := HB3.out.size; omega))).trans (b3.mono (by have := HB3.out.size; omega))
    have hle := HB3.out.size
    obtain ⟨gm, hgm⟩ : ∃ g, g = w1.heap.size := ⟨_, rfl⟩
    rw [← hgm] at kf3 ko3 km3 hle ⊢
    obtain ⟨go, hgo⟩ : ∃ g, g = gm + 1 := ⟨_, rfl⟩
    rw [← hgo] at kf3 ko3 ⊢
    obtain ⟨gf, hgf⟩ : ∃ g, g = go + 1 := ⟨_, rfl⟩
    rw [← hgf] at kf3 ⊢
    have ykf := (blk_cell kf3 0).trans rfl
    have yfz := blk_frozen kf3 0
    have KM := Aside0.mk km3
    have KO := Aside0.mk ko3
    have KF := Aside0.mk kf3
    have KP := Aside0.mk kp3
    have HM := Aside0.mk hm3
    have HV := Aside0.mk hb3
    have HLE := Aside0.mk (show w.heap.size ≤ go by omega)
    have HGF := Aside0.mk (show w.heap.size ≤ gf by omega)
    clear km3 ko3 kf3 kp3 hm3 hb3 hle hgm hgo hgf e1 e2 e3 b1 b2 b3 s1 s2 km1 ko2 hkp ky
    go_upto_region 7 with (fail)
    clear ykf yfz
    obtain ⟨V4, hW⟩ : ∃ V, V = V3.setCell ⟨gf, 0, none⟩ (fMeet gm w.heap.size go gf) := ⟨_, rfl⟩
    have far : ∀ (g : Nat) (cs : Array Value) (t : Nat), t ≠ 61 → V3.heap[g]? = some (.cells cs t (0, 0)) → V4.heap[g]? = some (.cells cs t (0, 0)) := fun g cs t ht hb => by
      rw [hW]
      exact (((Kept.refl V3 (fun k => k = gf)).setCell (p := ⟨gf, 0, none⟩) (.inl rfl) (fMeet gm w.heap.size go gf)).2 g (blk_lt hb) (blk_ne hb KF.out ht)).trans hb
    have hms : MS w V4 w.heap.size gm gb go gf cb A0_0 c0_0 l0_0 A0_1 c0_1 l0_1 (.slice none 0 0) (List.replicate l0_1.length false, []) := by
      refine ⟨?_, far _ _ _ (by decide) KP.out, far _ _ _ (by decide) KM.out, ?_, far _ _ _ (by decide) KO.out, ?_, Kd.R_nil _ _ _ _ _, HLE.out, F1.out, ?_⟩
      · rw [hW]; exact HV.out.setCell (p := ⟨gf, 0, none⟩) HGF.out _
      · rw [hW]; exact blk_put KF.out 0 _ rfl
      · rw [hW]; exact Kd.R_set HM.out KF.out (by intro q hq; rcases List.mem_cons.1 hq with rfl | hq; exact (by decide); cases hq) _ _
      · simp
    rw [← hW]
    clear hW far KO KM KF KP HM HV
    have km := meet_any w w.heap.size gm gb go gf cb A0_0 c0_0 l0_0 A0_1 c0_1 l0_1 HE.out HEc.out HRr.out.2.2.2.1 HRr.out.2.2.2.2 (may_par HRr.out.2.2.1) (a1.toNat + 1) a1 p0 (by omega) q0 V4 _ _ hms
    have KC := Aside0.mk km
    have kf := (blk_cell hms.kf 0).trans rfl
    clear km hms
    go_upto_region 8 with (go_at_call 35; refine KC.out.mono ?_; rintro e w9 ⟨rfl, v9, hm9, ht9⟩; obtain ⟨A9, c9, rfl⟩ := Kd.R_slice hm9.hv; have HM9 := Aside0.mk hm9; clear hm9 ht9)
    clear kf
    have ko := (blk_cell HM9.out.ko 0).trans rfl
    go_wp2
    go_ret
    exact ⟨_, rfl, by unfold namesP; exact HM9.out.hv, HM9.out.b⟩
end Go.Proofs.Ytediidkiedifcaa.Q
