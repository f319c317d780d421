/- The law CodeTurned, walked. -/
import Derived.Test.YtccolpkjgjjipaaCTurnP
import Derived.Test.YtccolpkjgjjipaaK3
import Derived.Test.YtccolpkjgjjipaaK8
namespace Go.Proofs.Ytccolpkjgjjipaa.K
set_option linter.unusedVariables false
set_option linter.unusedSimpArgs false
open Go.RowKit Go.Proofs.YtccolpkjgjjipaaW.PrintWords Go.Proofs.YtccolpkjgjjipaaW.PrintLast Go.Proofs.YtccolpkjgjjipaaW.PrintMore
theorem rd_opt' {l : List Int} {x : Int} (h0 : 0 ≤ x) (h : x < (l.length : Int)) : l[x.toNat]? = some (rdOf 0 l x) := by
  obtain ⟨i, rfl⟩ := Int.eq_ofNat_of_zero_le h0
  have h : i < l.length := by omega
  have e : rdOf 0 l (i : Int) = rd l (i : Int) := rfl
  rw [e, rd_nat h, Int.toNat_natCast, List.getElem?_eq_getElem h]
theorem alive_true : astrolabelaw16_alive.f = some true := by decide +kernel
theorem great_some  (l0 : List Int) (l1 : List Int) (l2 : List Int) (l3 : List Int) (a4 : Int) (a5 : Int) (l6 : List S47) (l7 : List S47) (l8 : List S47) (l9 : List S47) : ∃ b, astrolaberef16_Great.f l0 l1 l2 l3 a4 a5 l6 l7 l8 l9 = some b := by
  unfold astrolaberef16_Great.f
  split
  · exact ⟨_, rfl⟩
  · exact ⟨_, rfl⟩
theorem great_no {l0 : List Int} {l1 : List Int} {l2 : List Int} {l3 : List Int} {a4 : Int} {a5 : Int} {l6 : List S47} {l7 : List S47} {l8 : List S47} {l9 : List S47} (h : astrolaberef16_Great.f l0 l1 l2 l3 a4 a5 l6 l7 l8 l9 = some false) (hn0 : l0.length ≤ 140737488351232) (hn1 : l1.length ≤ 140737488351232) (hn2 : l2.length ≤ 140737488351232) (hn3 : l3.length ≤ 140737488351232) (hn6 : l6.length ≤ 140737488351232) (hn7 : l7.length ≤ 140737488351232) (hn8 : l8.length ≤ 140737488351232) (hn9 : l9.length ≤ 140737488351232) : l0.length + l1.length + l2.length + l3.length ≤ 400 ∧ l6.length + l7.length + l8.length + l9.length ≤ 3000 := by
  unfold astrolaberef16_Great.f at h
  rw [wrap_i64 (n := (l0.length : Int) + (l1.length : Int)) (by omega) (by omega), wrap_i64 (n := (l0.length : Int) + (l1.length : Int) + (l2.length : Int)) (by omega) (by omega), wrap_i64 (n := (l0.length : Int) + (l1.length : Int) + (l2.length : Int) + (l3.length : Int)) (by omega) (by omega), wrap_i64 (n := (l6.length : Int) + (l7.length : Int)) (by omega) (by omega), wrap_i64 (n := (l6.length : Int) + (l7.length : Int) + (l8.length : Int)) (by omega) (by omega), wrap_i64 (n := (l6.length : Int) + (l7.length : Int) + (l8.length : Int) + (l9.length : Int)) (by omega) (by omega)] at h
  by_cases c : (l0.length : Int) + (l1.length : Int) + (l2.length : Int) + (l3.length : Int) > 400
  · rw [if_pos c] at h
    cases h
  · rw [if_neg c] at h
    have h2 := of_decide_eq_false (Option.some.inj h)
    omega
set_option maxHeartbeats 8000000 in
set_option maxRecDepth 100000 in
theorem turned_walk (A0 : Option Addr) (c0 : Nat) (l0 : List Int) (A1 : Option Addr) (c1 : Nat) (l1 : List Int) (A2 : Option Addr) (c2 : Nat) (l2 : List Int) (A3 : Option Addr) (c3 : Nat) (l3 : List Int) (a4 : Int) (a5 : Int) (A6 : Option Addr) (c6 : Nat) (l6 : List S47) (A7 : Option Addr) (c7 : Nat) (l7 : List S47) (A8 : Option Addr) (c8 : Nat) (l8 : List S47) (A9 : Option Addr) (c9 : Nat) (l9 : List S47) (at_ to_ : Int) (w : World) (hr0 : Kd.C (Kd.int .i64) w A0 l0.length l0) (hc0 : l0.length ≤ c0) (hn0 : l0.length ≤ 140737488351232) (hr1 : Kd.C (Kd.int .i64) w A1 l1.length l1) (hc1 : l1.length ≤ c1) (hn1 : l1.length ≤ 140737488351232) (hr2 : Kd.C (Kd.int .i64) w A2 l2.length l2) (hc2 : l2.length ≤ c2) (hn2 : l2.length ≤ 140737488351232) (hr3 : Kd.C (Kd.int .i64) w A3 l3.length l3) (hc3 : l3.length ≤ c3) (hn3 : l3.length ≤ 140737488351232) (hr6 : Kd.C k47 w A6 l6.length l6) (hc6 : l6.length ≤ c6) (hn6 : l6.length ≤ 140737488351232) (hr7 : Kd.C k47 w A7 l7.length l7) (hc7 : l7.length ≤ c7) (hn7 : l7.length ≤ 140737488351232) (hr8 : Kd.C k47 w A8 l8.length l8) (hc8 : l8.length ≤ c8) (hn8 : l8.length ≤ 140737488351232) (hr9 : Kd.C k47 w A9 l9.length l9) (hc9 : l9.length ≤ c9) (hn9 : l9.length ≤ 140737488351232) (hat : 0 ≤ at_) (hat2 : at_ ≤ 65535) (hto : 0 ≤ to_) (hto2 : to_ < 256) :
    Calls Try.prog 4 #[.agg #[.slice A0 l0.length c0, .slice A1 l1.length c1, .slice A2 l2.length c2, .slice A3 l3.length c3, .int .i64 a4, .int .i64 a5, .slice A6 l6.length c6, .slice A7 l7.length c7, .slice A8 l8.length c8, .slice A9 l9.length c9], .int .u16 at_, .int .u8 to_] w fun e w' => e = .returned (.bool true) ∧ Below w.heap.size w w' := by
  obtain ⟨gr, hgr⟩ := great_some l0 l1 l2 l3 a4 a5 l6 l7 l8 l9
  have hgl : gr = false → l0.length + l1.length + l2.length + l3.length ≤ 400 ∧ l6.length + l7.length + l8.length + l9.length ≤ 3000 := fun e => great_no (by rw [← e]; exact hgr) hn0 hn1 hn2 hn3 hn6 hn7 hn8 hn9
  clear hn0 hn1 hn2 hn3 hn6 hn7 hn8 hn9
  have HR0 := Aside0.mk hr0
  have HC0 := Aside0.mk hc0
  clear hr0 hc0
  have HR1 := Aside0.mk hr1
  have HC1 := Aside0.mk hc1
  clear hr1 hc1
  have HR2 := Aside0.mk hr2
  have HC2 := Aside0.mk hc2
  clear hr2 hc2
  have HR3 := Aside0.mk hr3
  have HC3 := Aside0.mk hc3
  clear hr3 hc3
  have HR6 := Aside0.mk hr6
  have HC6 := Aside0.mk hc6
  clear hr6 hc6
  have HR7 := Aside0.mk hr7
  have HC7 := Aside0.mk hc7
  clear hr7 hc7
  have HR8 := Aside0.mk hr8
  have HC8 := Aside0.mk hc8
  clear hr8 hc8
  have HR9 := Aside0.mk hr9
  have HC9 := Aside0.mk hc9
  clear hr9 hc9
  have HGR := Aside0.mk hgr
  have HGL := Aside0.mk hgl
  clear hgr hgl
  have hb : Below w.heap.size w (w.alloc (Obj.cells #[.slice A0 l0.length c0, .slice A1 l1.length c1, .slice A2 l2.length c2, .slice A3 l3.length c3, .int .i64 a4, .int .i64 a5, .slice A6 l6.length c6, .slice A7 l7.length c7, .slice A8 l8.length c8, .slice A9 l9.length c9] 28)) := (Below.refl _ _).alloc (Nat.le_refl _) _
  have hk := blk_new w (Obj.cells #[.slice A0 l0.length c0, .slice A1 l1.length c1, .slice A2 l2.length c2, .slice A3 l3.length c3, .int .i64 a4, .int .i64 a5, .slice A6 l6.length c6, .slice A7 l7.length c7, .slice A8 l8.length c8, .slice A9 l9.length c9] 28)
  go_enter Try.func4, Try.ntmps4
  go_upto_region 1 with (fail)
  obtain ⟨W0, hW⟩ : ∃ W, W = w.alloc (Obj.cells #[.slice A0 l0.length c0, .slice A1 l1.length c1, .slice A2 l2.length c2, .slice A3 l3.length c3, .int .i64 a4, .int .i64 a5, .slice A6 l6.length c6, .slice A7 l7.length c7, .slice A8 l8.length c8, .slice A9 l9.length c9] 28) := ⟨_, rfl⟩
  rw [← hW] at hb hk ⊢
  clear hW
  have HB0 := Aside0.mk hb
  have HK0 := Aside0.mk hk
  clear hb hk
  go_upto_region 3 with (go_at_call 9; refine (astrolabelaw16_alive.calls true _ alive_true).mono ?_; rintro e w1 ⟨rfl, hb⟩; have HB1 := Aside0.mk (HB0.out.trans (hb.mono HB0.out.size)); have HK1 := Aside0.mk (blk_below HK0.out hb); clear hb HB0 HK0)
  have hk := HK1.out
  have z0 := (blk_cell hk 0).trans rfl
  have z1 := (blk_cell hk 1).trans rfl
  have z2 := (blk_cell hk 2).trans rfl
  have z3 := (blk_cell hk 3).trans rfl
  have z4 := (blk_cell hk 4).trans rfl
  have z5 := (blk_cell hk 5).trans rfl
  have z6 := (blk_cell hk 6).trans rfl
  have z7 := (blk_cell hk 7).trans rfl
  have z8 := (blk_cell hk 8).trans rfl
  have z9 := (blk_cell hk 9).trans rfl
  clear hk
  cases gr with
  | true =>
    clear HGL
    go_wp2_with (go_at_call 14; refine (astrolaberef16_Great.calls A0 c0 l0 A1 c1 l1 A2 c2 l2 A3 c3 l3 a4 a5 A6 c6 l6 A7 c7 l7 A8 c8 l8 A9 c9 l9 true _ (Kd.C_below HR0.out HB1.out) HC0.out (Kd.C_below HR1.out HB1.out) HC1.out (Kd.C_below HR2.out HB1.out) HC2.out (Kd.C_below HR3.out HB1.out) HC3.out (Kd.C_below HR6.out HB1.out) HC6.out (Kd.C_below HR7.out HB1.out) HC7.out (Kd.C_below HR8.out HB1.out) HC8.out (Kd.C_below HR9.out HB1.out) HC9.out HGR.out).mono ?_; rintro e w2 ⟨rfl, hb⟩; have HB2 := Aside0.mk (HB1.out.trans (hb.mono HB1.out.size)); clear hb HB1)
    go_ret
    exact ⟨rfl, HB2.out⟩
  | false =>
    have hgl := HGL.out rfl
    clear HGL
    go_upto_region 5 with (go_at_call 14; refine (astrolaberef16_Great.calls A0 c0 l0 A1 c1 l1 A2 c2 l2 A3 c3 l3 a4 a5 A6 c6 l6 A7 c7 l7 A8 c8 l8 A9 c9 l9 false _ (Kd.C_below HR0.out HB1.out) HC0.out (Kd.C_below HR1.out HB1.out) HC1.out (Kd.C_below HR2.out HB1.out) HC2.out (Kd.C_below HR3.out HB1.out) HC3.out (Kd.C_below HR6.out HB1.out) HC6.out (Kd.C_below HR7.out HB1.out) HC7.out (Kd.C_below HR8.out HB1.out) HC8.out (Kd.C_below HR9.out HB1.out) HC9.out HGR.out).mono ?_; rintro e w2 ⟨rfl, hb⟩; have HB2 := Aside0.mk (HB1.out.trans (hb.mono HB1.out.size)); have HK2 := Aside0.mk (blk_below HK1.out hb); clear hb HB1 HK1)
    clear z0 z1 z2 z3 z4 z5 z6 z7 z8 z9
    have hk := HK2.out
    have z0 := (blk_cell hk 0).trans rfl
    have z1 := (blk_cell hk 1).trans rfl
    have z2 := (blk_cell hk 2).trans rfl
    have z3 := (blk_cell hk 3).trans rfl
    have z4 := (blk_cell hk 4).trans rfl
    have z5 := (blk_cell hk 5).trans rfl
    have z6 := (blk_cell hk 6).trans rfl
    have z7 := (blk_cell hk 7).trans rfl
    have z8 := (blk_cell hk 8).trans rfl
    have z9 := (blk_cell hk 9).trans rfl
    clear hk
    obtain ⟨o, ho⟩ : ∃ o : OB, o = (l0, l1, l2, l3, a4, a5, l6, l7, l8, l9) := ⟨_, rfl⟩
    obtain ⟨y, hy⟩ : ∃ y, bytesB l0 l1 l2 l3 a4 a5 l6 l7 l8 l9 = y := ⟨_, rfl⟩
    have hyo : obBytes o = y := by rw [ho]; exact hy
    have hso : obSmall o := by rw [ho]; refine ⟨?_, ?_, ?_, ?_, ?_, ?_, ?_, ?_⟩ <;> dsimp only <;> omega
    have hyl : y.length ≤ 200000 := by have := bytesB_le l0 l1 l2 l3 a4 a5 l6 l7 l8 l9; rw [hy] at this; omega
    have hy4 : 4 ≤ y.length := by
      rw [← hyo, obBytes_eq, List.length_append]
      show 4 ≤ _ + 4
      omega
    have hyb : Byt y := by rw [← hyo]; exact obBytes_byt o
    have hf : code_Bytes.f l0 l1 l2 l3 a4 a5 l6 l7 l8 l9 = some y := by rw [code_Bytes.f, hy, if_pos (by omega)]
    have HF := Aside0.mk hf
    have HCUT := Aside0.mk (fun i (hi : i < y.length) => none_tells (l := y.take i) (by rw [List.length_take]; omega) (fun z hz => hyb z (List.mem_of_mem_take hz)) (fun p hp => by rw [← hyo] at hi ⊢; exact cut_none hso hi p hp))
    have HTURN := Aside0.mk (fun i (hi : i < y.length) (hne : y[i] ≠ to_) => none_tells (l := y.set i to_) (by rw [List.length_set]; omega) (fun z hz => by rcases List.mem_or_eq_of_mem_set hz with h | h; exact hyb z h; rw [h]; exact ⟨hto, hto2⟩) (fun p hp => by subst hyo; exact turned_none hso hi hto hto2 hne p hp))
    clear hf hyo hso ho hyb hy hgl
    obtain ⟨x, hm⟩ : ∃ x, Int.tmod at_ (y.length : Int) = x := ⟨_, rfl⟩
    have hx0 : 0 ≤ x := by rw [← hm, Int.tmod_eq_emod_of_nonneg hat]; exact Int.emod_nonneg _ (by omega)
    have hx1 : x < (y.length : Int) := by rw [← hm, Int.tmod_eq_emod_of_nonneg hat]; exact Int.emod_lt_of_pos _ (by omega)
    go_upto_region 6 with (go_at_call 13; refine (code_Bytes.calls A0 c0 l0 A1 c1 l1 A2 c2 l2 A3 c3 l3 a4 a5 A6 c6 l6 A7 c7 l7 A8 c8 l8 A9 c9 l9 y _ (Kd.C_below HR0.out HB2.out) HC0.out (Kd.C_below HR1.out HB2.out) HC1.out (Kd.C_below HR2.out HB2.out) HC2.out (Kd.C_below HR3.out HB2.out) HC3.out (Kd.C_below HR6.out HB2.out) HC6.out (Kd.C_below HR7.out HB2.out) HC7.out (Kd.C_below HR8.out HB2.out) HC8.out (Kd.C_below HR9.out HB2.out) HC9.out HF.out).mono ?_; rintro e wb ⟨vb, rfl, hRb, hBb⟩; obtain ⟨g, dv, rfl, hg1, hg2, _⟩ := Kd.R_form hRb (by omega); have HG := Aside0.mk (Nat.le_trans HB2.out.size hg1); have HRB := Aside0.mk (Kd.R_lower hRb HB2.out.size); have HB3 := Aside0.mk (HB2.out.trans (hBb.mono HB2.out.size)); clear hRb hBb hg1 hg2 HB2 HK2)
    clear z0 z1 z2 z3 z4 z5 z6 z7 z8 z9
    have hr := Kd.R_reads' HRB.out
    have hcap := hr.2.1
    have KC : ∀ W, Kd.C (Kd.int .u8) W (some ⟨g, 0, none⟩) y.length y → Calls Try.prog 10 #[.slice (some ⟨g, 0, none⟩) x.toNat dv] W (fun e w' => ∃ v0 v1 v2 v3 v6 v7 v8 v9 : Value, e = .returned (.tuple #[.agg #[v0, v1, v2, v3, .int .i64 0, .int .i64 0, v6, v7, v8, v9], .bool false]) ∧
        Kd.R (Kd.int .i64) 3 w' W.heap.size (fun _ => True) v0 [] ∧ Kd.R (Kd.int .i64) 3 w' W.heap.size (fun _ => True) v1 [] ∧ Kd.R (Kd.int .i64) 2 w' W.heap.size (fun _ => True) v2 [] ∧ Kd.R (Kd.int .i64) 2 w' W.heap.size (fun _ => True) v3 [] ∧
        Kd.R k47 47 w' W.heap.size (fun _ => True) v6 [] ∧ Kd.R k47 47 w' W.heap.size (fun _ => True) v7 [] ∧ Kd.R k47 47 w' W.heap.size (fun _ => True) v8 [] ∧ Kd.R k47 47 w' W.heap.size (fun _ => True) v9 [] ∧ Below W.heap.size W w') := by
      intro W hW
      have hlen : (y.take x.toNat).length = x.toNat := by rw [List.length_take]; omega
      have hcc := C_take x.toNat (by omega) hW
      have := code_Object.calls (some ⟨g, 0, none⟩) dv (y.take x.toNat) [] [] [] [] 0 0 [] [] [] [] false W (by rw [hlen]; exact hcc) (by omega) (HCUT.out x.toNat (by omega))
      rw [hlen] at this
      exact this
    have KC1 := Aside0.mk (KC wb hr.2.2)
    clear KC hr HCUT
    have q1 : (y.length : Int) ≠ 0 := by omega
    have q2 : ¬ ((y.length : Int) = 0) := q1
    have q3 : x ≤ (dv : Int) := by omega
    have q4 : x ≤ (y.length : Int) := by omega
    go_upto_region 7 with (fail)
    go_upto_region 8 with (go_at_call 10; refine KC1.out.mono ?_; rintro e wo ⟨v0, v1, v2, v3, v6, v7, v8, v9, rfl, r0, r1, r2, r3, r6, r7, r8, r9, hbo⟩; obtain ⟨B0, d0, rfl⟩ := Kd.R_slice r0; obtain ⟨B1, d1, rfl⟩ := Kd.R_slice r1; obtain ⟨B2, d2, rfl⟩ := Kd.R_slice r2; obtain ⟨B3, d3, rfl⟩ := Kd.R_slice r3; obtain ⟨B6, d6, rfl⟩ := Kd.R_slice r6; obtain ⟨B7, d7, rfl⟩ := Kd.R_slice r7; obtain ⟨B8, d8, rfl⟩ := Kd.R_slice r8; obtain ⟨B9, d9, rfl⟩ := Kd.R_slice r9; have HBO := Aside0.mk hbo; clear hbo r0 r1 r2 r3 r6 r7 r8 r9)
    have hb8 := (HB3.out.trans (HBO.out.mono HB3.out.size)).alloc (HB3.out.trans (HBO.out.mono HB3.out.size)).size (Obj.cells #[.slice B0 0 d0, .slice B1 0 d1, .slice B2 0 d2, .slice B3 0 d3, .int .i64 0, .int .i64 0, .slice B6 0 d6, .slice B7 0 d7, .slice B8 0 d8, .slice B9 0 d9] 28)
    have hr8 := Kd.R_below HRB.out (HBO.out.alloc HBO.out.size (Obj.cells #[.slice B0 0 d0, .slice B1 0 d1, .slice B2 0 d2, .slice B3 0 d3, .int .i64 0, .int .i64 0, .slice B6 0 d6, .slice B7 0 d7, .slice B8 0 d8, .slice B9 0 d9] 28))
    obtain ⟨W8, hW⟩ : ∃ W, W = wo.alloc (Obj.cells #[.slice B0 0 d0, .slice B1 0 d1, .slice B2 0 d2, .slice B3 0 d3, .int .i64 0, .int .i64 0, .slice B6 0 d6, .slice B7 0 d7, .slice B8 0 d8, .slice B9 0 d9] 28) := ⟨_, rfl⟩
    rw [← hW] at hb8 hr8 ⊢
    clear hW HBO
    have HB8 := Aside0.mk hb8
    have HR8 := Aside0.mk hr8
    obtain ⟨q5, q6⟩ := Kd.R_celln (0 : Int) hr8 x hx0 hx1
    clear hb8 hr8
    have hyx : y[x.toNat]'(by omega) = rdOf 0 y x := by
      have := rd_opt' hx0 hx1
      rw [List.getElem?_eq_getElem (by omega)] at this
      exact Option.some.inj this
    obtain ⟨z, hz⟩ : ∃ z, rdOf 0 y x = z := ⟨_, rfl⟩
    rw [hz] at q5 hyx
    clear hz
    by_cases hc : z = to_
    · subst hc
      clear HTURN hyx
      go_wp2_with fail
      go_ret
      exact ⟨rfl, HB8.out⟩
    · have e1 : (z == to_) = false := beq_false_of_ne hc
      have KC := fun (W : World) (hW : Kd.C (Kd.int .u8) W (some ⟨g, 0, none⟩) y.length (y.set x.toNat to_)) => code_Object.calls (some ⟨g, 0, none⟩) dv (y.set x.toNat to_) [] [] [] [] 0 0 [] [] [] [] false W (by rw [List.length_set]; exact hW) (by rw [List.length_set]; exact hcap) (HTURN.out x.toNat (by omega) (by rw [hyx]; exact hc))
      rw [List.length_set] at KC
      have KCA := Aside0.mk KC
      clear KC HTURN hyx hc
      go_upto_region 11 with (fail)
      have hr10 := Kd.R_putn HR8.out x to_
      have hb10 := HB8.out.setCell (p := ⟨g, x.toNat, none⟩) HG.out (.int .u8 to_)
      obtain ⟨W10, hW⟩ : ∃ W, W = W8.setCell ⟨g, x.toNat, none⟩ (.int .u8 to_) := ⟨_, rfl⟩
      rw [← hW] at hr10 hb10 ⊢
      clear hW q5 q6 HB8 HR8
      have hc10 := (Kd.R_reads' hr10).2.2
      rw [List.length_set] at hc10
      have KC2 := Aside0.mk (KCA.out W10 hc10)
      have HB10 := Aside0.mk hb10
      clear KCA hr10 hb10 hc10
      go_wp2_with (go_at_call 10; refine KC2.out.mono ?_; rintro e wo ⟨v0, v1, v2, v3, v6, v7, v8, v9, rfl, r0, r1, r2, r3, r6, r7, r8, r9, hbo⟩; obtain ⟨B0, d0, rfl⟩ := Kd.R_slice r0; obtain ⟨B1, d1, rfl⟩ := Kd.R_slice r1; obtain ⟨B2, d2, rfl⟩ := Kd.R_slice r2; obtain ⟨B3, d3, rfl⟩ := Kd.R_slice r3; obtain ⟨B6, d6, rfl⟩ := Kd.R_slice r6; obtain ⟨B7, d7, rfl⟩ := Kd.R_slice r7; obtain ⟨B8, d8, rfl⟩ := Kd.R_slice r8; obtain ⟨B9, d9, rfl⟩ := Kd.R_slice r9; have HBO := Aside0.mk hbo; clear hbo r0 r1 r2 r3 r6 r7 r8 r9)
      go_ret
      exact ⟨rfl, (HB10.out.trans (HBO.out.mono HB10.out.size)).alloc (HB10.out.trans (HBO.out.mono HB10.out.size)).size _⟩
#print axioms turned_walk
end Go.Proofs.Ytccolpkjgjjipaa.K
