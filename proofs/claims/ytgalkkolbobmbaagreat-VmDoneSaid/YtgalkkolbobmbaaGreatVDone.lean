/- The law VmDone: the walk. -/
import Derived.Test.YtgalkkolbobmbaaGreatVClone
import Derived.Test.YtgalkkolbobmbaaGreatVLaw
import Derived.Test.YtgalkkolbobmbaaGreatVStepO
import Derived.Test.YtgalkkolbobmbaaGreatQ2
import Derived.Test.YtgalkkolbobmbaaGreatMLa

namespace Go.Proofs.YtgalkkolbobmbaaGreat.V
open Go.RowKit Go.Proofs.YtgalkkolbobmbaaGreatW.PrintWords Go.Proofs.YtgalkkolbobmbaaGreatW.PrintLast Go.Proofs.YtgalkkolbobmbaaGreatW.PrintMore
set_option linter.unusedVariables false
set_option linter.unusedSimpArgs false
def dn6_T : Bool × List (List Nat × List Nat) := (true, [([], []), ([0], [0]), ([1], [1]), ([2], [2]), ([3, 2, 2], [2, 3]), ([4, 2], [2, 4]), ([2, 5], [2, 5]), ([6, 4], [6]), ([7], [7]), ([8, 7, 7], [7, 8]), ([7], [7]), ([9, 10, 9, 7], [7, 9, 10]), ([11, 7], [7, 11]), ([7, 12], [7, 12])])
def dn6_B : List Nat := [0, 1, 3, 7, 15, 31, 63, 127, 255, 511, 255, 2047, 4095, 8191]
theorem dn6_tab : rtab .any (opsOf Tryz.f3 6) = dn6_T := by kernel_rfl
theorem dn6_bits : waitsOk dn6_T.2 dn6_B = true := by kernel_rfl
set_option maxHeartbeats 1000000 in
set_option maxRecDepth 100000 in
theorem great18_o (Ai As Am : Option Addr) (ci cs cm ni ns nm : Nat) (h1 : ni ≤ 20000000000000) (h2 : ns ≤ 20000000000000) (h3 : nm ≤ 20000000000000) (w : World) :
 Calls Tryz.prog 21 #[.slice Ai ni ci, .slice As ns cs, .slice Am nm cm] w fun e w' => e = .returned (.bool (decide ((ni : Int) + ns + nm > 900))) ∧ w' = w := by
 have e1 : wrap64 ((ni : Int) + ns) = (ni : Int) + ns := wrap_in (by omega) (by omega)
 have e2 : wrap64 ((ni : Int) + ns + nm) = (ni : Int) + ns + nm := wrap_in (by omega) (by omega)
 go_enter Tryz.func21, Tryz.ntmps21
 go_wp2
 go_ret
 exact ⟨by first | rfl | simp, rfl⟩
theorem C_nil0 (w : World) : Kd.C (Kd.int .i64) w none (([] : List Int).length) [] := ⟨by simp, by simp, fun h => absurd h (by simp)⟩
theorem deriv_noO {n Bm : Nat} {o : S26} {dn : Int} {w : World} (h : MachO n Bm o dn w) (Ai As Am : Option Addr) (ci cs cm ni ns nm : Nat) (hf : ¬ (ni = o.f0.length ∧ ns = o.f2.length ∧ nm = o.f3.length)) :
 Calls Tryz.prog 27 #[.pointer (some ⟨Bm, 0, none⟩), .slice Ai ni ci, .slice As ns cs, .slice Am nm cm] w fun e w' => e = .returned (.tuple #[.slice none 0 0, .int .i64 0, .int .i64 13]) ∧ w' = w := by
 obtain ⟨k, v0, v1, v2, v3, v6, v7, v8, v9, hM⟩ := h
 exact deriv_no hM Ai As Am ni ns nm ci cs cm hf
set_option maxHeartbeats 8000000 in
set_option maxRecDepth 100000 in
theorem vmDone_calls (o : S26) (A0 A1 A2 A3 A6 A7 A8 A9 : Option Addr) (c0 c1 c2 c3 c6 c7 c8 c9 : Nat) (Ai As Am Ar : Option Addr) (ci cs cm cr : Nat) (inn st mem : List Int) (raised : List Bool) (w : World)
 (HO : ObjC w o A0 A1 A2 A3 A6 A7 A8 A9 c0 c1 c2 c3 c6 c7 c8 c9) (HI : LstC w inn Ai ci) (HS : LstC w st As cs) (HM : LstC w mem Am cm) (hRr : Kd.C Kd.bool w Ar raised.length raised) (hG : G26 o) (ai : AllIn inn) (ais : AllIn st) (am : AllIn mem) (hl1 : inn.length ≤ 20000000000000) (hl2 : st.length ≤ 20000000000000) (hl3 : mem.length ≤ 20000000000000) :
 Calls Tryz.prog 3 #[.agg #[.slice A0 o.f0.length c0, .slice A1 o.f1.length c1, .slice A2 o.f2.length c2, .slice A3 o.f3.length c3, .int .i64 o.f4, .int .i64 o.f5, .slice A6 o.f6.length c6, .slice A7 o.f7.length c7, .slice A8 o.f8.length c8, .slice A9 o.f9.length c9], .slice Ai inn.length ci, .slice As st.length cs, .slice Am mem.length cm, .slice Ar raised.length cr] w
  fun e w' => e = .returned (.bool true) ∧ Below w.heap.size w w' := by
 have hu26 := Tryz.underlying26
 obtain ⟨kR, rr, hrr, hgood⟩ := right_good hG
 have HRR := Aside0.mk hrr
 have HO := Aside0.mk HO
 have HI := Aside0.mk HI
 have HS := Aside0.mk HS
 have HM := Aside0.mk HM
 have HR := Aside0.mk hRr
 have HIN := Aside0.mk (And.intro ai (And.intro ais am))
 clear ai ais am hG hrr hRr
 go_enter Tryz.func3, Tryz.ntmps3
 go_wp2_with (first | (go_at_call 19; refine (V.astrolabelaw18_alive.calls true _ rfl).mono ?_; rintro e w1 ⟨rfl, hb1⟩; have HB := Aside0.mk (below_step (below_alloc (Below.refl _ _) _) hb1 : Below w.heap.size w w1); have HX := Aside0.mk (show w1.heap[w.heap.size]? = some (.cells #[.slice A0 o.f0.length c0, .slice A1 o.f1.length c1, .slice A2 o.f2.length c2, .slice A3 o.f3.length c3, .int .i64 o.f4, .int .i64 o.f5, .slice A6 o.f6.length c6, .slice A7 o.f7.length c7, .slice A8 o.f8.length c8, .slice A9 o.f9.length c9] 26 (0, 0)) from (hb1.block _ (by simp)).trans (blk_new w _)); clear hb1) | (refine wpList_load_row rfl 26 _ rfl w.heap.size rfl 26 #[.slice A0 o.f0.length c0, .slice A1 o.f1.length c1, .slice A2 o.f2.length c2, .slice A3 o.f3.length c3, .int .i64 o.f4, .int .i64 o.f5, .slice A6 o.f6.length c6, .slice A7 o.f7.length c7, .slice A8 o.f8.length c8, .slice A9 o.f9.length c9] (0, 0) _ HX.out Tryz.underlying26 rfl (by kernel_rfl) ?_))
 refine (great16_o (HO.out.below HB.out)).mono ?_
 rintro e w2 ⟨rfl, hb2⟩
 have HBJ := Aside0.mk hb2
 have n1_ := Aside0.mk (below_step (by repeat (first | exact HB.out | apply pw_below_drewN | apply below_drew1)) hb2)
 have n2_ := Aside0.mk ((hb2.block _ (lt_of_block HX.out)).trans HX.out)
 clear hb2 HB HX
 have HB := n1_
 have HX := n2_
 clear n1_ n2_
 cases hg : gr16 o with
 | true =>
  go_wp2_with fail
  go_ret
  exact ⟨rfl, by repeat (first | exact HB.out | apply pw_below_drewN | apply below_drew1)⟩
 | false =>
  obtain ⟨hz0, hz1, hz2, hz3, hz4, hz5, hz6, hz7, hz8, hz9⟩ := cz10 (w := w2) (g := w.heap.size) HX.out
  by_cases hg18 : (inn.length : Int) + st.length + mem.length > 900
  · have hgd : decide ((inn.length : Int) + st.length + mem.length > 900) = true := decide_eq_true hg18
    go_wp2_with (go_at_call 21; refine (great18_o Ai As Am ci cs cm _ _ _ hl1 hl2 hl3 _).mono ?_; rintro e w3 ⟨rfl, rfl⟩; rw [hgd])
    go_ret
    exact ⟨rfl, by repeat (first | exact HB.out | apply pw_below_drewN | apply below_drew1)⟩
  · have hgd : decide ((inn.length : Int) + st.length + mem.length > 900) = false := decide_eq_false hg18
    by_cases hr3 : (raised.length : Int) > 300
    · have hrd : decide ((raised.length : Int) > 300) = true := decide_eq_true hr3
      go_wp2_with (go_at_call 21; refine (great18_o Ai As Am ci cs cm _ _ _ hl1 hl2 hl3 _).mono ?_; rintro e w3 ⟨rfl, rfl⟩; rw [hgd])
      go_ret
      exact ⟨rfl, by repeat (first | exact HB.out | apply pw_below_drewN | apply below_drew1)⟩
    · have hrd : decide ((raised.length : Int) > 300) = false := decide_eq_false hr3
      go_wp2_with (go_at_call 21; refine (great18_o Ai As Am ci cs cm _ _ _ hl1 hl2 hl3 _).mono ?_; rintro e w3 ⟨rfl, rfl⟩; rw [hgd])
      clear hz0 hz1 hz2 hz3 hz4 hz5 hz6 hz7 hz8 hz9
      refine (right17_o (HO.out.below HB.out) kR rr HRR.out).mono ?_
      rintro e w4 ⟨rfl, hb4⟩
      have HBJ := Aside0.mk hb4
      have n1_ := Aside0.mk (below_step (by repeat (first | exact HB.out | apply pw_below_drewN | apply below_drew1)) hb4)
      have n2_ := Aside0.mk ((hb4.block _ (lt_of_block HX.out)).trans HX.out)
      clear hb4 HB HX
      have HB := n1_
      have HX := n2_
      clear n1_ n2_
      cases rr with
      | false =>
       go_wp2_with fail
       go_ret
       exact ⟨rfl, by repeat (first | exact HB.out | apply pw_below_drewN | apply below_drew1)⟩
      | true =>
       have HGD := Aside0.mk (hgood rfl)
       clear hgood hg hg18 hgd hr3 hrd
       have hbd := right_bounds HGD.out.right
       have HLN := Aside0.mk (show o.f0.length ≤ 100000 ∧ o.f1.length ≤ 100000 ∧ o.f2.length ≤ 100000 ∧ o.f3.length ≤ 100000 ∧ o.f6.length ≤ 100000 ∧ o.f7.length ≤ 100000 ∧ o.f8.length ≤ 100000 ∧ o.f9.length ≤ 100000 by omega)
       go_wp2_with (refine wpList_load_row rfl 26 _ rfl w.heap.size rfl 26 #[.slice A0 o.f0.length c0, .slice A1 o.f1.length c1, .slice A2 o.f2.length c2, .slice A3 o.f3.length c3, .int .i64 o.f4, .int .i64 o.f5, .slice A6 o.f6.length c6, .slice A7 o.f7.length c7, .slice A8 o.f8.length c8, .slice A9 o.f9.length c9] (0, 0) _ HX.out Tryz.underlying26 rfl (by kernel_rfl) ?_)
       refine (new_o (HO.out.below HB.out) HGD.out).mono ?_
       rintro e w6 ⟨Bm, rfl, hM6, hb6⟩
       have hn5 := lt_of_block HX.out
       have HBJ := Aside0.mk hb6
       have n1_ := Aside0.mk (below_step (by repeat (first | exact HB.out | apply pw_below_drewN | apply below_drew1)) hb6)
       have n2_ := Aside0.mk ((hb6.block _ (lt_of_block HX.out)).trans HX.out)
       clear hb6 HB HX
       have HB := n1_
       have HX := n2_
       clear n1_ n2_
       have M6 := Aside0.mk hM6
       have hBm := hM6.blk
       have hBw : w.heap.size < Bm := by have h1 := hBm.1; first | omega | (simp at *; omega)
       clear hM6
       go_wp2_with fail
       have HX := Aside0.mk (show w6.drew.heap[w.heap.size]? = _ from HX.out)
       have HB := Aside0.mk (below_drew1 HB.out)
       have M6 := Aside0.mk (M6.out.below (below_drew1 (Below.refl _ _)))
       refine start_ (n := 14) (S := fun w' => w'.cell? ⟨w.heap.size, 0, none⟩ = some (.slice A0 o.f0.length c0) ∧ w'.cell? ⟨w.heap.size, 1, none⟩ = some (.slice A1 o.f1.length c1) ∧ w'.cell? ⟨w.heap.size, 2, none⟩ = some (.slice A2 o.f2.length c2) ∧ w'.cell? ⟨w.heap.size, 3, none⟩ = some (.slice A3 o.f3.length c3) ∧ w'.cell? ⟨w.heap.size, 4, none⟩ = some (.int .i64 o.f4) ∧ w'.cell? ⟨w.heap.size, 5, none⟩ = some (.int .i64 o.f5) ∧ w'.cell? ⟨w.heap.size, 6, none⟩ = some (.slice A6 o.f6.length c6) ∧ w'.cell? ⟨w.heap.size, 7, none⟩ = some (.slice A7 o.f7.length c7) ∧ w'.cell? ⟨w.heap.size, 8, none⟩ = some (.slice A8 o.f8.length c8) ∧ w'.cell? ⟨w.heap.size, 9, none⟩ = some (.slice A9 o.f9.length c9)) (ds := []) (Array.replicate 14 false) (by kernel_rfl) rfl rfl ⟨(blk_cell HX.out 0).trans rfl, (blk_cell HX.out 1).trans rfl, (blk_cell HX.out 2).trans rfl, (blk_cell HX.out 3).trans rfl, (blk_cell HX.out 4).trans rfl, (blk_cell HX.out 5).trans rfl, (blk_cell HX.out 6).trans rfl, (blk_cell HX.out 7).trans rfl, (blk_cell HX.out 8).trans rfl, (blk_cell HX.out 9).trans rfl⟩ (fun hHeld => ?_); refine with_tabW dn6_tab dn6_bits (fun HT_ HW_ => ?_)
       refine pu HT_ 0 54 rfl rfl (by kernel_rfl) (fun _ _ _ h => h) (by rfl) (by intro w'; go_simp; with_reducible rfl) (by simp only [Act.put, sA, sB, sC, i64_w, i32_w]; rfl) ?_
       refine pu HT_ 1 55 rfl rfl (by kernel_rfl) (fun _ _ _ h => h) (by rfl) (by intro w'; go_simp; with_reducible rfl) (by simp only [Act.put, sA, sB, sC, i64_w, i32_w]; rfl) ?_
       refine pu HT_ 2 56 rfl rfl (by kernel_rfl) (fun _ _ _ h => h) (by rfl) (by intro w'; go_simp; with_reducible rfl) (by simp only [Act.put, sA, sB, sC, i64_w, i32_w]; rfl) ?_
       refine pu HT_ 3 57 rfl rfl (by kernel_rfl) (fun _ _ _ h => h) (by rfl) (by intro w'; go_simp; with_reducible rfl) (by simp only [Act.put, sA, sB, sC, i64_w, i32_w]; rfl) ?_
       refine on1 HT_ 4 (some 58) rfl rfl (by kernel_rfl) (by decide) (fun K hK => ?_)
       refine goes_ Tryz.func24 (by kernel_rfl) rfl #[.pointer (some ⟨Bm, 0, none⟩)] (by rfl) rfl rfl (by (try simp only [List.map_toArray, List.map_cons, List.map_nil]); first | done | rfl) ?_
       refine (done_o M6.out).mono ?_
       rintro e w7 ⟨rfl, rfl⟩
       refine ⟨_, rfl, ?_⟩
       refine hK.out _ _ ⟨(blk_cell HX.out 0).trans rfl, (blk_cell HX.out 1).trans rfl, (blk_cell HX.out 2).trans rfl, (blk_cell HX.out 3).trans rfl, (blk_cell HX.out 4).trans rfl, (blk_cell HX.out 5).trans rfl, (blk_cell HX.out 6).trans rfl, (blk_cell HX.out 7).trans rfl, (blk_cell HX.out 8).trans rfl, (blk_cell HX.out 9).trans rfl⟩ (fun hHeld => ?_)
       clear hK K
       refine norm_ (by show Act.put _ (some 58) _ = _; simp only [Act.put, sA, sB, sC, i64_w, i32_w]; rfl) ?_
       refine pu HT_ 5 59 rfl rfl (by kernel_rfl) (fun _ _ _ h => h) (by rfl) (by intro w'; go_simp; with_reducible rfl) (by simp only [Act.put, sA, sB, sC, i64_w, i32_w]; rfl) ?_
       refine pu HT_ 6 60 rfl rfl (by kernel_rfl) (fun _ _ _ h => h) (by rfl) (by intro w'; go_simp; with_reducible rfl) (by simp only [Act.put, sA, sB, sC, i64_w, i32_w]; rfl) ?_
       refine pu HT_ 7 61 rfl rfl (by kernel_rfl) (fun _ _ _ h => h) (by rfl) (by intro w'; go_simp; with_reducible rfl) (by simp only [Act.put, sA, sB, sC, i64_w, i32_w]; rfl) ?_
       refine pu HT_ 8 62 rfl rfl (by kernel_rfl) (fun _ _ _ h => h) (by rfl) (by intro w'; go_simp; with_reducible rfl) (by simp only [Act.put, sA, sB, sC, i64_w, i32_w]; rfl) ?_
       refine tk HT_ HW_ hHeld 10 64 rfl rfl (by kernel_rfl) (fun _ _ _ h => h) (by rfl) (by rintro w' ⟨s0, s1, s2, s3, s4, s5, s6, s7, s8, s9⟩; go_simp; with_reducible rfl) (by simp only [Act.put, sA, sB, sC, i64_w, i32_w]; rfl) ?_
       refine on1 HT_ 9 (some 63) rfl rfl (by kernel_rfl) (by decide) (fun K hK => ?_)
       refine goes_ Tryz.func26 (by kernel_rfl) rfl #[.pointer (some ⟨Bm, 0, none⟩)] (by rfl) rfl rfl (by (try simp only [List.map_toArray, List.map_cons, List.map_nil]); first | done | rfl) ?_
       refine (object_o M6.out HLN.out).mono ?_
       rintro e w8 ⟨B0, B1, B2, B3, B6, B7, B8, B9, d0, d1, d2, d3, d6, d7, d8, d9, rfl, hO8, hb8⟩
       refine ⟨_, rfl, ?_⟩
       have HBJ := Aside0.mk hb8
       have n1_ := Aside0.mk (below_step (by repeat (first | exact HB.out | apply pw_below_drewN | apply below_drew1)) hb8)
       have n2_ := Aside0.mk ((hb8.block _ (lt_of_block HX.out)).trans HX.out)
       clear hb8 HB HX
       have HB := n1_
       have HX := n2_
       clear n1_ n2_
       have M6 := Aside0.mk (M6.out.below HBJ.out)
       have O8 := Aside0.mk hO8
       clear hO8
       refine hK.out _ _ ⟨(blk_cell HX.out 0).trans rfl, (blk_cell HX.out 1).trans rfl, (blk_cell HX.out 2).trans rfl, (blk_cell HX.out 3).trans rfl, (blk_cell HX.out 4).trans rfl, (blk_cell HX.out 5).trans rfl, (blk_cell HX.out 6).trans rfl, (blk_cell HX.out 7).trans rfl, (blk_cell HX.out 8).trans rfl, (blk_cell HX.out 9).trans rfl⟩ (fun hHeld => ?_)
       clear hK K
       refine norm_ (by show Act.put _ (some 63) _ = _; simp only [Act.put, sA, sB, sC, i64_w, i32_w]; rfl) ?_
       refine on1 HT_ 11 (some 65) rfl rfl (by kernel_rfl) (by decide) (fun K hK => ?_)
       refine goes_ Tryz.func25 (by kernel_rfl) rfl #[.agg #[.slice B0 o.f0.length d0, .slice B1 o.f1.length d1, .slice B2 o.f2.length d2, .slice B3 o.f3.length d3, .int .i64 o.f4, .int .i64 o.f5, .slice B6 o.f6.length d6, .slice B7 o.f7.length d7, .slice B8 o.f8.length d8, .slice B9 o.f9.length d9], .agg #[.slice A0 o.f0.length c0, .slice A1 o.f1.length c1, .slice A2 o.f2.length c2, .slice A3 o.f3.length c3, .int .i64 o.f4, .int .i64 o.f5, .slice A6 o.f6.length c6, .slice A7 o.f7.length c7, .slice A8 o.f8.length c8, .slice A9 o.f9.length c9]] (by rfl) rfl rfl (by (try simp only [List.map_toArray, List.map_cons, List.map_nil]); first | done | rfl) ?_
       refine (equal_same o B0 B1 B2 B3 B6 B7 B8 B9 A0 A1 A2 A3 A6 A7 A8 A9 d0 d1 d2 d3 d6 d7 d8 d9 c0 c1 c2 c3 c6 c7 c8 c9 _ O8.out (HO.out.below HB.out) HLN.out).mono ?_
       rintro e w9 ⟨rfl, hb9⟩
       refine ⟨_, rfl, ?_⟩
       have HBJ := Aside0.mk hb9
       have n1_ := Aside0.mk (below_step (by repeat (first | exact HB.out | apply pw_below_drewN | apply below_drew1)) hb9)
       have n2_ := Aside0.mk ((hb9.block _ (lt_of_block HX.out)).trans HX.out)
       clear hb9 HB HX
       have HB := n1_
       have HX := n2_
       clear n1_ n2_
       have M6 := Aside0.mk (M6.out.below HBJ.out)
       refine hK.out _ _ ⟨(blk_cell HX.out 0).trans rfl, (blk_cell HX.out 1).trans rfl, (blk_cell HX.out 2).trans rfl, (blk_cell HX.out 3).trans rfl, (blk_cell HX.out 4).trans rfl, (blk_cell HX.out 5).trans rfl, (blk_cell HX.out 6).trans rfl, (blk_cell HX.out 7).trans rfl, (blk_cell HX.out 8).trans rfl, (blk_cell HX.out 9).trans rfl⟩ (fun hHeld => ?_)
       clear hK K
       refine norm_ (by show Act.put _ (some 65) _ = _; simp only [Act.put, sA, sB, sC, i64_w, i32_w]; rfl) ?_
       refine pu HT_ 12 66 rfl rfl (by kernel_rfl) (fun _ _ _ h => h) (by rfl) (by intro w'; go_simp; with_reducible rfl) (by simp only [Act.put, sA, sB, sC, i64_w, i32_w]; rfl) ?_
       refine pu HT_ 13 67 rfl rfl (by kernel_rfl) (fun _ _ _ h => h) (by rfl) (by intro w'; go_simp; with_reducible rfl) (by simp only [Act.put, sA, sB, sC, i64_w, i32_w]; rfl) ?_
       refine done_ (done_of HT_.out (by kernel_rfl)) ?_
       have LIq : ∀ {A : Option Addr} {l : List Int} {c : Nat} {W : World}, LstC w l A c → Below w.heap.size w W → LI Bm W A l := fun h hb => (h.old hb (Nat.le_refl _)).LI (Nat.le_of_lt hBw)
       have LBq : ∀ {W : World}, Below w.heap.size w W → LB Bm W Ar raised := fun hb => ⟨Kd.C_below HR.out hb, fun ad ha hp => by
        have hc := HR.out
        rw [ha] at hc
        have := C_lt hc hp (by decide)
        omega⟩
       have TB : ∀ {W W2 : World}, Below w.heap.size w W → Chg (fun k => k = Bm) W W2 → Below w.heap.size w W2 := fun hb hc => hc.to_below hb.size (fun k hk => by have h2 : k = Bm := hk; omega) hb
       go_wp2_with fail
       by_cases hf : Fits o inn st mem
       · have HF := Aside0.mk hf
         clear hf
         have hst : st.length ≤ 200 := by have := HF.out.2.1; omega
         have hmm : mem.length ≤ 200 := by have := HF.out.2.2; omega
         have DR := Aside0.mk (derivR_run HGD.out HF.out HIN.out.1 HIN.out.2.1 HIN.out.2.2)
         have hdl : (derivR o inn st mem).put.length ≤ 200 := by have := DR.out.1; omega
         obtain ⟨x1, hx1⟩ : ∃ d, (0 : Int) + o.f6.length = d := ⟨_, rfl⟩
         refine (deriv_right M6.out HGD.out Ai As Am ci cs cm inn st mem (LIq HI.out HB.out) (LIq HS.out HB.out) (LIq HM.out HB.out) HF.out HIN.out.1 HIN.out.2.1 HIN.out.2.2 (by omega) (by omega)).mono ?_
         rw [hx1]
         rintro e w10 ⟨v10, rfl, hR10, hM10, hc10⟩
         obtain ⟨AD, cD, rfl, hlD, hND⟩ := Nw.of_R' hR10
         have HB10 := Aside0.mk (TB HB.out hc10)
         have X10 := Aside0.mk ((hc10.block _ (lt_of_block HX.out) (by omega)).trans HX.out)
         have M10 := Aside0.mk hM10
         have ND := Aside0.mk hND
         have hz10 : w9.heap.size ≤ w10.heap.size := hc10.size
         have hB10 := hM10.blk.2
         have hBm9 := M6.out.blk.2
         clear hR10 hM10 hc10 HB HX M6 hND hlD
         go_wp2_with (go_at_call 24; refine (done_o M10.out).mono ?_; rintro e wq ⟨rfl, hwq⟩; rw [hwq]; clear hwq wq)
         by_cases hrl : (raised.length : Int) = o.f4
         · have HRL := Aside0.mk hrl
           clear hrl
           have SR := Aside0.mk (stepRO_run HGD.out HF.out HRL.out HIN.out.1 HIN.out.2.1 HIN.out.2.2)
           obtain ⟨sN, hsN⟩ : ∃ z, stepNO o inn st mem raised = z := ⟨_, rfl⟩
           have hN0 : 0 ≤ sN := by rw [← hsN]; exact SR.out.2.2.1
           have hN1 : sN ≤ o.f8.length := by rw [← hsN]; exact SR.out.2.2.2.1
           have hsl : (stepRO o inn st mem raised).ns.length ≤ 200 := by have := SR.out.1.1; omega
           have hml : (stepRO o inn st mem raised).nm.length ≤ 200 := by have := SR.out.2.1.1; omega
           refine (mstep_right M10.out HGD.out Ai As Am Ar ci cs cm cr inn st mem raised (LIq HI.out HB10.out) (LIq HS.out HB10.out) (LIq HM.out HB10.out) (LBq HB10.out) HF.out HRL.out HIN.out.1 HIN.out.2.1 HIN.out.2.2 (by omega) (by omega)).mono ?_
           rw [hsN]
           obtain ⟨x2, hx2⟩ : ∃ d, x1 + sN = d := ⟨_, rfl⟩
           rw [hx2]
           rintro e w12 ⟨v12, u12, rfl, hR12, hS12, hM12, hc12⟩
           obtain ⟨AS1, cS1, rfl, -, hNS1⟩ := Nw.of_R' hR12
           obtain ⟨AM1, cM1, rfl, -, hNM1⟩ := Nw.of_R' hS12
           have HB12 := Aside0.mk (TB HB10.out hc12)
           have X12 := Aside0.mk ((hc12.block _ (lt_of_block X10.out) (by omega)).trans X10.out)
           have M12 := Aside0.mk hM12
           have ND12 := Aside0.mk (ND.out.chg hc12 (fun i hi => by have h2 : i = Bm := hi; omega))
           have NS12 := Aside0.mk (And.intro hNS1 hNM1)
           have hz12 : w10.heap.size ≤ w12.heap.size := hc12.size
           clear hR12 hS12 hM12 hc12 HB10 X10 M10 ND hNS1 hNM1
           go_wp2_with (go_at_call 24; refine (done_o M12.out).mono ?_; rintro e wq ⟨rfl, hwq⟩; rw [hwq]; clear hwq wq)
           obtain ⟨x3, hx3⟩ : ∃ d, x2 + (o.f6.length : Int) = d := ⟨_, rfl⟩
           refine (deriv_right M12.out HGD.out Ai As Am ci cs cm inn st mem (LIq HI.out HB12.out) (LIq HS.out HB12.out) (LIq HM.out HB12.out) HF.out HIN.out.1 HIN.out.2.1 HIN.out.2.2 (by omega) (by omega)).mono ?_
           rw [hx3]
           rintro e w14 ⟨v14, rfl, hR14, hM14, hc14⟩
           obtain ⟨AE, cE, rfl, -, hNE⟩ := Nw.of_R' hR14
           have HB14 := Aside0.mk (TB HB12.out hc14)
           have X14 := Aside0.mk ((hc14.block _ (lt_of_block X12.out) (by omega)).trans X12.out)
           have M14 := Aside0.mk hM14
           have ND14 := Aside0.mk (ND12.out.chg hc14 (fun i hi => by have h2 : i = Bm := hi; omega))
           have NS14 := Aside0.mk (And.intro (NS12.out.1.chg hc14 (fun i hi => by have h2 : i = Bm := hi; omega)) (NS12.out.2.chg hc14 (fun i hi => by have h2 : i = Bm := hi; omega)))
           have NE14 := Aside0.mk hNE
           have hz14 : w12.heap.size ≤ w14.heap.size := hc14.size
           clear hR14 hM14 hc14 HB12 X12 M12 ND12 NS12 hNE
           go_wp2_with fail
           refine (mstep_right M14.out HGD.out Ai As Am Ar ci cs cm cr inn st mem raised (LIq HI.out HB14.out) (LIq HS.out HB14.out) (LIq HM.out HB14.out) (LBq HB14.out) HF.out HRL.out HIN.out.1 HIN.out.2.1 HIN.out.2.2 (by omega) (by omega)).mono ?_
           rw [hsN]
           obtain ⟨x4, hx4⟩ : ∃ d, x3 + sN = d := ⟨_, rfl⟩
           rw [hx4]
           rintro e w16 ⟨v16, u16, rfl, hR16, hS16, hM16, hc16⟩
           obtain ⟨AS2, cS2, rfl, -, hNS2⟩ := Nw.of_R' hR16
           obtain ⟨AM2, cM2, rfl, -, hNM2⟩ := Nw.of_R' hS16
           have HB16 := Aside0.mk (TB HB14.out hc16)
           have X16 := Aside0.mk ((hc16.block _ (lt_of_block X14.out) (by omega)).trans X14.out)
           have M16 := Aside0.mk hM16
           have ND16 := Aside0.mk (And.intro (ND14.out.chg hc16 (fun i hi => by have h2 : i = Bm := hi; omega)).c (NE14.out.chg hc16 (fun i hi => by have h2 : i = Bm := hi; omega)).c)
           have NS16 := Aside0.mk (And.intro (NS14.out.1.chg hc16 (fun i hi => by have h2 : i = Bm := hi; omega)).c hNS2.c)
           have NM16 := Aside0.mk (And.intro (NS14.out.2.chg hc16 (fun i hi => by have h2 : i = Bm := hi; omega)).c hNM2.c)
           clear hR16 hS16 hM16 hc16 HB14 X14 M14 ND14 NS14 NE14 hNS2 hNM2
           have w1' : wrap64 (x2 - x1) = sN := by rw [wrap_in (by omega) (by omega)]; omega
           have w2' : wrap64 (2 * x2) = x4 := by rw [wrap_in (by omega) (by omega)]; omega
           have b1 : decide (x1 = (o.f6.length : Int)) = true := decide_eq_true (by omega)
           have b1' : (x1 == (o.f6.length : Int)) = true := by rw [beq_iff_eq]; omega
           have b2 : decide (sN ≤ (o.f8.length : Int)) = true := decide_eq_true hN1
           have b3 : decide (x2 ≥ x1) = true := decide_eq_true (by omega)
           have b3' : decide (x1 ≤ x2) = true := decide_eq_true (by omega)
           have hb01 : 0 ≤ x4 ∧ x4 ≤ 100000000 := by omega
           clear hx1 hx2 hx3 hx4
           have z6 : w16.cell? ⟨w.heap.size, 6, none⟩ = some (.slice A6 o.f6.length c6) := (blk_cell X16.out 6).trans rfl
           have z8 : w16.cell? ⟨w.heap.size, 8, none⟩ = some (.slice A8 o.f8.length c8) := (blk_cell X16.out 8).trans rfl
           go_wp2_with fail
           refine (nums_same AD AE cD cE _ _ ND16.out.1 ND16.out.2 (by omega)).mono ?_
           rintro e _ ⟨rfl, ⟨m1, rfl⟩⟩
           go_wp2_with fail
           refine (nums_same AS1 AS2 cS1 cS2 _ _ (Kd.C_drewN NS16.out.1 _) (Kd.C_drewN NS16.out.2 _) (by omega)).mono ?_
           rintro e _ ⟨rfl, ⟨m2, rfl⟩⟩
           go_wp2_with fail
           refine (nums_same AM1 AM2 cM1 cM2 _ _ (by repeat (first | exact NM16.out.1 | refine Kd.C_drewN ?_ _)) (by repeat (first | exact NM16.out.2 | refine Kd.C_drewN ?_ _)) (by omega)).mono ?_
           rintro e _ ⟨rfl, ⟨m3, rfl⟩⟩
           have HB := Aside0.mk (show Below w.heap.size w (w16.drewN (m1 + m2 + m3)) from by repeat (first | exact HB16.out | apply pw_below_drewN))
           have MZ := Aside0.mk (M16.out.below (show Below w16.heap.size w16 (w16.drewN (m1 + m2 + m3)) from by repeat (first | exact Below.refl _ _ | apply pw_below_drewN)))
           go_wp2_with (go_at_call 24; refine (done_o MZ.out).mono ?_; rintro e wq ⟨rfl, hwq⟩; rw [hwq]; clear hwq wq)
           go_ret
           exact ⟨rfl, by repeat (first | exact HB.out | apply pw_below_drewN | apply below_drew1)⟩
         · have HRL := Aside0.mk (show ¬ ((inn.length = o.f0.length ∧ st.length = o.f2.length ∧ mem.length = o.f3.length) ∧ (raised.length : Int) = o.f4) from fun h => hrl h.2)
           clear hrl
           refine (mstep_no M10.out Ai As Am Ar ci cs cm cr inn.length st.length mem.length raised.length HRL.out).mono ?_
           rintro e wq ⟨rfl, hwq⟩
           rw [hwq]
           clear hwq wq
           go_wp2_with (go_at_call 24; refine (done_o M10.out).mono ?_; rintro e wq ⟨rfl, hwq⟩; rw [hwq]; clear hwq wq)
           obtain ⟨x3, hx3⟩ : ∃ d, x1 + (o.f6.length : Int) = d := ⟨_, rfl⟩
           refine (deriv_right M10.out HGD.out Ai As Am ci cs cm inn st mem (LIq HI.out HB10.out) (LIq HS.out HB10.out) (LIq HM.out HB10.out) HF.out HIN.out.1 HIN.out.2.1 HIN.out.2.2 (by omega) (by omega)).mono ?_
           rw [hx3]
           rintro e w14 ⟨v14, rfl, hR14, hM14, hc14⟩
           obtain ⟨AE, cE, rfl, -, hNE⟩ := Nw.of_R' hR14
           have HB14 := Aside0.mk (TB HB10.out hc14)
           have X14 := Aside0.mk ((hc14.block _ (lt_of_block X10.out) (by omega)).trans X10.out)
           have M14 := Aside0.mk hM14
           have ND16 := Aside0.mk (And.intro (ND.out.chg hc14 (fun i hi => by have h2 : i = Bm := hi; omega)).c hNE.c)
           clear hR14 hM14 hc14 HB10 X10 M10 ND hNE
           go_wp2_with fail
           refine (mstep_no M14.out Ai As Am Ar ci cs cm cr inn.length st.length mem.length raised.length HRL.out).mono ?_
           rintro e wq ⟨rfl, hwq⟩
           rw [hwq]
           clear hwq wq
           have w2' : wrap64 (2 * x1) = x3 := by rw [wrap_in (by omega) (by omega)]; omega
           have b1 : decide (x1 = (o.f6.length : Int)) = true := decide_eq_true (by omega)
           have b1' : (x1 == (o.f6.length : Int)) = true := by rw [beq_iff_eq]; omega
           clear hx1 hx3
           have z6 : w14.cell? ⟨w.heap.size, 6, none⟩ = some (.slice A6 o.f6.length c6) := (blk_cell X14.out 6).trans rfl
           have z8 : w14.cell? ⟨w.heap.size, 8, none⟩ = some (.slice A8 o.f8.length c8) := (blk_cell X14.out 8).trans rfl
           go_wp2_with fail
           refine (nums_same AD AE cD cE _ _ ND16.out.1 ND16.out.2 (by omega)).mono ?_
           rintro e _ ⟨rfl, ⟨m1, rfl⟩⟩
           go_wp2_with fail
           refine (nums_same none none 0 0 [] _ (C_nil0 _) (C_nil0 _) (by simp)).mono ?_
           rintro e _ ⟨rfl, ⟨m2, rfl⟩⟩
           go_wp2_with fail
           refine (nums_same none none 0 0 [] _ (C_nil0 _) (C_nil0 _) (by simp)).mono ?_
           rintro e _ ⟨rfl, ⟨m3, rfl⟩⟩
           have HB := Aside0.mk (show Below w.heap.size w (w14.drewN (m1 + m2 + m3)) from by repeat (first | exact HB14.out | apply pw_below_drewN))
           have MZ := Aside0.mk (M14.out.below (show Below w14.heap.size w14 (w14.drewN (m1 + m2 + m3)) from by repeat (first | exact Below.refl _ _ | apply pw_below_drewN)))
           go_wp2_with (go_at_call 24; refine (done_o MZ.out).mono ?_; rintro e wq ⟨rfl, hwq⟩; rw [hwq]; clear hwq wq)
           go_ret
           exact ⟨rfl, by repeat (first | exact HB.out | apply pw_below_drewN | apply below_drew1)⟩
       · have HF := Aside0.mk (show ¬ (inn.length = o.f0.length ∧ st.length = o.f2.length ∧ mem.length = o.f3.length) from hf)
         have HF2 := Aside0.mk (show ¬ ((inn.length = o.f0.length ∧ st.length = o.f2.length ∧ mem.length = o.f3.length) ∧ (raised.length : Int) = o.f4) from fun h => hf h.1)
         clear hf
         refine (deriv_noO M6.out Ai As Am ci cs cm inn.length st.length mem.length HF.out).mono ?_
         rintro e wq ⟨rfl, hwq⟩
         rw [hwq]
         clear hwq wq
         go_wp2_with (go_at_call 24; refine (done_o M6.out).mono ?_; rintro e wq ⟨rfl, hwq⟩; rw [hwq]; clear hwq wq)
         refine (mstep_no M6.out Ai As Am Ar ci cs cm cr inn.length st.length mem.length raised.length HF2.out).mono ?_
         rintro e wq ⟨rfl, hwq⟩
         rw [hwq]
         clear hwq wq
         go_wp2_with (go_at_call 24; refine (done_o M6.out).mono ?_; rintro e wq ⟨rfl, hwq⟩; rw [hwq]; clear hwq wq)
         refine (deriv_noO M6.out Ai As Am ci cs cm inn.length st.length mem.length HF.out).mono ?_
         rintro e wq ⟨rfl, hwq⟩
         rw [hwq]
         clear hwq wq
         go_wp2_with fail
         refine (mstep_no M6.out Ai As Am Ar ci cs cm cr inn.length st.length mem.length raised.length HF2.out).mono ?_
         rintro e wq ⟨rfl, hwq⟩
         rw [hwq]
         clear hwq wq
         go_wp2_with fail
         refine (nums_same none none 0 0 [] _ (C_nil0 _) (C_nil0 _) (by simp)).mono ?_
         rintro e _ ⟨rfl, ⟨m1, rfl⟩⟩
         go_wp2_with fail
         refine (nums_same none none 0 0 [] _ (C_nil0 _) (C_nil0 _) (by simp)).mono ?_
         rintro e _ ⟨rfl, ⟨m2, rfl⟩⟩
         go_wp2_with fail
         refine (nums_same none none 0 0 [] _ (C_nil0 _) (C_nil0 _) (by simp)).mono ?_
         rintro e _ ⟨rfl, ⟨m3, rfl⟩⟩
         go_wp2_with fail
         go_ret
         exact ⟨rfl, by repeat (first | exact HB.out | apply pw_below_drewN | apply below_drew1)⟩
/-- A list of truths as_ it lies in memory. -/
structure LstB (w : World) (l : List Bool) (A : Option Addr) (c : Nat) : Prop where
 r : Kd.C Kd.bool w A l.length l
 h : l.length ≤ c
theorem vmDone_row (o : S26) (A0 A1 A2 A3 A6 A7 A8 A9 : Option Addr) (c0 c1 c2 c3 c6 c7 c8 c9 : Nat) (inn : List Int) (Ai : Option Addr) (ci : Nat) (st : List Int) (As : Option Addr) (cs : Nat) (mem : List Int) (Am : Option Addr) (cm : Nat) (raised : List Bool) (Ar : Option Addr) (cr : Nat) (w : World)
 (HO : ObjC w o A0 A1 A2 A3 A6 A7 A8 A9 c0 c1 c2 c3 c6 c7 c8 c9) (hG : G26 o) (HI : LstC w inn Ai ci) (ai : AllIn inn) (hl1 : inn.length * 8 ≤ 140737488351232) (HS : LstC w st As cs) (ais : AllIn st) (hl2 : st.length * 8 ≤ 140737488351232) (HM : LstC w mem Am cm) (am : AllIn mem) (hl3 : mem.length * 8 ≤ 140737488351232) (HR : LstB w raised Ar cr) (hl4 : raised.length ≤ 140737488351232) :
 Calls Tryz.prog 3 #[.agg #[.slice A0 o.f0.length c0, .slice A1 o.f1.length c1, .slice A2 o.f2.length c2, .slice A3 o.f3.length c3, .int .i64 o.f4, .int .i64 o.f5, .slice A6 o.f6.length c6, .slice A7 o.f7.length c7, .slice A8 o.f8.length c8, .slice A9 o.f9.length c9], .slice Ai inn.length ci, .slice As st.length cs, .slice Am mem.length cm, .slice Ar raised.length cr] w
  fun e w' => e = .returned (.bool true) ∧ Below w.heap.size w w' :=
 vmDone_calls o A0 A1 A2 A3 A6 A7 A8 A9 c0 c1 c2 c3 c6 c7 c8 c9 Ai As Am Ar ci cs cm cr inn st mem raised w HO HI HS HM HR.r hG ai ais am (by omega) (by omega) (by omega)
end Go.Proofs.YtgalkkolbobmbaaGreat.V
