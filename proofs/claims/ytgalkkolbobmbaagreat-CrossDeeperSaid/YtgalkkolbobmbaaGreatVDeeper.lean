/- The law CrossDeeper: the walk. -/
import Derived.Test.YtgalkkolbobmbaaGreatVClone
import Derived.Test.YtgalkkolbobmbaaGreatQ0
import Derived.Test.YtgalkkolbobmbaaGreatVCrossP
import Derived.Test.YtgalkkolbobmbaaGreatPureHeunEnds

namespace Go.Proofs.YtgalkkolbobmbaaGreat.V
open Go.RowKit Go.Proofs.YtgalkkolbobmbaaGreatW.PrintWords Go.Proofs.YtgalkkolbobmbaaGreatW.PrintLast Go.Proofs.YtgalkkolbobmbaaGreatW.PrintMore
set_option linter.unusedVariables false
set_option linter.unusedSimpArgs false
def pick4 {α : Type} (x y z t : α) (j : Nat) : α := if j = 0 then x else if j = 1 then y else if j = 2 then z else t
theorem bis_bound (o : S26) (inn mem a b : List Int) (k : Int) (d : Nat) : ∀ (low high fl dn : Int), 0 ≤ low → low ≤ high → 0 ≤ (bisW o inn mem a b k d low high fl dn).1 ∧ (bisW o inn mem a b k d low high fl dn).1 ≤ high := by
 induction d with
 | zero => intro low high fl dn h1 h2; exact ⟨by show 0 ≤ high; omega, by show high ≤ high; omega⟩
 | succ d ih =>
  intro low high fl dn h1 h2
  rw [bis_succ]
  split
  · have := ih low ((low + high) / 2) (atF o inn mem a b k ((low + high) / 2) fl) (dn + o.f7.length) h1 (by omega)
    omega
  · exact ih ((low + high) / 2) high (atF o inn mem a b k ((low + high) / 2) fl) (dn + o.f7.length) (by omega) (by omega)
theorem find_bound (o : S26) (inn mem a b : List Int) (K : Nat) (hK : K ≤ 32) (dn : Int) : (0 ≤ (findW o inn mem a b K dn).1 ∧ (findW o inn mem a b K dn).1 ≤ 4294967296) ∧ dn ≤ (findW o inn mem a b K dn).2.2 ∧ (findW o inn mem a b K dn).2.2 ≤ dn + 34 * o.f7.length := by
 have hp := Q.pow32 hK
 have hF : 0 ≤ fHigh K ∧ fHigh K ≤ 4294967296 := by
  unfold fHigh
  generalize 2 ^ K = q at hp
  omega
 unfold findW
 split
 · have h1 := bis_bound o inn mem a b (K : Int) K 0 (fHigh K) (atF o inn mem a b (K : Int) (fHigh K) (zeroR o inn a mem).fl) (dn + o.f7.length + o.f7.length) (by omega) hF.1
   have h2 := (bis_dn o inn mem a b (K : Int) K 0 (fHigh K) (atF o inn mem a b (K : Int) (fHigh K) (zeroR o inn a mem).fl) (dn + o.f7.length + o.f7.length)).1
   rw [h2]
   have h3 : (K : Int) * (o.f7.length : Int) ≤ 32 * o.f7.length := Int.mul_le_mul_of_nonneg_right (by omega) (by omega)
   have h4 : (0 : Int) ≤ (K : Int) * (o.f7.length : Int) := Int.mul_nonneg (by omega) (by omega)
   refine ⟨⟨h1.1, by omega⟩, by omega, by omega⟩
 · refine ⟨hF, ?_, ?_⟩
   · show dn ≤ dn + o.f7.length + o.f7.length
     omega
   · show dn + o.f7.length + o.f7.length ≤ dn + 34 * o.f7.length
     omega
set_option maxHeartbeats 4000000 in
set_option maxRecDepth 100000 in
theorem crossDeeper_calls (o : S26) (A0 A1 A2 A3 A6 A7 A8 A9 : Option Addr) (c0 c1 c2 c3 c6 c7 c8 c9 : Nat) (Ai Am Aa Ab : Option Addr) (ci cm ca cb : Nat) (inn mem a b : List Int) (k : Int) (w : World)
 (HO : ObjC w o A0 A1 A2 A3 A6 A7 A8 A9 c0 c1 c2 c3 c6 c7 c8 c9) (HI : LstC w inn Ai ci) (HM : LstC w mem Am cm) (HA : LstC w a Aa ca) (HBb : LstC w b Ab cb) (hG : G26 o) (ai : AllIn inn) (am : AllIn mem) (aa : AllIn a) (ab : AllIn b) (hk : 0 ≤ k ∧ k ≤ 255) :
 Calls Tryz.prog 14 #[.agg #[.slice A0 o.f0.length c0, .slice A1 o.f1.length c1, .slice A2 o.f2.length c2, .slice A3 o.f3.length c3, .int .i64 o.f4, .int .i64 o.f5, .slice A6 o.f6.length c6, .slice A7 o.f7.length c7, .slice A8 o.f8.length c8, .slice A9 o.f9.length c9], .slice Ai inn.length ci, .slice Am mem.length cm, .slice Aa a.length ca, .slice Ab b.length cb, .int .u8 k] w
  fun e w' => e = .returned (.bool true) ∧ Below w.heap.size w w' := by
 have hu26 := Tryz.underlying26
 obtain ⟨kR, rr, hrr, hgood⟩ := right_good hG
 have HRR := Aside0.mk hrr
 have HO := Aside0.mk HO
 have HI := Aside0.mk HI
 have HM := Aside0.mk HM
 have HA := Aside0.mk HA
 have HBb := Aside0.mk HBb
 have HIN := Aside0.mk (And.intro ai (And.intro am (And.intro aa ab)))
 have HK := Aside0.mk hk
 clear ai am aa ab hG hrr hk
 go_enter Tryz.func14, Tryz.ntmps14
 go_wp2_with (first | (go_at_call 49; refine (X.astrolabelaw20_alive.calls true _ rfl).mono ?_; rintro e w1 ⟨rfl, hb1⟩; have HB := Aside0.mk (below_step (below_alloc (Below.refl _ _) _) hb1 : Below w.heap.size w w1); have HX := Aside0.mk (show w1.heap[w.heap.size]? = some (.cells #[.slice A0 o.f0.length c0, .slice A1 o.f1.length c1, .slice A2 o.f2.length c2, .slice A3 o.f3.length c3, .int .i64 o.f4, .int .i64 o.f5, .slice A6 o.f6.length c6, .slice A7 o.f7.length c7, .slice A8 o.f8.length c8, .slice A9 o.f9.length c9] 26 (0, 0)) from (hb1.block _ (by simp)).trans (blk_new w _)); clear hb1) | (refine wpList_load_row rfl 26 _ rfl w.heap.size rfl 26 #[.slice A0 o.f0.length c0, .slice A1 o.f1.length c1, .slice A2 o.f2.length c2, .slice A3 o.f3.length c3, .int .i64 o.f4, .int .i64 o.f5, .slice A6 o.f6.length c6, .slice A7 o.f7.length c7, .slice A8 o.f8.length c8, .slice A9 o.f9.length c9] (0, 0) _ HX.out Tryz.underlying26 rfl (by kernel_rfl) ?_))
 obtain ⟨w2, hw2⟩ : ∃ z, w1.alloc (Obj.cells #[.slice Ai inn.length ci, .slice Am mem.length cm, .slice Aa a.length ca, .slice Ab b.length cb] 23) = z := ⟨_, rfl⟩
 have hb2 : Below w1.heap.size w1 w2 := by rw [← hw2]; exact below_alloc (Below.refl _ _) _
 have hr2 : w2.heap[w1.heap.size]? = some (.cells #[.slice Ai inn.length ci, .slice Am mem.length cm, .slice Aa a.length ca, .slice Ab b.length cb] 23 (0, 0)) := by rw [← hw2]; exact blk_new w1 _
 have hrow : ∀ j, j < 4 → w2.cell? ⟨w1.heap.size, j, none⟩ = some (.slice (pick4 Ai Am Aa Ab j) (pick4 inn.length mem.length a.length b.length j) (pick4 ci cm ca cb j)) := fun j hj => by
  rcases (by omega : j = 0 ∨ j = 1 ∨ j = 2 ∨ j = 3) with rfl | rfl | rfl | rfl
  · exact (blk_cell hr2 0).trans rfl
  · exact (blk_cell hr2 1).trans rfl
  · exact (blk_cell hr2 2).trans rfl
  · exact (blk_cell hr2 3).trans rfl
 rw [hw2]
 have n1_ := Aside0.mk (below_step HB.out hb2)
 have n2_ := Aside0.mk ((hb2.block _ (lt_of_block HX.out)).trans HX.out)
 clear hw2 hb2 hr2 HB HX
 have HB := n1_
 have HX := n2_
 clear n1_ n2_
 refine (great20_o (HO.out.below HB.out) w1.heap.size 4 (pick4 Ai Am Aa Ab) (pick4 inn.length mem.length a.length b.length) (pick4 ci cm ca cb) (by decide) hrow).mono ?_
 rintro e w3 ⟨rfl, hb3⟩
 have n1_ := Aside0.mk (below_step (by repeat (first | exact HB.out | apply pw_below_drewN | apply below_drew1)) hb3)
 have n2_ := Aside0.mk ((hb3.block _ (lt_of_block HX.out)).trans HX.out)
 clear hb3 HB HX
 have HB := n1_
 have HX := n2_
 clear n1_ n2_
 clear hrow
 cases hgr : gr20 4 (pick4 inn.length mem.length a.length b.length) o with
 | true =>
  go_wp2_with fail
  go_ret
  exact ⟨rfl, by repeat (first | exact HB.out | apply pw_below_drewN | apply below_drew1)⟩
 | false =>
  obtain ⟨hz0, hz1, hz2, hz3, hz4, hz5, hz6, hz7, hz8, hz9⟩ := cz10 (w := w3) (g := w.heap.size) HX.out
  go_wp2_with fail
  refine (right17_o (HO.out.below HB.out) kR rr HRR.out).mono ?_
  rintro e w4 ⟨rfl, hb4⟩
  have n1_ := Aside0.mk (below_step (by repeat (first | exact HB.out | apply pw_below_drewN | apply below_drew1)) hb4)
  have n2_ := Aside0.mk ((hb4.block _ (lt_of_block HX.out)).trans HX.out)
  clear hb4 HB HX
  have HB := n1_
  have HX := n2_
  clear n1_ n2_
  clear hz0 hz1 hz2 hz3 hz4 hz5 hz6 hz7 hz8 hz9
  cases rr with
  | false =>
   go_wp2_with fail
   go_ret
   exact ⟨rfl, by repeat (first | exact HB.out | apply pw_below_drewN | apply below_drew1)⟩
  | true =>
   have HGD := Aside0.mk (hgood rfl)
   clear hgood
   obtain ⟨hz0, hz1, hz2, hz3, hz4, hz5, hz6, hz7, hz8, hz9⟩ := cz10 (w := w4) (g := w.heap.size) HX.out
   go_wp2_with fail
   refine (fits18_o Ai Aa Am ci ca cm inn.length a.length mem.length).mono ?_
   rintro e w5 ⟨rfl, hb5⟩
   have n1_ := Aside0.mk (below_step (by repeat (first | exact HB.out | apply pw_below_drewN | apply below_drew1)) hb5)
   have n2_ := Aside0.mk ((hb5.block _ (lt_of_block HX.out)).trans HX.out)
   clear hb5 HB HX
   have HB := n1_
   have HX := n2_
   clear n1_ n2_
   clear hz0 hz1 hz2 hz3 hz4 hz5 hz6 hz7 hz8 hz9
   by_cases hf : Fits o inn a mem
   · have HF := Aside0.mk hf
     have hfd : decide (inn.length = o.f0.length ∧ a.length = o.f2.length ∧ mem.length = o.f3.length) = true := decide_eq_true hf
     rw [hfd]
     clear hf hfd
     by_cases hl : a.length = b.length
     · have HL := Aside0.mk hl
       have hnb : ((a.length : Int) != (b.length : Int)) = false := by rw [hl]; simp
       have hne : decide ((a.length : Int) = (b.length : Int)) = true := decide_eq_true (by rw [hl])
       clear hl
       go_wp2_with (refine wpList_load_row rfl 26 _ rfl w.heap.size rfl 26 #[.slice A0 o.f0.length c0, .slice A1 o.f1.length c1, .slice A2 o.f2.length c2, .slice A3 o.f3.length c3, .int .i64 o.f4, .int .i64 o.f5, .slice A6 o.f6.length c6, .slice A7 o.f7.length c7, .slice A8 o.f8.length c8, .slice A9 o.f9.length c9] (0, 0) _ HX.out Tryz.underlying26 rfl (by kernel_rfl) ?_)
       refine (new_o (HO.out.below HB.out) HGD.out).mono ?_
       rintro e w6 ⟨Bm, rfl, hM6, hb6⟩
       have hn5 := HB.out.size
       have n1_ := Aside0.mk (below_step (by repeat (first | exact HB.out | apply pw_below_drewN | apply below_drew1)) hb6)
       have n2_ := Aside0.mk ((hb6.block _ (lt_of_block HX.out)).trans HX.out)
       clear hb6 HB HX
       have HB := n1_
       have HX := n2_
       clear n1_ n2_
       have M6 := Aside0.mk hM6
       have hBm := hM6.blk
       clear hM6 hnb hne
       obtain ⟨K, hK, hK32⟩ : ∃ K : Nat, k.tmod 32 = (K : Int) ∧ K ≤ 31 := by
        have hk := HK.out
        refine ⟨(k % 32).toNat, ?_, by omega⟩
        rw [Int.tmod_eq_emod_of_nonneg hk.1]
        omega
       have hwK : wrap64 (K : Int) = (K : Int) := wrap_in (by omega) (by omega)
       have hwK1 : wrap64 ((K : Int) + 1) = ((K + 1 : Nat) : Int) := by rw [wrap_in (by omega) (by omega)]; omega
       have LI6 : ∀ {A : Option Addr} {l : List Int} {c : Nat}, LstC w l A c → LI Bm w6 A l := fun h => (h.old HB.out hn5).LI hBm.1
       have hbd := right_bounds HGD.out.right
       go_wp2_with fail
       refine (find_any M6.out HGD.out Ai Am Aa Ab ci cm ca cb inn mem a b (LI6 HI.out) (LI6 HM.out) (LI6 HA.out) (LI6 HBb.out) HA.out.h HBb.out.h K (by omega) HF.out HL.out HIN.out.2.2.1 HIN.out.2.2.2 HIN.out.1 HIN.out.2.1 (by omega) (by omega)).mono ?_
       rintro e w7 ⟨Ar, cr, As, cs, rfl, hlr, hNr, hls, hNs, hM7, hC7⟩
       have HTW := Aside0.mk (find_twice o inn mem a b hK32 0 (findW o inn mem a b K 0).2.2)
       have hb1 := find_bound o inn mem a b K (by omega) 0
       have hb2 := find_bound o inn mem a b (K + 1) (by omega) (findW o inn mem a b K 0).2.2
       obtain ⟨dn7, hdn7⟩ : ∃ z, (findW o inn mem a b K 0).2.2 = z := ⟨_, rfl⟩
       rw [hdn7] at hM7 HTW hb1 hb2
       obtain ⟨px, hpx⟩ : ∃ z, (findW o inn mem a b K 0).1 = z := ⟨_, rfl⟩
       rw [hpx] at hlr hNr HTW hb1 ⊢
       obtain ⟨py, hpy⟩ : ∃ z, (findW o inn mem a b (K + 1) dn7).1 = z := ⟨_, rfl⟩
       rw [hpy] at HTW hb2
       have HPY := Aside0.mk hpy
       obtain ⟨rx, hrx⟩ : ∃ z, rsAt o inn mem a b (K : Int) px = z := ⟨_, rfl⟩
       have hlrx : rx.length ≤ 200 := by rw [← hrx]; unfold rsAt; rw [Pure.raisV_length]; omega
       rw [hrx] at hlr hNr HTW ⊢
       clear hdn7 hpx hrx hls hNs hpy
       have n1_ := Aside0.mk (hC7.to_below (n := w.heap.size) HB.out.size (fun i hi => by have : i = Bm := hi; have := hn5; have := hBm.1; first | omega | (simp at *; omega)) HB.out)
       have LI7 := Aside0.mk (And.intro ((LI6 HI.out).chg hC7) (And.intro ((LI6 HM.out).chg hC7) (And.intro ((LI6 HA.out).chg hC7) ((LI6 HBb.out).chg hC7))))
       have M7 := Aside0.mk hM7
       have NR := Aside0.mk (And.intro hlr hNr)
       have hz7 := hC7.size
       clear hlr hNr hM7 hC7 HB HX M6 LI6
       have HB := n1_
       clear n1_
       go_wp2_with fail
       obtain ⟨w8, hw8⟩ : ∃ z, w7.alloc (Obj.cells #[.int .i64 px, .slice Ar rx.length cr, .slice As (findS o inn mem a b K).length cs] 72) = z := ⟨_, rfl⟩
       have hb8 : Below w7.heap.size w7 w8 := by rw [← hw8]; exact below_alloc (Below.refl _ _) _
       have X8 := Aside0.mk (show w8.heap[w7.heap.size]? = some (.cells #[.int .i64 px, .slice Ar rx.length cr, .slice As (findS o inn mem a b K).length cs] 72 (0, 0)) by rw [← hw8]; exact blk_new w7 _)
       rw [hw8]
       have n1_ := Aside0.mk (below_step HB.out hb8)
       have NR8 := Aside0.mk (NR.out.2.below hb8)
       have M8 := Aside0.mk (M7.out.below hb8)
       have LI8 := Aside0.mk (And.intro (LI7.out.1.below hb8) (And.intro (LI7.out.2.1.below hb8) (And.intro (LI7.out.2.2.1.below hb8) (LI7.out.2.2.2.below hb8))))
       clear HB hw8 hb8 M7 LI7
       have HB := n1_
       clear n1_
       have hz8 : w7.heap.size < w8.heap.size := lt_of_block X8.out
       refine (find_any M8.out HGD.out Ai Am Aa Ab ci cm ca cb inn mem a b LI8.out.1 LI8.out.2.1 LI8.out.2.2.1 LI8.out.2.2.2 HA.out.h HBb.out.h (K + 1) (by omega) HF.out HL.out HIN.out.2.2.1 HIN.out.2.2.2 HIN.out.1 HIN.out.2.1 (by omega) (by omega)).mono ?_
       rintro e w9 ⟨Ay, cy, At, ct, rfl, hly, hNy, -, -, -, hC9⟩
       rw [HPY.out] at hly hNy ⊢
       obtain ⟨ry, hry⟩ : ∃ z, rsAt o inn mem a b ((K + 1 : Nat) : Int) py = z := ⟨_, rfl⟩
       have hlry : ry.length ≤ 200 := by rw [← hry]; unfold rsAt; rw [Pure.raisV_length]; omega
       rw [hry] at hly hNy HTW ⊢
       have n1_ := Aside0.mk (hC9.to_below (n := w.heap.size) HB.out.size (fun i hi => by have : i = Bm := hi; have := hn5; have := hBm.1; first | omega | (simp at *; omega)) HB.out)
       have X9 := Aside0.mk ((hC9.block _ (lt_of_block X8.out) (by omega)).trans X8.out)
       have NR9 := Aside0.mk (NR8.out.chg hC9 (fun i hi => by have : i = Bm := hi; omega))
       have NY := Aside0.mk (And.intro hly hNy)
       have hz9 : w8.heap.size ≤ w9.heap.size := hC9.size
       clear hly hNy hry hC9 X8 NR8 M8 LI8 HB
       have HB := n1_
       clear n1_
       obtain ⟨kA, hkA⟩ := (any_ev rx (by omega)).rounds
       obtain ⟨kB, hkB⟩ := (any_ev ry (by omega)).rounds
       rw [HTW.out.1] at hkB
       have HKS := Aside0.mk (And.intro hkA hkB)
       clear hkA hkB
       go_wp2_with fail
       obtain ⟨w10, hw10⟩ : ∃ z, w9.alloc (Obj.cells #[.int .i64 py, .slice Ay ry.length cy, .slice At (findS o inn mem a b (K + 1)).length ct] 72) = z := ⟨_, rfl⟩
       have hb10 : Below w9.heap.size w9 w10 := by rw [← hw10]; exact below_alloc (Below.refl _ _) _
       have Y10 := Aside0.mk (show w10.heap[w9.heap.size]? = some (.cells #[.int .i64 py, .slice Ay ry.length cy, .slice At (findS o inn mem a b (K + 1)).length ct] 72 (0, 0)) by rw [← hw10]; exact blk_new w9 _)
       rw [hw10]
       have n1_ := Aside0.mk (below_step HB.out hb10)
       have NR10 := Aside0.mk (And.intro NR.out.1 (NR9.out.below hb10))
       have NY10 := Aside0.mk (And.intro NY.out.1 (NY.out.2.below hb10))
       have X10 := Aside0.mk ((hb10.block _ (lt_of_block X9.out)).trans X9.out)
       clear HB hw10 hb10 NR9 NY X9
       have HB := n1_
       clear n1_
       have qx0 : w10.cell? ⟨w7.heap.size, 0, none⟩ = some (.int .i64 px) := (blk_cell X10.out 0).trans rfl
       have qx1 : w10.cell? ⟨w7.heap.size, 1, none⟩ = some (.slice Ar rx.length cr) := (blk_cell X10.out 1).trans rfl
       have qy0 : w10.cell? ⟨w9.heap.size, 0, none⟩ = some (.int .i64 py) := (blk_cell Y10.out 0).trans rfl
       have qy1 : w10.cell? ⟨w9.heap.size, 1, none⟩ = some (.slice Ay ry.length cy) := (blk_cell Y10.out 1).trans rfl
       cases hax : anyV rx with
       | false =>
        rw [hax] at HKS HTW
        obtain rfl : py = 2 * px := by rcases HTW.out.2 with h9 | h9; exact h9; exact absurd h9.1 (by decide)
        have hmul : wrap64 (2 * px) = 2 * px := wrap_in (by omega) (by omega)
        go_quiet (first | (go_at_call 51; refine Calls.quiet_of ((X.cross_Any.calls kA Ar cr rx false _ (Kd.C_below NR10.out.2.c (pw_below_drewN (Below.refl _ _) _)) NR10.out.1 HKS.out.1).mono fun e w' h => ⟨h.1, h.2.out⟩)) | (go_at_call 51; refine Calls.quiet_of ((X.cross_Any.calls kB Ay cy ry false _ (Kd.C_below NY10.out.2.c (pw_below_drewN (Below.refl _ _) _)) NY10.out.1 HKS.out.2).mono fun e w' h => ⟨h.1, h.2.out⟩)))
        go_wp2_with fail
        go_ret
        exact ⟨rfl, by repeat (first | exact HB.out | apply pw_below_drewN | apply below_drew1)⟩
       | true =>
        rw [hax] at HKS HTW
        have hmul : wrap64 (2 * px) = 2 * px := wrap_in (by omega) (by omega)
        go_quiet (first | (go_at_call 51; refine Calls.quiet_of ((X.cross_Any.calls kA Ar cr rx true _ (Kd.C_below NR10.out.2.c (pw_below_drewN (Below.refl _ _) _)) NR10.out.1 HKS.out.1).mono fun e w' h => ⟨h.1, h.2.out⟩)) | (go_at_call 51; refine Calls.quiet_of ((X.cross_Any.calls kB Ay cy ry true _ (Kd.C_below NY10.out.2.c (pw_below_drewN (Below.refl _ _) _)) NY10.out.1 HKS.out.2).mono fun e w' h => ⟨h.1, h.2.out⟩)))
        by_cases hpp : py = 2 * px
        · subst hpp
          go_wp2_with fail
          go_ret
          exact ⟨rfl, by repeat (first | exact HB.out | apply pw_below_drewN | apply below_drew1)⟩
        · have hpq : py = 2 * px - 1 := by rcases HTW.out.2 with h9 | h9; exact absurd h9 hpp; exact h9.2
          subst hpq
          have hmul2 : wrap64 (2 * px - 1) = 2 * px - 1 := wrap_in (by omega) (by omega)
          have he1 : decide (2 * px - 1 = 2 * px) = false := decide_eq_false (by omega)
          have he2 : (2 * px - 1 == 2 * px) = false := by rw [beq_eq_false_iff_ne]; omega
          go_wp2_with (go_at_call 51; refine (X.cross_Any.calls kA Ar cr rx true _ (Kd.C_below NR10.out.2.c (pw_below_drewN (Below.refl _ _) _)) NR10.out.1 HKS.out.1).mono ?_; rintro e w12 ⟨rfl, hd12⟩; have n1_ := Aside0.mk (below_step (by repeat (first | exact HB.out | apply pw_below_drewN | apply below_drew1)) hd12.below : Below w.heap.size w w12); have qx0' : w12.cell? ⟨w7.heap.size, 0, none⟩ = some (.int .i64 px) := (blk_cell ((hd12.below.block _ (lt_of_block X10.out)).trans X10.out) 0).trans rfl; have qy0' : w12.cell? ⟨w9.heap.size, 0, none⟩ = some (.int .i64 (2 * px - 1)) := (blk_cell ((hd12.below.block _ (lt_of_block Y10.out)).trans Y10.out) 0).trans rfl; clear HB hd12; have HB := n1_; clear n1_)
          go_ret
          exact ⟨rfl, by repeat (first | exact HB.out | apply pw_below_drewN | apply below_drew1)⟩
     · have hnb : ((a.length : Int) != (b.length : Int)) = true := by rw [bne_iff_ne]; omega
       have hne : decide ((a.length : Int) = (b.length : Int)) = false := decide_eq_false (by omega)
       go_wp2_with fail
       go_ret
       exact ⟨rfl, by repeat (first | exact HB.out | apply pw_below_drewN | apply below_drew1)⟩
   · have hfd : decide (inn.length = o.f0.length ∧ a.length = o.f2.length ∧ mem.length = o.f3.length) = false := decide_eq_false hf
     rw [hfd]
     go_wp2_with fail
     go_ret
     exact ⟨rfl, by repeat (first | exact HB.out | apply pw_below_drewN | apply below_drew1)⟩
theorem crossDeeper_row (o : S26) (A0 A1 A2 A3 A6 A7 A8 A9 : Option Addr) (c0 c1 c2 c3 c6 c7 c8 c9 : Nat) (inn : List Int) (Ai : Option Addr) (ci : Nat) (mem : List Int) (Am : Option Addr) (cm : Nat) (a : List Int) (Aa : Option Addr) (ca : Nat) (b : List Int) (Ab : Option Addr) (cb : Nat) (k : Int) (w : World)
 (HO : ObjC w o A0 A1 A2 A3 A6 A7 A8 A9 c0 c1 c2 c3 c6 c7 c8 c9) (hG : G26 o) (HI : LstC w inn Ai ci) (ai : AllIn inn) (hl1 : inn.length * 8 ≤ 140737488351232) (HM : LstC w mem Am cm) (am : AllIn mem) (hl2 : mem.length * 8 ≤ 140737488351232) (HA : LstC w a Aa ca) (aa : AllIn a) (hl3 : a.length * 8 ≤ 140737488351232) (HBb : LstC w b Ab cb) (ab : AllIn b) (hl4 : b.length * 8 ≤ 140737488351232) (ik : (Lit.int .u8 k).wf = true) :
 Calls Tryz.prog 14 #[.agg #[.slice A0 o.f0.length c0, .slice A1 o.f1.length c1, .slice A2 o.f2.length c2, .slice A3 o.f3.length c3, .int .i64 o.f4, .int .i64 o.f5, .slice A6 o.f6.length c6, .slice A7 o.f7.length c7, .slice A8 o.f8.length c8, .slice A9 o.f9.length c9], .slice Ai inn.length ci, .slice Am mem.length cm, .slice Aa a.length ca, .slice Ab b.length cb, .int .u8 k] w
  fun e w' => e = .returned (.bool true) ∧ Below w.heap.size w w' :=
 crossDeeper_calls o A0 A1 A2 A3 A6 A7 A8 A9 c0 c1 c2 c3 c6 c7 c8 c9 Ai Am Aa Ab ci cm ca cb inn mem a b k w HO HI HM HA HBb hG ai am aa ab (Pure.u8_in ik)
end Go.Proofs.YtgalkkolbobmbaaGreat.V
