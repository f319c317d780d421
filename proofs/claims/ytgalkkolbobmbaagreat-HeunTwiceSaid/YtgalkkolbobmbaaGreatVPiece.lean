/- heun: a state along slopes; the means of slopes: the closures' walks. -/
import Derived.Test.YtgalkkolbobmbaaGreatVEach
import Derived.Test.YtgalkkolbobmbaaGreatVMDiv2
import Derived.Test.YtgalkkolbobmbaaGreatV3

namespace Go.Proofs.YtgalkkolbobmbaaGreat.V
open Go.RowKit Go.Proofs.YtgalkkolbobmbaaGreatW.PrintWords Go.Proofs.YtgalkkolbobmbaaGreatW.PrintLast Go.Proofs.YtgalkkolbobmbaaGreatW.PrintMore
set_option linter.unusedVariables false
set_option linter.unusedSimpArgs false
theorem drawn_below {w w' : World} (h : Drawn0 w w') : Below w.heap.size w w' := h.below
theorem four_allocs (w : World) (o0 o1 o2 o3 : Obj) (W : World) (h : (((w.alloc o0).alloc o1).alloc o2).alloc o3 = W) :
 W.heap[w.heap.size]? = some o0 ∧ W.heap[w.heap.size + 1]? = some o1 ∧ W.heap[w.heap.size + 1 + 1]? = some o2 ∧ W.heap[w.heap.size + 1 + 1 + 1]? = some o3 ∧ Below w.heap.size w W := by
 subst h
 have z : ∀ (w : World) (o : Obj), (w.alloc o).heap[w.heap.size]? = some o := fun w o => heap_alloc_new w o
 have s : ∀ (w : World) (o : Obj), (w.alloc o).heap.size = w.heap.size + 1 := fun w o => by simp
 refine ⟨blk_alloc (blk_alloc (blk_alloc (z w o0) _) _) _, blk_alloc (blk_alloc ?_ _) _, blk_alloc ?_ _, ?_, ?_⟩
 · have := z (w.alloc o0) o1; rwa [s] at this
 · have := z ((w.alloc o0).alloc o1) o2; rwa [s, s] at this
 · have := z (((w.alloc o0).alloc o1).alloc o2) o3; rwa [s, s, s] at this
 · repeat (first | exact Below.refl _ _ | apply below_alloc)
theorem ne_type {w : World} {S B t : Nat} {x y : Array Value} (hS : w.heap[S]? = some (.cells x 124 (0, 0))) (hB : w.heap[B]? = some (.cells y t (0, 0))) (ht : t ≠ 124) : B ≠ S := fun e => by
 subst e
 rw [hS] at hB
 injection hB with hB
 injection hB with _ hB
 exact ht hB.symm
/-- Where along's closure is called. -/
structure AlW (S b0 b1 b2 b3 : Nat) (As Ak : Option Addr) (cs ck : Nat) (st sl : List Int) (h fl : Int) (W : World) : Prop where
 fs : FlagAt S fl W
 h0 : W.heap[b0]? = some (.cells #[.pointer (some ⟨S, 0, none⟩)] 209 (0, 0))
 h1 : W.heap[b1]? = some (.cells #[.slice As st.length cs] 23 (0, 0))
 h2 : W.heap[b2]? = some (.cells #[.int .i64 h] 2 (0, 0))
 h3 : W.heap[b3]? = some (.cells #[.slice Ak sl.length ck] 23 (0, 0))
 s : LI S W As st
 k : LI S W Ak sl
theorem AlW.chg {S b0 b1 b2 b3 : Nat} {As Ak : Option Addr} {cs ck : Nat} {st sl : List Int} {h fl fl' : Int} {W W' : World} (H : AlW S b0 b1 b2 b3 As Ak cs ck st sl h fl W) (hc : Chg (fun k => k = S) W W') (hf : FlagAt S fl' W') : AlW S b0 b1 b2 b3 As Ak cs ck st sl h fl' W' :=
 ⟨hf, (hc.block _ (lt_of_block H.h0) (ne_type H.fs H.h0 (by decide))).trans H.h0, (hc.block _ (lt_of_block H.h1) (ne_type H.fs H.h1 (by decide))).trans H.h1, (hc.block _ (lt_of_block H.h2) (ne_type H.fs H.h2 (by decide))).trans H.h2, (hc.block _ (lt_of_block H.h3) (ne_type H.fs H.h3 (by decide))).trans H.h3, H.s.chg hc, H.k.chg hc⟩
theorem AlW.below {S b0 b1 b2 b3 : Nat} {As Ak : Option Addr} {cs ck : Nat} {st sl : List Int} {h fl : Int} {W W' : World} (H : AlW S b0 b1 b2 b3 As Ak cs ck st sl h fl W) (hb : Below W.heap.size W W') : AlW S b0 b1 b2 b3 As Ak cs ck st sl h fl W' :=
 H.chg (Chg.of_below hb _) ((hb.block _ (lt_of_block H.fs)).trans H.fs)
def al_T : Bool × List (List Nat × List Nat) := (true, [([], []), ([], []), ([], []), ([1, 2], [1, 2]), ([3], [3]), ([], []), ([], []), ([], []), ([], []), ([7, 8], [7, 8]), ([9], [9]), ([6, 10], [6, 10]), ([11], [11]), ([11], [11]), ([5, 12, 13, 11], [5, 12, 13]), ([4, 14, 14], [4, 14]), ([15], [15]), ([15], [15]), ([0, 16, 17, 15], [0, 16, 17]), ([18, 18, 0, 1, 2, 3, 4, 5, 6, 7, 8, 9, 10, 11, 12, 13, 14, 15, 16, 17, 18], [18])])
def al_B : List Nat := [0, 0, 0, 6, 14, 0, 0, 0, 0, 384, 896, 1984, 4032, 4032, 16352, 32766, 65534, 65534, 262143, 524287]
theorem al_tab : rtab .any (opsOf Tryz.f131 1) = al_T := by kernel_rfl
theorem al_bits : waitsOk al_T.2 al_B = true := by kernel_rfl

set_option maxHeartbeats 2000000 in
set_option maxRecDepth 100000 in
theorem along1 (KM : Nat) (S b0 b1 b2 b3 : Nat) (As Ak : Option Addr) (cs ck : Nat) (st sl : List Int) (h fl : Int) (n : Nat) (m f1 v f2 : Int) (W : World) (H : AlW S b0 b1 b2 b3 As Ak cs ck st sl h fl W) (hn1 : n < st.length) (hn2 : n < sl.length)
 (hM : fixq_Mul.f KM h (rd sl (n : Int)) = some (m, f1)) (hA : fixq_Add.f (rd st (n : Int)) m = some (v, f2)) :
 Calls Tryz.prog 131 #[.int .i64 (n : Int), .pointer (some ⟨b0, 0, none⟩), .pointer (some ⟨b1, 0, none⟩), .pointer (some ⟨b2, 0, none⟩), .pointer (some ⟨b3, 0, none⟩)] W fun e W' => e = .returned (.int .i64 v) ∧ AlW S b0 b1 b2 b3 As Ak cs ck st sl h (Go.bits .or .i64 (Go.bits .or .i64 fl f1) f2) W' ∧ Chg (fun k => k = S) W W' := by
 obtain ⟨aS, eS, -⟩ := Kd.at_int H.s.c (n : Int) (by omega) (by omega)
 obtain ⟨aK, eK, -⟩ := Kd.at_int H.k.c (n : Int) (by omega) (by omega)
 subst eS eK
 have HH := Aside0.mk H
 have HM := Aside0.mk hM
 have HA := Aside0.mk hA
 have HX := Aside0.mk (fun (W' : World) (fl' : Int) (H' : AlW S b0 b1 b2 b3 (some aS) (some aK) cs ck st sl h fl' W') => (show W'.cell? ⟨b0, 0, none⟩ = some (.pointer (some ⟨S, 0, none⟩)) ∧ W'.cell? ⟨b1, 0, none⟩ = some (.slice (some aS) st.length cs) ∧ W'.cell? ⟨b2, 0, none⟩ = some (.int .i64 h) ∧ W'.cell? ⟨b3, 0, none⟩ = some (.slice (some aK) sl.length ck) ∧ W'.cell? (aS.add n) = some (.int .i64 (rd st (n : Int))) ∧ W'.cell? (aK.add n) = some (.int .i64 (rd sl (n : Int))) from by
  obtain ⟨x, e1, e2⟩ := Kd.at_int H'.s.c (n : Int) (by omega) (by omega)
  obtain ⟨y, e3, e4⟩ := Kd.at_int H'.k.c (n : Int) (by omega) (by omega)
  injection e1 with e1
  injection e3 with e3
  subst e1 e3
  rw [Int.toNat_natCast] at e2 e4
  exact ⟨cell_of_one H'.h0, cell_of_one H'.h1, cell_of_one H'.h2, cell_of_one H'.h3, e2, e4⟩))
 clear H hM hA
 have p0 := eq_true (show (0 : Int) ≤ (n : Int) by omega)
 have p1 := eq_true (show (n : Int) < (st.length : Int) by omega)
 have p2 := eq_true (show (n : Int) < (sl.length : Int) by omega)
 go_enter Tryz.func131, Tryz.ntmps131
 go_wp2
 have HD := Aside0.mk (HH.out.below (below_drew1 (Below.refl _ _)))
 refine start_ (n := 20) (S := fun w' => w'.cell? ⟨b0, 0, none⟩ = some (.pointer (some ⟨S, 0, none⟩)) ∧ w'.cell? ⟨b1, 0, none⟩ = some (.slice (some aS) st.length cs) ∧ w'.cell? ⟨b2, 0, none⟩ = some (.int .i64 h) ∧ w'.cell? ⟨b3, 0, none⟩ = some (.slice (some aK) sl.length ck) ∧ w'.cell? (aS.add n) = some (.int .i64 (rd st (n : Int))) ∧ w'.cell? (aK.add n) = some (.int .i64 (rd sl (n : Int)))) (ds := []) #[false, false, false, false, false, false, false, false, false, false, false, false, false, false, false, false, false, false, false, false] (by kernel_rfl) rfl rfl (HX.out _ _ HD.out) (fun hHeld => ?_); refine with_tabW al_tab al_bits (fun HT_ HW_ => ?_)
 refine pure_ (i := 2) (N := some 9) (v := ?_) (a' := ?_) #[false, false, true, false, false, false, false, false, false, false, false, false, false, false, false, false, false, false, false, false] rfl rfl (any_of HT_.out (by kernel_rfl)) (fun _ _ _ h => h) (Or.inl ⟨by rfl, ?_⟩) ?_ ?_
 rotate_left
 · intro w'
   go_simp
   with_reducible rfl
 rotate_left
 · simp only [Act.put, List.setIfInBounds_toArray, List.set_cons_zero, List.set_cons_succ, i64_w, i32_w]
   rfl
 refine pure_ (i := 8) (N := some 15) (v := ?_) (a' := ?_) #[false, false, true, false, false, false, false, false, true, false, false, false, false, false, false, false, false, false, false, false] rfl rfl (any_of HT_.out (by kernel_rfl)) (fun _ _ _ h => h) (Or.inl ⟨by rfl, ?_⟩) ?_ ?_
 rotate_left
 · intro w'
   go_simp
   with_reducible rfl
 rotate_left
 · simp only [Act.put, List.setIfInBounds_toArray, List.set_cons_zero, List.set_cons_succ, i64_w, i32_w]
   rfl
 refine take_ (i := 0) (N := some 7) (v := ?_) (a' := ?_) #[true, false, true, false, false, false, false, false, true, false, false, false, false, false, false, false, false, false, false, false] rfl rfl (take_ofW HT_.out HW_.out (by kernel_rfl)) (fun _ _ _ h => h) (Or.inl ⟨by rfl, ?_⟩) hHeld ?_ ?_
 rotate_left
 · rintro w' ⟨s0, s1, s2, s3, s4, s5⟩
   go_simp
   with_reducible rfl
 rotate_left
 · simp only [Act.put, List.setIfInBounds_toArray, List.set_cons_zero, List.set_cons_succ, i64_w, i32_w]
   rfl
 refine take_ (i := 1) (N := some 8) (v := ?_) (a' := ?_) #[true, true, true, false, false, false, false, false, true, false, false, false, false, false, false, false, false, false, false, false] rfl rfl (take_ofW HT_.out HW_.out (by kernel_rfl)) (fun _ _ _ h => h) (Or.inl ⟨by rfl, ?_⟩) hHeld ?_ ?_
 rotate_left
 · rintro w' ⟨s0, s1, s2, s3, s4, s5⟩
   go_simp
   with_reducible rfl
 rotate_left
 · simp only [Act.put, List.setIfInBounds_toArray, List.set_cons_zero, List.set_cons_succ, i64_w, i32_w]
   rfl
 refine take_ (i := 5) (N := some 12) (v := ?_) (a' := ?_) #[true, true, true, false, false, true, false, false, true, false, false, false, false, false, false, false, false, false, false, false] rfl rfl (take_ofW HT_.out HW_.out (by kernel_rfl)) (fun _ _ _ h => h) (Or.inl ⟨by rfl, ?_⟩) hHeld ?_ ?_
 rotate_left
 · rintro w' ⟨s0, s1, s2, s3, s4, s5⟩
   go_simp
   with_reducible rfl
 rotate_left
 · simp only [Act.put, List.setIfInBounds_toArray, List.set_cons_zero, List.set_cons_succ, i64_w, i32_w]
   rfl
 refine take_ (i := 6) (N := some 13) (v := ?_) (a' := ?_) #[true, true, true, false, false, true, true, false, true, false, false, false, false, false, false, false, false, false, false, false] rfl rfl (take_ofW HT_.out HW_.out (by kernel_rfl)) (fun _ _ _ h => h) (Or.inl ⟨by rfl, ?_⟩) hHeld ?_ ?_
 rotate_left
 · rintro w' ⟨s0, s1, s2, s3, s4, s5⟩
   go_simp
   with_reducible rfl
 rotate_left
 · simp only [Act.put, List.setIfInBounds_toArray, List.set_cons_zero, List.set_cons_succ, i64_w, i32_w]
   rfl
 refine take_ (i := 7) (N := some 14) (v := ?_) (a' := ?_) #[true, true, true, false, false, true, true, true, true, false, false, false, false, false, false, false, false, false, false, false] rfl rfl (take_ofW HT_.out HW_.out (by kernel_rfl)) (fun _ _ _ h => h) (Or.inl ⟨by rfl, ?_⟩) hHeld ?_ ?_
 rotate_left
 · rintro w' ⟨s0, s1, s2, s3, s4, s5⟩
   go_simp
   with_reducible rfl
 rotate_left
 · simp only [Act.put, List.setIfInBounds_toArray, List.set_cons_zero, List.set_cons_succ, i64_w, i32_w]
   rfl
 refine pure_ (i := 3) (N := some 10) (v := ?_) (a' := ?_) #[true, true, true, true, false, true, true, true, true, false, false, false, false, false, false, false, false, false, false, false] rfl rfl (any_of HT_.out (by kernel_rfl)) (fun _ _ _ h => h) (Or.inl ⟨by rfl, ?_⟩) ?_ ?_
 rotate_left
 · intro w'
   go_simp
   with_reducible rfl
 rotate_left
 · simp only [Act.put, List.setIfInBounds_toArray, List.set_cons_zero, List.set_cons_succ, i64_w, i32_w]
   rfl
 refine pure_ (i := 9) (N := some 16) (v := ?_) (a' := ?_) #[true, true, true, true, false, true, true, true, true, true, false, false, false, false, false, false, false, false, false, false] rfl rfl (any_of HT_.out (by kernel_rfl)) (fun _ _ _ h => h) (Or.inl ⟨by rfl, ?_⟩) ?_ ?_
 rotate_left
 · intro w'
   go_simp
   with_reducible rfl
 rotate_left
 · simp only [Act.put, List.setIfInBounds_toArray, List.set_cons_zero, List.set_cons_succ, i64_w, i32_w]
   rfl
 refine take_ (i := 4) (N := some 11) (v := ?_) (a' := ?_) #[true, true, true, true, true, true, true, true, true, true, false, false, false, false, false, false, false, false, false, false] rfl rfl (take_ofW HT_.out HW_.out (by kernel_rfl)) (fun _ _ _ h => h) (Or.inl ⟨by rfl, ?_⟩) hHeld ?_ ?_
 rotate_left
 · rintro w' ⟨s0, s1, s2, s3, s4, s5⟩
   go_simp
   with_reducible rfl
 rotate_left
 · simp only [Act.put, List.setIfInBounds_toArray, List.set_cons_zero, List.set_cons_succ, i64_w, i32_w]
   rfl
 refine take_ (i := 10) (N := some 17) (v := ?_) (a' := ?_) #[true, true, true, true, true, true, true, true, true, true, true, false, false, false, false, false, false, false, false, false] rfl rfl (take_ofW HT_.out HW_.out (by kernel_rfl)) (fun _ _ _ h => h) (Or.inl ⟨by rfl, ?_⟩) hHeld ?_ ?_
 rotate_left
 · rintro w' ⟨s0, s1, s2, s3, s4, s5⟩
   go_simp
   with_reducible rfl
 rotate_left
 · simp only [Act.put, List.setIfInBounds_toArray, List.set_cons_zero, List.set_cons_succ, i64_w, i32_w]
   rfl
 refine one_ (i := 11) (N := some 18) #[true, true, true, true, true, true, true, true, true, true, true, true, false, false, false, false, false, false, false, false] rfl rfl (one_of HT_.out (by kernel_rfl)) (by decide) (fun K hK => ?_)
 refine goes_ Tryz.func119 (by kernel_rfl) rfl #[.int .i64 h, .int .i64 (rd sl (n : Int))] (by rfl) rfl rfl (by (try simp only [List.map_toArray, List.map_cons, List.map_nil]); first | done | rfl) ?_
 refine (fixq_Mul.calls KM h (rd sl (n : Int)) m f1 _ HM.out).mono ?_
 rintro e w2 ⟨rfl, hb⟩
 refine ⟨_, rfl, ?_⟩
 have HD2 := Aside0.mk (HD.out.below (drawn_below hb))
 have HC2 := Aside0.mk ((Chg.refl (fun k => k = S) W).drew.below (drawn_below hb))
 clear hb
 refine hK.out _ _ (HX.out _ _ HD2.out) (fun hHeld => ?_)
 clear hK K
 refine norm_ (a' := ?_) ?_ ?_
 rotate_left
 · show Act.put _ (some 18) _ = _
   simp only [Act.put, List.setIfInBounds_toArray, List.set_cons_zero, List.set_cons_succ, i64_w, i32_w]
   rfl
 refine pure_ (i := 12) (N := some 19) (v := ?_) (a' := ?_) #[true, true, true, true, true, true, true, true, true, true, true, true, true, false, false, false, false, false, false, false] rfl rfl (any_of HT_.out (by kernel_rfl)) (fun _ _ _ h => h) (Or.inl ⟨by rfl, ?_⟩) ?_ ?_
 rotate_left
 · intro w'
   go_simp
   with_reducible rfl
 rotate_left
 · simp only [Act.put, List.setIfInBounds_toArray, List.set_cons_zero, List.set_cons_succ, i64_w, i32_w]
   rfl
 refine pure_ (i := 13) (N := some 20) (v := ?_) (a' := ?_) #[true, true, true, true, true, true, true, true, true, true, true, true, true, true, false, false, false, false, false, false] rfl rfl (any_of HT_.out (by kernel_rfl)) (fun _ _ _ h => h) (Or.inl ⟨by rfl, ?_⟩) ?_ ?_
 rotate_left
 · intro w'
   go_simp
   with_reducible rfl
 rotate_left
 · simp only [Act.put, List.setIfInBounds_toArray, List.set_cons_zero, List.set_cons_succ, i64_w, i32_w]
   rfl
 refine one_ (i := 14) (N := some 21) #[true, true, true, true, true, true, true, true, true, true, true, true, true, true, true, false, false, false, false, false] rfl rfl (one_of HT_.out (by kernel_rfl)) (by decide) (fun K hK => ?_)
 refine goes_ Tryz.func73 (by kernel_rfl) rfl #[.pointer (some ⟨S, 0, none⟩), .int .i64 m, .int .i64 f1] (by rfl) rfl rfl (by (try simp only [List.map_toArray, List.map_cons, List.map_nil]); first | done | rfl) ?_
 refine (of_any S fl m f1 _ HD2.out.fs).mono ?_
 rintro e w3 ⟨rfl, hf, hc⟩
 refine ⟨_, rfl, ?_⟩
 have HD3 := Aside0.mk (HD2.out.chg hc hf)
 have HC3 := Aside0.mk (HC2.out.then_ hc (fun _ hi => .inl hi))
 clear hf hc
 refine hK.out _ _ (HX.out _ _ HD3.out) (fun hHeld => ?_)
 clear hK K
 refine norm_ (a' := ?_) ?_ ?_
 rotate_left
 · show Act.put _ (some 21) _ = _
   simp only [Act.put, List.setIfInBounds_toArray, List.set_cons_zero, List.set_cons_succ, i64_w, i32_w]
   rfl
 refine one_ (i := 15) (N := some 22) #[true, true, true, true, true, true, true, true, true, true, true, true, true, true, true, true, false, false, false, false] rfl rfl (one_of HT_.out (by kernel_rfl)) (by decide) (fun K hK => ?_)
 refine goes_ Tryz.func78 (by kernel_rfl) rfl #[.int .i64 (rd st (n : Int)), .int .i64 m] (by rfl) rfl rfl (by (try simp only [List.map_toArray, List.map_cons, List.map_nil]); first | done | rfl) ?_
 refine (fixq_Add.calls (rd st (n : Int)) m v f2 _ HA.out).mono ?_
 rintro e w4 ⟨rfl, hb⟩
 refine ⟨_, rfl, ?_⟩
 have HD4 := Aside0.mk (HD3.out.below (drawn_below hb))
 have HC4 := Aside0.mk (HC3.out.below (drawn_below hb))
 clear hb
 refine hK.out _ _ (HX.out _ _ HD4.out) (fun hHeld => ?_)
 clear hK K
 refine norm_ (a' := ?_) ?_ ?_
 rotate_left
 · show Act.put _ (some 22) _ = _
   simp only [Act.put, List.setIfInBounds_toArray, List.set_cons_zero, List.set_cons_succ, i64_w, i32_w]
   rfl
 refine pure_ (i := 16) (N := some 23) (v := ?_) (a' := ?_) #[true, true, true, true, true, true, true, true, true, true, true, true, true, true, true, true, true, false, false, false] rfl rfl (any_of HT_.out (by kernel_rfl)) (fun _ _ _ h => h) (Or.inl ⟨by rfl, ?_⟩) ?_ ?_
 rotate_left
 · intro w'
   go_simp
   with_reducible rfl
 rotate_left
 · simp only [Act.put, List.setIfInBounds_toArray, List.set_cons_zero, List.set_cons_succ, i64_w, i32_w]
   rfl
 refine pure_ (i := 17) (N := some 24) (v := ?_) (a' := ?_) #[true, true, true, true, true, true, true, true, true, true, true, true, true, true, true, true, true, true, false, false] rfl rfl (any_of HT_.out (by kernel_rfl)) (fun _ _ _ h => h) (Or.inl ⟨by rfl, ?_⟩) ?_ ?_
 rotate_left
 · intro w'
   go_simp
   with_reducible rfl
 rotate_left
 · simp only [Act.put, List.setIfInBounds_toArray, List.set_cons_zero, List.set_cons_succ, i64_w, i32_w]
   rfl
 refine one_ (i := 18) (N := some 25) #[true, true, true, true, true, true, true, true, true, true, true, true, true, true, true, true, true, true, true, false] rfl rfl (one_of HT_.out (by kernel_rfl)) (by decide) (fun K hK => ?_)
 refine goes_ Tryz.func73 (by kernel_rfl) rfl #[.pointer (some ⟨S, 0, none⟩), .int .i64 v, .int .i64 f2] (by rfl) rfl rfl (by (try simp only [List.map_toArray, List.map_cons, List.map_nil]); first | done | rfl) ?_
 refine (of_any S (Go.bits .or .i64 fl f1) v f2 _ HD4.out.fs).mono ?_
 rintro e w5 ⟨rfl, hf, hc⟩
 refine ⟨_, rfl, ?_⟩
 have HD5 := Aside0.mk (HD4.out.chg hc hf)
 have HC5 := Aside0.mk (HC4.out.then_ hc (fun _ hi => .inl hi))
 clear hf hc
 refine hK.out _ _ (HX.out _ _ HD5.out) (fun hHeld => ?_)
 clear hK K
 refine norm_ (a' := ?_) ?_ ?_
 rotate_left
 · show Act.put _ (some 25) _ = _
   simp only [Act.put, List.setIfInBounds_toArray, List.set_cons_zero, List.set_cons_succ, i64_w, i32_w]
   rfl
 refine pure_ (i := 19) (N := some 6) (v := ?_) (a' := ?_) #[true, true, true, true, true, true, true, true, true, true, true, true, true, true, true, true, true, true, true, true] rfl rfl (any_of HT_.out (by kernel_rfl)) (fun _ _ _ h => h) (Or.inl ⟨by rfl, ?_⟩) ?_ ?_
 rotate_left
 · intro w'
   go_simp
   with_reducible rfl
 rotate_left
 · simp only [Act.put, List.setIfInBounds_toArray, List.set_cons_zero, List.set_cons_succ, i64_w, i32_w]
   rfl
 refine done_ (done_of HT_.out (by kernel_rfl)) ?_
 try go_wp2
 go_ret
 exact ⟨rfl, HD5.out, HC5.out⟩
set_option maxRecDepth 100000 in
theorem half_any (v : Int) (w : World) (h1 : -9223372036854775808 ≤ v) (h2 : v ≤ 9223372036854775807) : Calls Tryz.prog 77 #[.int .i64 v] w fun e w' => e = .returned (.int .i64 (Int.tdiv v 2)) ∧ w' = w := by
 go_enter Tryz.func77, Tryz.ntmps77
 go_wp2
 go_ret
 exact ⟨rfl, rfl⟩
/-- Where the mean's closure is called. -/
structure MnW (S b1 b2 : Nat) (A1 A2 : Option Addr) (c1 c2 : Nat) (k1 k2 : List Int) (fl : Int) (W : World) : Prop where
 fs : FlagAt S fl W
 h1 : W.heap[b1]? = some (.cells #[.slice A1 k1.length c1] 23 (0, 0))
 h2 : W.heap[b2]? = some (.cells #[.slice A2 k2.length c2] 23 (0, 0))
 s1 : LI S W A1 k1
 s2 : LI S W A2 k2
theorem MnW.chg {S b1 b2 : Nat} {A1 A2 : Option Addr} {c1 c2 : Nat} {k1 k2 : List Int} {fl fl' : Int} {W W' : World} (H : MnW S b1 b2 A1 A2 c1 c2 k1 k2 fl W) (hc : Chg (fun k => k = S) W W') (hf : FlagAt S fl' W') : MnW S b1 b2 A1 A2 c1 c2 k1 k2 fl' W' :=
 ⟨hf, (hc.block _ (lt_of_block H.h1) (ne_type H.fs H.h1 (by decide))).trans H.h1, (hc.block _ (lt_of_block H.h2) (ne_type H.fs H.h2 (by decide))).trans H.h2, H.s1.chg hc, H.s2.chg hc⟩
theorem MnW.below {S b1 b2 : Nat} {A1 A2 : Option Addr} {c1 c2 : Nat} {k1 k2 : List Int} {fl : Int} {W W' : World} (H : MnW S b1 b2 A1 A2 c1 c2 k1 k2 fl W) (hb : Below W.heap.size W W') : MnW S b1 b2 A1 A2 c1 c2 k1 k2 fl W' :=
 H.chg (Chg.of_below hb _) ((hb.block _ (lt_of_block H.fs)).trans H.fs)
def mn_T : Bool × List (List Nat × List Nat) := (true, [([], []), ([], []), ([0, 1], [0, 1]), ([2], [2]), ([], []), ([], []), ([4, 5], [4, 5]), ([6], [6]), ([3, 7], [3, 7]), ([8], [8]), ([8], [8]), ([9, 10, 8], [9, 10]), ([11, 11], [11]), ([12, 12, 0, 1, 2, 3, 4, 5, 6, 7, 8, 9, 10, 11, 12], [12])])
def mn_B : List Nat := [0, 0, 3, 7, 0, 0, 48, 112, 255, 511, 511, 2047, 4095, 8191]
theorem mn_tab : rtab .any (opsOf Tryz.f76 1) = mn_T := by kernel_rfl
theorem mn_bits : waitsOk mn_T.2 mn_B = true := by kernel_rfl

set_option maxHeartbeats 2000000 in
set_option maxRecDepth 100000 in
theorem mean1 (S b1 b2 : Nat) (A1 A2 : Option Addr) (c1 c2 : Nat) (k1 k2 : List Int) (fl : Int) (n : Nat) (v f : Int) (W : World) (H : MnW S b1 b2 A1 A2 c1 c2 k1 k2 fl W) (hn1 : n < k1.length) (hn2 : n < k2.length)
 (hA : fixq_Add.f (rd k1 (n : Int)) (rd k2 (n : Int)) = some (v, f)) (hv1 : -9223372036854775808 ≤ v) (hv2 : v ≤ 9223372036854775807) :
 Calls Tryz.prog 76 #[.int .i64 (n : Int), .pointer (some ⟨S, 0, none⟩), .pointer (some ⟨b1, 0, none⟩), .pointer (some ⟨b2, 0, none⟩)] W fun e W' => e = .returned (.int .i64 (Int.tdiv v 2)) ∧ MnW S b1 b2 A1 A2 c1 c2 k1 k2 (Go.bits .or .i64 fl f) W' ∧ Chg (fun k => k = S) W W' := by
 obtain ⟨aS, eS, -⟩ := Kd.at_int H.s1.c (n : Int) (by omega) (by omega)
 obtain ⟨aK, eK, -⟩ := Kd.at_int H.s2.c (n : Int) (by omega) (by omega)
 subst eS eK
 have HH := Aside0.mk H
 have HA := Aside0.mk hA
 have HV := Aside0.mk (And.intro hv1 hv2)
 have HX := Aside0.mk (fun (W' : World) (fl' : Int) (H' : MnW S b1 b2 (some aS) (some aK) c1 c2 k1 k2 fl' W') => (show W'.cell? ⟨b1, 0, none⟩ = some (.slice (some aS) k1.length c1) ∧ W'.cell? ⟨b2, 0, none⟩ = some (.slice (some aK) k2.length c2) ∧ W'.cell? (aS.add n) = some (.int .i64 (rd k1 (n : Int))) ∧ W'.cell? (aK.add n) = some (.int .i64 (rd k2 (n : Int))) from by
  obtain ⟨x, e1, e2⟩ := Kd.at_int H'.s1.c (n : Int) (by omega) (by omega)
  obtain ⟨y, e3, e4⟩ := Kd.at_int H'.s2.c (n : Int) (by omega) (by omega)
  injection e1 with e1
  injection e3 with e3
  subst e1 e3
  rw [Int.toNat_natCast] at e2 e4
  exact ⟨cell_of_one H'.h1, cell_of_one H'.h2, e2, e4⟩))
 clear H hA hv1 hv2
 have p0 := eq_true (show (0 : Int) ≤ (n : Int) by omega)
 have p1 := eq_true (show (n : Int) < (k1.length : Int) by omega)
 have p2 := eq_true (show (n : Int) < (k2.length : Int) by omega)
 go_enter Tryz.func76, Tryz.ntmps76
 go_wp2
 have HD := Aside0.mk (HH.out.below (below_drew1 (Below.refl _ _)))
 refine start_ (n := 14) (S := fun w' => w'.cell? ⟨b1, 0, none⟩ = some (.slice (some aS) k1.length c1) ∧ w'.cell? ⟨b2, 0, none⟩ = some (.slice (some aK) k2.length c2) ∧ w'.cell? (aS.add n) = some (.int .i64 (rd k1 (n : Int))) ∧ w'.cell? (aK.add n) = some (.int .i64 (rd k2 (n : Int)))) (ds := []) #[false, false, false, false, false, false, false, false, false, false, false, false, false, false] (by kernel_rfl) rfl rfl (HX.out _ _ HD.out) (fun hHeld => ?_); refine with_tabW mn_tab mn_bits (fun HT_ HW_ => ?_)
 refine pure_ (i := 1) (N := some 7) (v := ?_) (a' := ?_) #[false, true, false, false, false, false, false, false, false, false, false, false, false, false] rfl rfl (any_of HT_.out (by kernel_rfl)) (fun _ _ _ h => h) (Or.inl ⟨by rfl, ?_⟩) ?_ ?_
 rotate_left
 · intro w'
   go_simp
   with_reducible rfl
 rotate_left
 · simp only [Act.put, List.setIfInBounds_toArray, List.set_cons_zero, List.set_cons_succ, i64_w, i32_w]
   rfl
 refine pure_ (i := 5) (N := some 11) (v := ?_) (a' := ?_) #[false, true, false, false, false, true, false, false, false, false, false, false, false, false] rfl rfl (any_of HT_.out (by kernel_rfl)) (fun _ _ _ h => h) (Or.inl ⟨by rfl, ?_⟩) ?_ ?_
 rotate_left
 · intro w'
   go_simp
   with_reducible rfl
 rotate_left
 · simp only [Act.put, List.setIfInBounds_toArray, List.set_cons_zero, List.set_cons_succ, i64_w, i32_w]
   rfl
 refine take_ (i := 0) (N := some 6) (v := ?_) (a' := ?_) #[true, true, false, false, false, true, false, false, false, false, false, false, false, false] rfl rfl (take_ofW HT_.out HW_.out (by kernel_rfl)) (fun _ _ _ h => h) (Or.inl ⟨by rfl, ?_⟩) hHeld ?_ ?_
 rotate_left
 · rintro w' ⟨s0, s1, s2, s3⟩
   go_simp
   with_reducible rfl
 rotate_left
 · simp only [Act.put, List.setIfInBounds_toArray, List.set_cons_zero, List.set_cons_succ, i64_w, i32_w]
   rfl
 refine take_ (i := 4) (N := some 10) (v := ?_) (a' := ?_) #[true, true, false, false, true, true, false, false, false, false, false, false, false, false] rfl rfl (take_ofW HT_.out HW_.out (by kernel_rfl)) (fun _ _ _ h => h) (Or.inl ⟨by rfl, ?_⟩) hHeld ?_ ?_
 rotate_left
 · rintro w' ⟨s0, s1, s2, s3⟩
   go_simp
   with_reducible rfl
 rotate_left
 · simp only [Act.put, List.setIfInBounds_toArray, List.set_cons_zero, List.set_cons_succ, i64_w, i32_w]
   rfl
 refine pure_ (i := 2) (N := some 8) (v := ?_) (a' := ?_) #[true, true, true, false, true, true, false, false, false, false, false, false, false, false] rfl rfl (any_of HT_.out (by kernel_rfl)) (fun _ _ _ h => h) (Or.inl ⟨by rfl, ?_⟩) ?_ ?_
 rotate_left
 · intro w'
   go_simp
   with_reducible rfl
 rotate_left
 · simp only [Act.put, List.setIfInBounds_toArray, List.set_cons_zero, List.set_cons_succ, i64_w, i32_w]
   rfl
 refine pure_ (i := 6) (N := some 12) (v := ?_) (a' := ?_) #[true, true, true, false, true, true, true, false, false, false, false, false, false, false] rfl rfl (any_of HT_.out (by kernel_rfl)) (fun _ _ _ h => h) (Or.inl ⟨by rfl, ?_⟩) ?_ ?_
 rotate_left
 · intro w'
   go_simp
   with_reducible rfl
 rotate_left
 · simp only [Act.put, List.setIfInBounds_toArray, List.set_cons_zero, List.set_cons_succ, i64_w, i32_w]
   rfl
 refine take_ (i := 3) (N := some 9) (v := ?_) (a' := ?_) #[true, true, true, true, true, true, true, false, false, false, false, false, false, false] rfl rfl (take_ofW HT_.out HW_.out (by kernel_rfl)) (fun _ _ _ h => h) (Or.inl ⟨by rfl, ?_⟩) hHeld ?_ ?_
 rotate_left
 · rintro w' ⟨s0, s1, s2, s3⟩
   go_simp
   with_reducible rfl
 rotate_left
 · simp only [Act.put, List.setIfInBounds_toArray, List.set_cons_zero, List.set_cons_succ, i64_w, i32_w]
   rfl
 refine take_ (i := 7) (N := some 13) (v := ?_) (a' := ?_) #[true, true, true, true, true, true, true, true, false, false, false, false, false, false] rfl rfl (take_ofW HT_.out HW_.out (by kernel_rfl)) (fun _ _ _ h => h) (Or.inl ⟨by rfl, ?_⟩) hHeld ?_ ?_
 rotate_left
 · rintro w' ⟨s0, s1, s2, s3⟩
   go_simp
   with_reducible rfl
 rotate_left
 · simp only [Act.put, List.setIfInBounds_toArray, List.set_cons_zero, List.set_cons_succ, i64_w, i32_w]
   rfl
 refine one_ (i := 8) (N := some 14) #[true, true, true, true, true, true, true, true, true, false, false, false, false, false] rfl rfl (one_of HT_.out (by kernel_rfl)) (by decide) (fun K hK => ?_)
 refine goes_ Tryz.func78 (by kernel_rfl) rfl #[.int .i64 (rd k1 (n : Int)), .int .i64 (rd k2 (n : Int))] (by rfl) rfl rfl (by (try simp only [List.map_toArray, List.map_cons, List.map_nil]); first | done | rfl) ?_
 refine (fixq_Add.calls (rd k1 (n : Int)) (rd k2 (n : Int)) v f _ HA.out).mono ?_
 rintro e w2 ⟨rfl, hb⟩
 refine ⟨_, rfl, ?_⟩
 have HD2 := Aside0.mk (HD.out.below (drawn_below hb))
 have HC2 := Aside0.mk ((Chg.refl (fun k => k = S) W).drew.below (drawn_below hb))
 clear hb
 refine hK.out _ _ (HX.out _ _ HD2.out) (fun hHeld => ?_)
 clear hK K
 refine norm_ (a' := ?_) ?_ ?_
 rotate_left
 · show Act.put _ (some 14) _ = _
   simp only [Act.put, List.setIfInBounds_toArray, List.set_cons_zero, List.set_cons_succ, i64_w, i32_w]
   rfl
 refine pure_ (i := 9) (N := some 15) (v := ?_) (a' := ?_) #[true, true, true, true, true, true, true, true, true, true, false, false, false, false] rfl rfl (any_of HT_.out (by kernel_rfl)) (fun _ _ _ h => h) (Or.inl ⟨by rfl, ?_⟩) ?_ ?_
 rotate_left
 · intro w'
   go_simp
   with_reducible rfl
 rotate_left
 · simp only [Act.put, List.setIfInBounds_toArray, List.set_cons_zero, List.set_cons_succ, i64_w, i32_w]
   rfl
 refine pure_ (i := 10) (N := some 16) (v := ?_) (a' := ?_) #[true, true, true, true, true, true, true, true, true, true, true, false, false, false] rfl rfl (any_of HT_.out (by kernel_rfl)) (fun _ _ _ h => h) (Or.inl ⟨by rfl, ?_⟩) ?_ ?_
 rotate_left
 · intro w'
   go_simp
   with_reducible rfl
 rotate_left
 · simp only [Act.put, List.setIfInBounds_toArray, List.set_cons_zero, List.set_cons_succ, i64_w, i32_w]
   rfl
 refine one_ (i := 11) (N := some 17) #[true, true, true, true, true, true, true, true, true, true, true, true, false, false] rfl rfl (one_of HT_.out (by kernel_rfl)) (by decide) (fun K hK => ?_)
 refine goes_ Tryz.func73 (by kernel_rfl) rfl #[.pointer (some ⟨S, 0, none⟩), .int .i64 v, .int .i64 f] (by rfl) rfl rfl (by (try simp only [List.map_toArray, List.map_cons, List.map_nil]); first | done | rfl) ?_
 refine (of_any S fl v f _ HD2.out.fs).mono ?_
 rintro e w3 ⟨rfl, hf, hc⟩
 refine ⟨_, rfl, ?_⟩
 have HD3 := Aside0.mk (HD2.out.chg hc hf)
 have HC3 := Aside0.mk (HC2.out.then_ hc (fun _ hi => .inl hi))
 clear hf hc
 refine hK.out _ _ (HX.out _ _ HD3.out) (fun hHeld => ?_)
 clear hK K
 refine norm_ (a' := ?_) ?_ ?_
 rotate_left
 · show Act.put _ (some 17) _ = _
   simp only [Act.put, List.setIfInBounds_toArray, List.set_cons_zero, List.set_cons_succ, i64_w, i32_w]
   rfl
 refine one_ (i := 12) (N := some 18) #[true, true, true, true, true, true, true, true, true, true, true, true, true, false] rfl rfl (one_of HT_.out (by kernel_rfl)) (by decide) (fun K hK => ?_)
 refine goes_ Tryz.func77 (by kernel_rfl) rfl #[.int .i64 v] (by rfl) rfl rfl (by (try simp only [List.map_toArray, List.map_cons, List.map_nil]); first | done | rfl) ?_
 refine (half_any v _ HV.out.1 HV.out.2).mono ?_
 rintro e w4 ⟨rfl, rfl⟩
 refine ⟨_, rfl, ?_⟩
 refine hK.out _ _ hHeld (fun hHeld => ?_)
 clear hK K
 refine norm_ (a' := ?_) ?_ ?_
 rotate_left
 · show Act.put _ (some 18) _ = _
   simp only [Act.put, List.setIfInBounds_toArray, List.set_cons_zero, List.set_cons_succ, i64_w, i32_w]
   rfl
 refine pure_ (i := 13) (N := some 5) (v := ?_) (a' := ?_) #[true, true, true, true, true, true, true, true, true, true, true, true, true, true] rfl rfl (any_of HT_.out (by kernel_rfl)) (fun _ _ _ h => h) (Or.inl ⟨by rfl, ?_⟩) ?_ ?_
 rotate_left
 · intro w'
   go_simp
   with_reducible rfl
 rotate_left
 · simp only [Act.put, List.setIfInBounds_toArray, List.set_cons_zero, List.set_cons_succ, i64_w, i32_w]
   rfl
 refine done_ (done_of HT_.out (by kernel_rfl)) ?_
 try go_wp2
 go_ret
 exact ⟨rfl, HD3.out, HC3.out⟩
set_option maxHeartbeats 2000000 in
set_option maxRecDepth 100000 in
theorem along_any (S : Nat) (fl : Int) (As Ak : Option Addr) (cs ck : Nat) (st sl : List Int) (h : Int) (V Fl : Nat → Int) (w : World) (hS : FlagAt S fl w) (hs : LI S w As st) (hk : LI S w Ak sl) (hlen : st.length ≤ sl.length) (hL : st.length ≤ 100000) (h0 : Fl 0 = fl)
 (hV : ∀ n, n < st.length → ∃ KM m f1 f2, fixq_Mul.f KM h (rd sl (n : Int)) = some (m, f1) ∧ fixq_Add.f (rd st (n : Int)) m = some (V n, f2) ∧ Fl (n + 1) = Go.bits .or .i64 (Go.bits .or .i64 (Fl n) f1) f2) :
 Calls Tryz.prog 74 #[.pointer (some ⟨S, 0, none⟩), .slice As st.length cs, .slice Ak sl.length ck, .int .i64 h] w fun e w' => ∃ v, e = .returned v ∧ Kd.R (Kd.int .i64) 2 w' w.heap.size (fun _ => True) v (tabV V st.length) ∧ FlagAt S (Fl st.length) w' ∧ Chg (fun k => k = S) w w' := by
 have HS := Aside0.mk hS
 have HI := Aside0.mk hs
 have HK := Aside0.mk hk
 have HV := Aside0.mk hV
 clear hS hs hk hV
 go_enter Tryz.func74, Tryz.ntmps74
 go_wp2_with fail
 obtain ⟨f0, f1, f2, f3, fb⟩ := four_allocs w (.cells #[.pointer (some ⟨S, 0, none⟩)] 209) (.cells #[.slice As st.length cs] 23) (.cells #[.slice Ak sl.length ck] 23) (.cells #[.int .i64 h] 2) _ rfl
 have HA : AlW S w.heap.size (w.heap.size + 1) (w.heap.size + 1 + 1 + 1) (w.heap.size + 1 + 1) As Ak cs ck st sl h (Fl 0) _ := ⟨by rw [h0]; exact (fb.block _ (lt_of_block HS.out)).trans HS.out, f0, f1, f3, f2, HI.out.below fb, HK.out.below fb⟩
 refine (each131 _ _ _ _ st.length _ S V Fl hL HA.fs (fun n W hn hc hf => ?_)).mono ?_
 · obtain ⟨KM, m, g1, g2, e1, e2, e3⟩ := HV.out n hn
   refine (along1 KM S _ _ _ _ As Ak cs ck st sl h (Fl n) n m g1 (V n) g2 W (HA.chg hc hf) hn (by omega) e1 e2).mono ?_
   rintro e W' ⟨rfl, hw, hc'⟩
   exact ⟨rfl, by rw [e3]; exact hw.fs, hc'⟩
 · rintro e w2 ⟨v, rfl, hR, hf, hc⟩
   have HR := Aside0.mk (Kd.R_lower hR fb.size)
   have HF := Aside0.mk hf
   have HC := Aside0.mk ((Chg.of_below fb (fun k => k = S)).then_ hc (fun _ hi => .inl hi))
   clear hR hf hc HA f0 f1 f2 f3 fb
   go_wp2
   go_ret
   exact ⟨_, rfl, HR.out, HF.out, HC.out⟩
end Go.Proofs.YtgalkkolbobmbaaGreat.V

/- A machine's Deriv, Zero and At; Done. -/
namespace Go.Proofs.YtgalkkolbobmbaaGreat.V
open Go.RowKit Go.Proofs.YtgalkkolbobmbaaGreatW.PrintWords Go.Proofs.YtgalkkolbobmbaaGreatW.PrintLast Go.Proofs.YtgalkkolbobmbaaGreatW.PrintMore
set_option linter.unusedVariables false
set_option linter.unusedSimpArgs false
theorem fits_yes {n Bm : Nat} {cs : Array Value} {v0 v1 v2 v3 v6 v7 v8 v9 : Value} {l0 l1 l2 l3 : List Int} {a4 a5 : Int} {l6 l7 l8 l9 : List S49} {dn : Int} {w : World} (h : Mach n Bm cs v0 v1 v2 v3 v6 v7 v8 v9 l0 l1 l2 l3 a4 a5 l6 l7 l8 l9 dn w) (Ai As Am : Option Addr) (ni ns nm ci cs' cm : Nat) (hf : ni = l0.length ∧ ns = l2.length ∧ nm = l3.length) :
 Calls Tryz.prog 69 #[.pointer (some ⟨Bm, 0, none⟩), .slice Ai ni ci, .slice As ns cs', .slice Am nm cm] w fun e w' => e = .returned (.int .i64 0) ∧ w' = w :=
 (fits_any h Ai As Am ni ns nm ci cs' cm).mono fun e w' hh => by rw [if_pos hf] at hh; exact hh
theorem fits_no {n Bm : Nat} {cs : Array Value} {v0 v1 v2 v3 v6 v7 v8 v9 : Value} {l0 l1 l2 l3 : List Int} {a4 a5 : Int} {l6 l7 l8 l9 : List S49} {dn : Int} {w : World} (h : Mach n Bm cs v0 v1 v2 v3 v6 v7 v8 v9 l0 l1 l2 l3 a4 a5 l6 l7 l8 l9 dn w) (Ai As Am : Option Addr) (ni ns nm ci cs' cm : Nat) (hf : ¬ (ni = l0.length ∧ ns = l2.length ∧ nm = l3.length)) :
 Calls Tryz.prog 69 #[.pointer (some ⟨Bm, 0, none⟩), .slice Ai ni ci, .slice As ns cs', .slice Am nm cm] w fun e w' => e = .returned (.int .i64 13) ∧ w' = w :=
 (fits_any h Ai As Am ni ns nm ci cs' cm).mono fun e w' hh => by rw [if_neg hf] at hh; exact hh
set_option maxHeartbeats 1000000 in
set_option maxRecDepth 100000 in
theorem done_any {n Bm : Nat} {cs : Array Value} {v0 v1 v2 v3 v6 v7 v8 v9 : Value} {l0 l1 l2 l3 : List Int} {a4 a5 : Int} {l6 l7 l8 l9 : List S49} {dn : Int} {w : World} (h : Mach n Bm cs v0 v1 v2 v3 v6 v7 v8 v9 l0 l1 l2 l3 a4 a5 l6 l7 l8 l9 dn w) : Calls Tryz.prog 24 #[.pointer (some ⟨Bm, 0, none⟩)] w fun e w' => e = .returned (.int .i64 dn) ∧ w' = w := by
 have kd := h.done
 clear h
 go_enter Tryz.func24, Tryz.ntmps24
 go_wp2
 go_ret
 exact ⟨rfl, rfl⟩
def derivP_T : Bool × List (List Nat × List Nat) := (true, [([], []), ([], []), ([1], [1]), ([2], [2]), ([3], [3]), ([4], [4]), ([5], [5]), ([], []), ([7], [7]), ([8], [8]), ([9], [9]), ([10], [10]), ([11], [11]), ([12], [12]), ([], []), ([], []), ([], []), ([0, 6, 13, 14, 15, 16], [0, 6, 13, 14, 15, 16]), ([17], [17]), ([17], [17]), ([17], [17]), ([18, 17, 0, 1, 2, 3, 4, 5, 6, 7, 8, 9, 10, 11, 12, 13, 14, 15, 16, 17, 18, 19, 20], [18]), ([19, 21, 0, 1, 2, 3, 4, 5, 6, 7, 8, 9, 10, 11, 12, 13, 14, 15, 16, 17, 18, 19, 20, 21], [19]), ([20, 22, 0, 1, 2, 3, 4, 5, 6, 7, 8, 9, 10, 11, 12, 13, 14, 15, 16, 17, 18, 19, 20, 21, 22], [20])])
def derivP_B : List Nat := [0, 0, 2, 6, 14, 30, 62, 0, 128, 384, 896, 1920, 3968, 8064, 0, 0, 0, 131071, 262143, 262143, 262143, 2097151, 4194303, 8388607]
theorem derivP_tab : rtab .any (opsOf Tryz.f27 4) = derivP_T := by kernel_rfl
theorem derivP_bits : waitsOk derivP_T.2 derivP_B = true := by kernel_rfl
set_option maxHeartbeats 2000000 in
set_option maxRecDepth 100000 in
theorem deriv_any {n Bm : Nat} {cs : Array Value} {v0 v1 v2 v3 v6 v7 v8 v9 : Value} {l0 l1 l2 l3 : List Int} {a4 a5 : Int} {l6 l7 l8 l9 : List S49} {dn : Int} {w : World} (h : Mach n Bm cs v0 v1 v2 v3 v6 v7 v8 v9 l0 l1 l2 l3 a4 a5 l6 l7 l8 l9 dn w) (O : Int → Int → Int → Int → Option (Int × Int)) (hO : OpsFor cs O) (k nr : Nat) (Ai As Am : Option Addr) (ci cs' cm : Nat) (inn st mem : List Int)
 (hi : LI Bm w Ai inn) (hs : LI Bm w As st) (hm : LI Bm w Am mem) (hf : inn.length = l0.length ∧ st.length = l2.length ∧ mem.length = l3.length)
 (hmx : (if regsTo (four l6 l7 l8 l9) 4 < 1 then 1 else regsTo (four l6 l7 l8 l9) 4) = (nr : Int)) (hn0 : 0 < nr) (hn1 : nr ≤ 4000) (hmany : l2.length ≤ 100000) (s' : RS) (dn' : Int)
 (hr : runV O inn st mem [] l6 k 0 dn ⟨List.replicate nr 0, 0, List.replicate (l2.length) 0, [], []⟩ = some (s', dn')) :
 Calls Tryz.prog 27 #[.pointer (some ⟨Bm, 0, none⟩), .slice Ai inn.length ci, .slice As st.length cs', .slice Am mem.length cm] w fun e w' => ∃ v, e = .returned (.tuple #[v, .int .i64 s'.fl, .int .i64 0]) ∧ Kd.R (Kd.int .i64) 2 w' w.heap.size (fun k => k ≠ Bm) v s'.put ∧ Mach n Bm cs v0 v1 v2 v3 v6 v7 v8 v9 l0 l1 l2 l3 a4 a5 l6 l7 l8 l9 dn' w' ∧ Chg (fun k => k = Bm) w w' := by
 obtain ⟨AL, cl, hvL, hLc, hLC, hLn⟩ := R_list h.r6
 obtain ⟨BM, dM, hvM⟩ := Kd.R_slice h.r2
 subst hvL
 subst hvM
 have H := Aside0.mk h
 have HO := Aside0.mk hO
 have HL := Aside0.mk (And.intro hLC hLn)
 have HI := Aside0.mk hi
 have HS := Aside0.mk hs
 have HM := Aside0.mk hm
 have HR := Aside0.mk hr
 have HF := Aside0.mk hf
 clear h hO hLC hLn hLc hi hs hm hr hf
 go_enter Tryz.func27, Tryz.ntmps27
 go_wp2_with (go_at_call 69; refine (fits_yes H.out Ai As Am inn.length st.length mem.length ci cs' cm HF.out).mono ?_; rintro e w1 ⟨rfl, rfl⟩)
 have HD := Aside0.mk (H.out.below (below_drew1 (Below.refl _ _)))
 refine start_ (n := 24) (S := fun w' => w'.cell? ⟨Bm, 6, none⟩ = some (.slice AL l6.length cl) ∧ w'.cell? ⟨Bm, 2, none⟩ = some (.slice BM l2.length dM)) (ds := []) #[false, false, false, false, false, false, false, false, false, false, false, false, false, false, false, false, false, false, false, false, false, false, false, false] (by kernel_rfl) rfl rfl ⟨HD.out.cell (by decide) HD.out.o6, HD.out.cell (by decide) HD.out.o2⟩ (fun hHeld => ?_); refine with_tabW derivP_tab derivP_bits (fun HT_ HW_ => ?_)
 refine pure_ (i := 0) (N := some 20) (v := ?_) (a' := ?_) #[true, false, false, false, false, false, false, false, false, false, false, false, false, false, false, false, false, false, false, false, false, false, false, false] rfl rfl (any_of HT_.out (by kernel_rfl)) (fun _ _ _ h => h) (Or.inl ⟨by rfl, ?_⟩) ?_ ?_
 rotate_left
 · intro w'
   go_simp
   with_reducible rfl
 rotate_left
 · simp only [Act.put, List.setIfInBounds_toArray, List.set_cons_zero, List.set_cons_succ, i64_w, i32_w]
   rfl
 refine pure_ (i := 1) (N := some 21) (v := ?_) (a' := ?_) #[true, true, false, false, false, false, false, false, false, false, false, false, false, false, false, false, false, false, false, false, false, false, false, false] rfl rfl (any_of HT_.out (by kernel_rfl)) (fun _ _ _ h => h) (Or.inl ⟨by rfl, ?_⟩) ?_ ?_
 rotate_left
 · intro w'
   go_simp
   with_reducible rfl
 rotate_left
 · simp only [Act.put, List.setIfInBounds_toArray, List.set_cons_zero, List.set_cons_succ, i64_w, i32_w]
   rfl
 refine pure_ (i := 2) (N := some 22) (v := ?_) (a' := ?_) #[true, true, true, false, false, false, false, false, false, false, false, false, false, false, false, false, false, false, false, false, false, false, false, false] rfl rfl (any_of HT_.out (by kernel_rfl)) (fun _ _ _ h => h) (Or.inl ⟨by rfl, ?_⟩) ?_ ?_
 rotate_left
 · intro w'
   go_simp
   with_reducible rfl
 rotate_left
 · simp only [Act.put, List.setIfInBounds_toArray, List.set_cons_zero, List.set_cons_succ, i64_w, i32_w]
   rfl
 refine pure_ (i := 3) (N := some 23) (v := ?_) (a' := ?_) #[true, true, true, true, false, false, false, false, false, false, false, false, false, false, false, false, false, false, false, false, false, false, false, false] rfl rfl (any_of HT_.out (by kernel_rfl)) (fun _ _ _ h => h) (Or.inl ⟨by rfl, ?_⟩) ?_ ?_
 rotate_left
 · intro w'
   go_simp
   with_reducible rfl
 rotate_left
 · simp only [Act.put, List.setIfInBounds_toArray, List.set_cons_zero, List.set_cons_succ, i64_w, i32_w]
   rfl
 refine pure_ (i := 4) (N := some 24) (v := ?_) (a' := ?_) #[true, true, true, true, true, false, false, false, false, false, false, false, false, false, false, false, false, false, false, false, false, false, false, false] rfl rfl (any_of HT_.out (by kernel_rfl)) (fun _ _ _ h => h) (Or.inl ⟨by rfl, ?_⟩) ?_ ?_
 rotate_left
 · intro w'
   go_simp
   with_reducible rfl
 rotate_left
 · simp only [Act.put, List.setIfInBounds_toArray, List.set_cons_zero, List.set_cons_succ, i64_w, i32_w]
   rfl
 refine pure_ (i := 5) (N := some 25) (v := ?_) (a' := ?_) #[true, true, true, true, true, true, false, false, false, false, false, false, false, false, false, false, false, false, false, false, false, false, false, false] rfl rfl (any_of HT_.out (by kernel_rfl)) (fun _ _ _ h => h) (Or.inl ⟨by rfl, ?_⟩) ?_ ?_
 rotate_left
 · intro w'
   go_simp
   with_reducible rfl
 rotate_left
 · simp only [Act.put, List.setIfInBounds_toArray, List.set_cons_zero, List.set_cons_succ, i64_w, i32_w]
   rfl
 refine pure_ (i := 7) (N := some 27) (v := ?_) (a' := ?_) #[true, true, true, true, true, true, false, true, false, false, false, false, false, false, false, false, false, false, false, false, false, false, false, false] rfl rfl (any_of HT_.out (by kernel_rfl)) (fun _ _ _ h => h) (Or.inl ⟨by rfl, ?_⟩) ?_ ?_
 rotate_left
 · intro w'
   go_simp
   with_reducible rfl
 rotate_left
 · simp only [Act.put, List.setIfInBounds_toArray, List.set_cons_zero, List.set_cons_succ, i64_w, i32_w]
   rfl
 refine pure_ (i := 8) (N := some 28) (v := ?_) (a' := ?_) #[true, true, true, true, true, true, false, true, true, false, false, false, false, false, false, false, false, false, false, false, false, false, false, false] rfl rfl (any_of HT_.out (by kernel_rfl)) (fun _ _ _ h => h) (Or.inl ⟨by rfl, ?_⟩) ?_ ?_
 rotate_left
 · intro w'
   go_simp
   with_reducible rfl
 rotate_left
 · simp only [Act.put, List.setIfInBounds_toArray, List.set_cons_zero, List.set_cons_succ, i64_w, i32_w]
   rfl
 refine pure_ (i := 9) (N := some 29) (v := ?_) (a' := ?_) #[true, true, true, true, true, true, false, true, true, true, false, false, false, false, false, false, false, false, false, false, false, false, false, false] rfl rfl (any_of HT_.out (by kernel_rfl)) (fun _ _ _ h => h) (Or.inl ⟨by rfl, ?_⟩) ?_ ?_
 rotate_left
 · intro w'
   go_simp
   with_reducible rfl
 rotate_left
 · simp only [Act.put, List.setIfInBounds_toArray, List.set_cons_zero, List.set_cons_succ, i64_w, i32_w]
   rfl
 refine pure_ (i := 10) (N := some 30) (v := ?_) (a' := ?_) #[true, true, true, true, true, true, false, true, true, true, true, false, false, false, false, false, false, false, false, false, false, false, false, false] rfl rfl (any_of HT_.out (by kernel_rfl)) (fun _ _ _ h => h) (Or.inl ⟨by rfl, ?_⟩) ?_ ?_
 rotate_left
 · intro w'
   go_simp
   with_reducible rfl
 rotate_left
 · simp only [Act.put, List.setIfInBounds_toArray, List.set_cons_zero, List.set_cons_succ, i64_w, i32_w]
   rfl
 refine pure_ (i := 11) (N := some 31) (v := ?_) (a' := ?_) #[true, true, true, true, true, true, false, true, true, true, true, true, false, false, false, false, false, false, false, false, false, false, false, false] rfl rfl (any_of HT_.out (by kernel_rfl)) (fun _ _ _ h => h) (Or.inl ⟨by rfl, ?_⟩) ?_ ?_
 rotate_left
 · intro w'
   go_simp
   with_reducible rfl
 rotate_left
 · simp only [Act.put, List.setIfInBounds_toArray, List.set_cons_zero, List.set_cons_succ, i64_w, i32_w]
   rfl
 refine pure_ (i := 14) (N := some 34) (v := ?_) (a' := ?_) #[true, true, true, true, true, true, false, true, true, true, true, true, false, false, true, false, false, false, false, false, false, false, false, false] rfl rfl (any_of HT_.out (by kernel_rfl)) (fun _ _ _ h => h) (Or.inl ⟨by rfl, ?_⟩) ?_ ?_
 rotate_left
 · intro w'
   go_simp
   with_reducible rfl
 rotate_left
 · simp only [Act.put, List.setIfInBounds_toArray, List.set_cons_zero, List.set_cons_succ, i64_w, i32_w]
   rfl
 refine pure_ (i := 15) (N := some 35) (v := ?_) (a' := ?_) #[true, true, true, true, true, true, false, true, true, true, true, true, false, false, true, true, false, false, false, false, false, false, false, false] rfl rfl (any_of HT_.out (by kernel_rfl)) (fun _ _ _ h => h) (Or.inl ⟨by rfl, ?_⟩) ?_ ?_
 rotate_left
 · intro w'
   go_simp
   with_reducible rfl
 rotate_left
 · simp only [Act.put, List.setIfInBounds_toArray, List.set_cons_zero, List.set_cons_succ, i64_w, i32_w]
   rfl
 refine pure_ (i := 16) (N := some 36) (v := ?_) (a' := ?_) #[true, true, true, true, true, true, false, true, true, true, true, true, false, false, true, true, true, false, false, false, false, false, false, false] rfl rfl (any_of HT_.out (by kernel_rfl)) (fun _ _ _ h => h) (Or.inl ⟨by rfl, ?_⟩) ?_ ?_
 rotate_left
 · intro w'
   go_simp
   with_reducible rfl
 rotate_left
 · simp only [Act.put, List.setIfInBounds_toArray, List.set_cons_zero, List.set_cons_succ, i64_w, i32_w]
   rfl
 refine take_ (i := 6) (N := some 26) (v := ?_) (a' := ?_) #[true, true, true, true, true, true, true, true, true, true, true, true, false, false, true, true, true, false, false, false, false, false, false, false] rfl rfl (take_ofW HT_.out HW_.out (by kernel_rfl)) (fun _ _ _ h => h) (Or.inl ⟨by rfl, ?_⟩) hHeld ?_ ?_
 rotate_left
 · rintro w' ⟨s0, s1⟩
   go_simp
   with_reducible rfl
 rotate_left
 · simp only [Act.put, List.setIfInBounds_toArray, List.set_cons_zero, List.set_cons_succ, i64_w, i32_w]
   rfl
 refine take_ (i := 12) (N := some 32) (v := ?_) (a' := ?_) #[true, true, true, true, true, true, true, true, true, true, true, true, true, false, true, true, true, false, false, false, false, false, false, false] rfl rfl (take_ofW HT_.out HW_.out (by kernel_rfl)) (fun _ _ _ h => h) (Or.inl ⟨by rfl, ?_⟩) hHeld ?_ ?_
 rotate_left
 · rintro w' ⟨s0, s1⟩
   go_simp
   with_reducible rfl
 rotate_left
 · simp only [Act.put, List.setIfInBounds_toArray, List.set_cons_zero, List.set_cons_succ, i64_w, i32_w]
   rfl
 refine pure_ (i := 13) (N := some 33) (v := ?_) (a' := ?_) #[true, true, true, true, true, true, true, true, true, true, true, true, true, true, true, true, true, false, false, false, false, false, false, false] rfl rfl (any_of HT_.out (by kernel_rfl)) (fun _ _ _ h => h) (Or.inl ⟨by rfl, ?_⟩) ?_ ?_
 rotate_left
 · intro w'
   go_simp
   with_reducible rfl
 rotate_left
 · simp only [Act.put, List.setIfInBounds_toArray, List.set_cons_zero, List.set_cons_succ, i64_w, i32_w]
   rfl
 refine one_ (i := 17) (N := some 37) #[true, true, true, true, true, true, true, true, true, true, true, true, true, true, true, true, true, true, false, false, false, false, false, false] rfl rfl (one_of HT_.out (by kernel_rfl)) (by decide) (fun K hK => ?_)
 refine goes_ Tryz.func70 (by kernel_rfl) rfl #[.pointer (some ⟨Bm, 0, none⟩), .slice AL l6.length cl, .int .i64 ((l2.length : Nat) : Int), .slice Ai inn.length ci, .slice As st.length cs', .slice Am mem.length cm] (by rfl) rfl rfl (by (try simp only [List.map_toArray, List.map_cons, List.map_nil]); first | done | rfl) ?_
 refine (made_any HD.out O HO.out k nr (l2.length) AL Ai As Am cl ci cs' cm l6 inn st mem (Kd.C_below HL.out.1 (below_drew1 (Below.refl _ _))) HL.out.2 (HI.out.below (below_drew1 (Below.refl _ _))) (HS.out.below (below_drew1 (Below.refl _ _))) (HM.out.below (below_drew1 (Below.refl _ _))) hmx hn0 hn1 hmany s' dn' HR.out).mono ?_
 rintro e w5 ⟨v, rfl, hR, hM, hC⟩
 refine ⟨_, rfl, ?_⟩
 have HR5 := Aside0.mk hR
 have HM5 := Aside0.mk hM
 have HC5 := Aside0.mk hC
 clear hR hM hC
 refine hK.out _ _ ⟨HM5.out.cell (by decide) HM5.out.o6, HM5.out.cell (by decide) HM5.out.o2⟩ (fun hHeld => ?_)
 clear hK K
 refine norm_ (a' := ?_) ?_ ?_
 rotate_left
 · show Act.put _ (some 37) _ = _
   simp only [Act.put, List.setIfInBounds_toArray, List.set_cons_zero, List.set_cons_succ, i64_w, i32_w]
   rfl
 refine pure_ (i := 18) (N := some 38) (v := ?_) (a' := ?_) #[true, true, true, true, true, true, true, true, true, true, true, true, true, true, true, true, true, true, true, false, false, false, false, false] rfl rfl (any_of HT_.out (by kernel_rfl)) (fun _ _ _ h => h) (Or.inl ⟨by rfl, ?_⟩) ?_ ?_
 rotate_left
 · intro w'
   go_simp
   with_reducible rfl
 rotate_left
 · simp only [Act.put, List.setIfInBounds_toArray, List.set_cons_zero, List.set_cons_succ, i64_w, i32_w]
   rfl
 refine pure_ (i := 19) (N := some 39) (v := ?_) (a' := ?_) #[true, true, true, true, true, true, true, true, true, true, true, true, true, true, true, true, true, true, true, true, false, false, false, false] rfl rfl (any_of HT_.out (by kernel_rfl)) (fun _ _ _ h => h) (Or.inl ⟨by rfl, ?_⟩) ?_ ?_
 rotate_left
 · intro w'
   go_simp
   with_reducible rfl
 rotate_left
 · simp only [Act.put, List.setIfInBounds_toArray, List.set_cons_zero, List.set_cons_succ, i64_w, i32_w]
   rfl
 refine pure_ (i := 20) (N := some 40) (v := ?_) (a' := ?_) #[true, true, true, true, true, true, true, true, true, true, true, true, true, true, true, true, true, true, true, true, true, false, false, false] rfl rfl (any_of HT_.out (by kernel_rfl)) (fun _ _ _ h => h) (Or.inl ⟨by rfl, ?_⟩) ?_ ?_
 rotate_left
 · intro w'
   go_simp
   with_reducible rfl
 rotate_left
 · simp only [Act.put, List.setIfInBounds_toArray, List.set_cons_zero, List.set_cons_succ, i64_w, i32_w]
   rfl
 refine pure_ (i := 21) (N := some 8) (v := ?_) (a' := ?_) #[true, true, true, true, true, true, true, true, true, true, true, true, true, true, true, true, true, true, true, true, true, true, false, false] rfl rfl (any_of HT_.out (by kernel_rfl)) (fun _ _ _ h => h) (Or.inl ⟨by rfl, ?_⟩) ?_ ?_
 rotate_left
 · intro w'
   go_simp
   with_reducible rfl
 rotate_left
 · simp only [Act.put, List.setIfInBounds_toArray, List.set_cons_zero, List.set_cons_succ, i64_w, i32_w]
   rfl
 refine pure_ (i := 22) (N := some 9) (v := ?_) (a' := ?_) #[true, true, true, true, true, true, true, true, true, true, true, true, true, true, true, true, true, true, true, true, true, true, true, false] rfl rfl (any_of HT_.out (by kernel_rfl)) (fun _ _ _ h => h) (Or.inl ⟨by rfl, ?_⟩) ?_ ?_
 rotate_left
 · intro w'
   go_simp
   with_reducible rfl
 rotate_left
 · simp only [Act.put, List.setIfInBounds_toArray, List.set_cons_zero, List.set_cons_succ, i64_w, i32_w]
   rfl
 refine pure_ (i := 23) (N := some 10) (v := ?_) (a' := ?_) #[true, true, true, true, true, true, true, true, true, true, true, true, true, true, true, true, true, true, true, true, true, true, true, true] rfl rfl (any_of HT_.out (by kernel_rfl)) (fun _ _ _ h => h) (Or.inl ⟨by rfl, ?_⟩) ?_ ?_
 rotate_left
 · intro w'
   go_simp
   with_reducible rfl
 rotate_left
 · simp only [Act.put, List.setIfInBounds_toArray, List.set_cons_zero, List.set_cons_succ, i64_w, i32_w]
   rfl
 refine done_ (done_of HT_.out (by kernel_rfl)) ?_
 try go_wp2
 go_ret3
 exact ⟨_, rfl, HR5.out, HM5.out, (Chg.refl _ _).drew.then_ HC5.out (fun _ hi => .inl hi)⟩
set_option maxHeartbeats 1000000 in
set_option maxRecDepth 100000 in
theorem deriv_no {n Bm : Nat} {cs : Array Value} {v0 v1 v2 v3 v6 v7 v8 v9 : Value} {l0 l1 l2 l3 : List Int} {a4 a5 : Int} {l6 l7 l8 l9 : List S49} {dn : Int} {w : World} (h : Mach n Bm cs v0 v1 v2 v3 v6 v7 v8 v9 l0 l1 l2 l3 a4 a5 l6 l7 l8 l9 dn w) (Ai As Am : Option Addr) (ni ns nm ci cs' cm : Nat) (hf : ¬ (ni = l0.length ∧ ns = l2.length ∧ nm = l3.length)) :
 Calls Tryz.prog 27 #[.pointer (some ⟨Bm, 0, none⟩), .slice Ai ni ci, .slice As ns cs', .slice Am nm cm] w fun e w' => e = .returned (.tuple #[.slice none 0 0, .int .i64 0, .int .i64 13]) ∧ w' = w := by
 have H := Aside0.mk h
 clear h
 go_enter Tryz.func27, Tryz.ntmps27
 go_wp2_with (go_at_call 69; refine (fits_no H.out Ai As Am ni ns nm ci cs' cm hf).mono ?_; rintro e w1 ⟨rfl, rfl⟩)
 go_ret3
 exact ⟨rfl, rfl⟩
end Go.Proofs.YtgalkkolbobmbaaGreat.V
