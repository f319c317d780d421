/- The Go function astrolaberef16.Object. -/
import Derived.Test.YtccolpkjgjjipaaCRefI
import Derived.Test.YtccolpkjgjjipaaCObject
namespace Go.Proofs.Ytccolpkjgjjipaa.K
set_option linter.unusedVariables false
set_option linter.unusedSimpArgs false
open Go.RowKit Go.Proofs.YtccolpkjgjjipaaW.PrintWords Go.Proofs.YtccolpkjgjjipaaW.PrintLast Go.Proofs.YtccolpkjgjjipaaW.PrintMore
/-- What bytes tell, by the document. -/
def refF (l : List Int) : OR :=
  if l.length < 4 then noObj else if (decF (l.drop 4)).2 = true then noObj else if obBytes (decF (l.drop 4)).1 = l then okObj (decF (l.drop 4)).1 else noObj
def astrolaberef16_Object.f (l : List Int) : Option OR :=
  if l.length ≤ 1000000 ∧ (l.all fun x => decide (0 ≤ x ∧ x < 256)) = true then some (refF l) else none
structure RefS (w W : World) (s : List Int) (a : Int) (bad : Bool) (cs : Array Value) : Prop where
  b : Below w.heap.size w W
  st : IsS66 w W (w.heap.size + 1) s a bad
  ob : W.heap[w.heap.size + 1 + 1]? = some (.cells cs 28 (0, 0))
  k2 : W.heap[w.heap.size]? = some (.cells zero28 28 (0, 0))
section
variable {w W W' : World} {s : List Int} {a a' : Int} {bad bad' : Bool} {cs cs' : Array Value}
theorem rd_opt {l : List Int} {x : Int} (h0 : 0 ≤ x) (h : x < (l.length : Int)) : l[x.toNat]? = some (rd l x) := by
  obtain ⟨i, rfl⟩ := Int.eq_ofNat_of_zero_le h0
  have h : i < l.length := by omega
  rw [rd_nat h, Int.toNat_natCast, List.getElem?_eq_getElem h]
theorem keep_kept {g : Nat} (h : KeepBut W W' g none) : Kept W W' (only g) := ⟨h.1, fun i hi hne => h.2 i hi hne (by simp)⟩
theorem RefS.callk (h : RefS w W s a bad cs) (hI : IsS66 w W' (w.heap.size + 1) s a' bad') (hB : Below w.heap.size w W') (hk : KeepBut W W' (w.heap.size + 1) none) : RefS w W' s a' bad' cs :=
  ⟨hB, hI, (hk.2 _ (blk_lt h.ob) (by omega) (by simp)).trans h.ob, (hk.2 _ (blk_lt h.k2) (by omega) (by simp)).trans h.k2⟩
theorem RefS.put (h : RefS w W s a bad cs) (j : Nat) (v : Value) (hc : cs.setIfInBounds j v = cs') : RefS w (W.setCell ⟨w.heap.size + 1 + 1, j, none⟩ v) s a bad cs' :=
  ⟨h.b.setCell (p := ⟨w.heap.size + 1 + 1, j, none⟩) (by simp; omega) _, IsS66.far h.st (by simp) _, by rw [set_heap v h.ob, hc], (((Kept.refl W (fun k => k = w.heap.size + 1 + 1)).setCell (p := ⟨w.heap.size + 1 + 1, j, none⟩) (.inl rfl) v).2 _ (blk_lt h.k2) (by omega)).trans h.k2⟩
theorem RefS.lset (h : RefS w W s a bad cs) {α : Type} {d : Kd α} {e : Nat} {v : Value} {xs : List α} (hE : d.E = []) (ht : e ≠ 28) (L : d.R e W w.heap.size (fun _ => True) v xs) (j : Nat) (x : Value) : d.R e (W.setCell ⟨w.heap.size + 1 + 1, j, none⟩ x) w.heap.size (fun _ => True) v xs :=
  Kd.R_mono (Lst.keep hE (Lst.of (lo := 0) (Kd.R_mono L (fun _ _ => Nat.zero_le _))) h.ob ht ((Kept.refl W (fun k => k = w.heap.size + 1 + 1)).setCell (p := ⟨w.heap.size + 1 + 1, j, none⟩) (.inl rfl) _)) (fun _ _ => trivial)
theorem RefS.lput (h : RefS w W s a bad cs) (h' : RefS w W' s a' bad' cs) (hk : KeepBut W W' (w.heap.size + 1) none) {α : Type} {d : Kd α} {e : Nat} {v : Value} {xs : List α} (hE : d.E = []) (ht : e ≠ 28) (ht' : e ≠ 66) (L : d.R e W w.heap.size (fun _ => True) v xs) (j : Nat) (x : Value) : d.R e (W'.setCell ⟨w.heap.size + 1 + 1, j, none⟩ x) w.heap.size (fun _ => True) v xs := by
  obtain ⟨A, c, hb, _, _⟩ := h.st
  exact h'.lset hE ht (Kd.R_mono (Lst.keep hE (Lst.of (lo := 0) (Kd.R_mono L (fun _ _ => Nat.zero_le _))) hb ht' (keep_kept hk)) (fun _ _ => trivial)) j x
end
set_option maxHeartbeats 8000000 in
set_option maxRecDepth 100000 in
theorem refObject_yes (A0 : Option Addr) (c0 : Nat) (l0 : List Int) (w : World) (hr0 : Kd.C (Kd.int .u8) w A0 l0.length l0) (hc0 : l0.length ≤ c0) (hby : Byt l0) (hlen : l0.length ≤ 1000000) (h4 : 4 ≤ l0.length) :
    Calls Try.prog 11 #[.slice A0 l0.length c0] w (ObjPost w (refF l0)) := by
  obtain ⟨K, hK⟩ : ∃ K : Nat, K = 2000000000 := ⟨_, rfl⟩
  obtain ⟨x0, b0, q0, e0⟩ : ∃ x b q, readF oneF (l0.drop 4) false = (x, b, q) := ⟨_, _, _, rfl⟩
  obtain ⟨a0, h0, g0, f0⟩ := refReadInts hby hlen false K 4 (by omega) (by omega)
  rw [e0] at g0 f0
  dsimp only at g0 f0
  subst g0
  obtain ⟨x1, b1, q1, e1⟩ : ∃ x b q, readF oneF (l0.drop a0) q0 = (x, b, q) := ⟨_, _, _, rfl⟩
  obtain ⟨a1, h1, g1, f1⟩ := refReadInts hby hlen q0 K a0 (by omega) h0
  rw [e1] at g1 f1
  dsimp only at g1 f1
  subst g1
  obtain ⟨x2, b2, q2, e2⟩ : ∃ x b q, readF oneF (l0.drop a1) q1 = (x, b, q) := ⟨_, _, _, rfl⟩
  obtain ⟨a2, h2, g2, f2⟩ := refReadNumbers hby hlen q1 K a1 (by omega) h1
  rw [e2] at g2 f2
  dsimp only at g2 f2
  subst g2
  obtain ⟨x3, b3, q3, e3⟩ : ∃ x b q, readF oneF (l0.drop a2) q2 = (x, b, q) := ⟨_, _, _, rfl⟩
  obtain ⟨a3, h3, g3, f3⟩ := refReadNumbers hby hlen q2 K a2 (by omega) h2
  rw [e3] at g3 f3
  dsimp only at g3 f3
  subst g3
  obtain ⟨x4, b4, q4, e4⟩ : ∃ x b q, oneF (l0.drop a3) q3 = (x, b, q) := ⟨_, _, _, rfl⟩
  obtain ⟨a4, h4, g4, f4⟩ := refOne hby hlen q3 K a3 (by omega) h3
  rw [e4] at g4 f4
  dsimp only at g4 f4
  subst g4
  obtain ⟨x5, b5, q5, e5⟩ : ∃ x b q, oneF (l0.drop a4) q4 = (x, b, q) := ⟨_, _, _, rfl⟩
  obtain ⟨a5, h5, g5, f5⟩ := refOne hby hlen q4 K a4 (by omega) h4
  rw [e5] at g5 f5
  dsimp only at g5 f5
  subst g5
  obtain ⟨x6, b6, q6, e6⟩ : ∃ x b q, readF insF (l0.drop a5) q5 = (x, b, q) := ⟨_, _, _, rfl⟩
  obtain ⟨a6, h6, g6, f6⟩ := refReadPiece hby hlen q5 K a5 (by omega) h5
  rw [e6] at g6 f6
  dsimp only at g6 f6
  subst g6
  obtain ⟨x7, b7, q7, e7⟩ : ∃ x b q, readF insF (l0.drop a6) q6 = (x, b, q) := ⟨_, _, _, rfl⟩
  obtain ⟨a7, h7, g7, f7⟩ := refReadPiece hby hlen q6 K a6 (by omega) h6
  rw [e7] at g7 f7
  dsimp only at g7 f7
  subst g7
  obtain ⟨x8, b8, q8, e8⟩ : ∃ x b q, readF insF (l0.drop a7) q7 = (x, b, q) := ⟨_, _, _, rfl⟩
  obtain ⟨a8, h8, g8, f8⟩ := refReadPiece hby hlen q7 K a7 (by omega) h7
  rw [e8] at g8 f8
  dsimp only at g8 f8
  subst g8
  obtain ⟨x9, b9, q9, e9⟩ : ∃ x b q, readF insF (l0.drop a8) q8 = (x, b, q) := ⟨_, _, _, rfl⟩
  obtain ⟨a9, h9, g9, f9⟩ := refReadPiece hby hlen q8 K a8 (by omega) h8
  rw [e9] at g9 f9
  dsimp only at g9 f9
  subst g9
  have hin := decF_in _ (hby.drop 4)
  have hdec : decF (l0.drop 4) = ((x0, x1, x2, x3, x4, x5, x6, x7, x8, x9), q9) := by
    simp only [decF, e0, e1, e2, e3, e4, e5, e6, e7, e8, e9]
  have hobj : refF l0 = if q9 = true then noObj else if bytesB x0 x1 x2 x3 x4 x5 x6 x7 x8 x9 = l0 then (x0, x1, x2, x3, x4, x5, x6, x7, x8, x9, true) else noObj := by
    unfold refF
    rw [if_neg (by omega), hdec]
    rfl
  rw [hobj]
  rw [hdec] at hin
  dsimp only at hin
  obtain ⟨T, hT⟩ : ∃ T, (if q9 = true then noObj else if bytesB x0 x1 x2 x3 x4 x5 x6 x7 x8 x9 = l0 then (x0, x1, x2, x3, x4, x5, x6, x7, x8, x9, true) else noObj) = T := ⟨_, rfl⟩
  rw [hT]
  have m0 := (readF_le one_le e0).2
  have m1 := (readF_le one_le e1).2
  have m2 := (readF_le one_le e2).2
  have m3 := (readF_le one_le e3).2
  have m6 := (readF_le ins_le e6).2
  have m7 := (readF_le ins_le e7).2
  have m8 := (readF_le ins_le e8).2
  have m9 := (readF_le ins_le e9).2
  rw [List.length_drop] at m0 m1 m2 m3 m6 m7 m8 m9
  have hbl := bytesB_le x0 x1 x2 x3 x4 x5 x6 x7 x8 x9
  have hby := refBytes_f K hin (by omega) (by omega)
  have HBY := Aside0.mk hby
  have HT := Aside0.mk hT
  have HN := Aside0.mk hbl
  have HR := Aside0.mk hr0
  have F0 := Aside0.mk f0
  have F1 := Aside0.mk f1
  have F2 := Aside0.mk f2
  have F3 := Aside0.mk f3
  have F4 := Aside0.mk f4
  have F5 := Aside0.mk f5
  have F6 := Aside0.mk f6
  have F7 := Aside0.mk f7
  have F8 := Aside0.mk f8
  have F9 := Aside0.mk f9
  clear hdec hobj hT hin hbl hby m0 m1 m2 m3 m6 m7 m8 m9 e0 e1 e2 e3 e4 e5 e6 e7 e8 e9 hr0 f0 f1 f2 f3 f4 f5 f6 f7 f8 f9 hK
  have d4 : ¬ ((l0.length : Int) < 4) := by omega
  go_enter Try.func11, Try.ntmps11
  go_upto_region 5 with (fail)
  have hs : RefS w (((w.alloc (Obj.cells #[.slice none 0 0, .slice none 0 0, .slice none 0 0, .slice none 0 0, .int .i64 0, .int .i64 0, .slice none 0 0, .slice none 0 0, .slice none 0 0, .slice none 0 0] 28)).alloc (Obj.cells #[.slice A0 l0.length c0, .int .i64 4, .bool false] 66)).alloc (Obj.cells #[.slice none 0 0, .slice none 0 0, .slice none 0 0, .slice none 0 0, .int .i64 0, .int .i64 0, .slice none 0 0, .slice none 0 0, .slice none 0 0, .slice none 0 0] 28)) l0 (4 : Nat) false #[.slice none 0 0, .slice none 0 0, .slice none 0 0, .slice none 0 0, .int .i64 0, .int .i64 0, .slice none 0 0, .slice none 0 0, .slice none 0 0, .slice none 0 0] := by
    refine ⟨((((Below.refl _ _).alloc (Nat.le_refl _) _).alloc (by simp) _).alloc (by simp; omega) _), ⟨A0, c0, ?_, by omega, HR.out⟩, ?_, blk_alloc (blk_alloc (blk_new w _) _) _⟩
    · refine blk_alloc ?_ _
      have := blk_new (w.alloc (Obj.cells #[.slice none 0 0, .slice none 0 0, .slice none 0 0, .slice none 0 0, .int .i64 0, .int .i64 0, .slice none 0 0, .slice none 0 0, .slice none 0 0, .slice none 0 0] 28)) (Obj.cells #[.slice A0 l0.length c0, .int .i64 4, .bool false] 66)
      simpa using this
    · have := blk_new ((w.alloc (Obj.cells #[.slice none 0 0, .slice none 0 0, .slice none 0 0, .slice none 0 0, .int .i64 0, .int .i64 0, .slice none 0 0, .slice none 0 0, .slice none 0 0, .slice none 0 0] 28)).alloc (Obj.cells #[.slice A0 l0.length c0, .int .i64 4, .bool false] 66)) (Obj.cells #[.slice none 0 0, .slice none 0 0, .slice none 0 0, .slice none 0 0, .int .i64 0, .int .i64 0, .slice none 0 0, .slice none 0 0, .slice none 0 0, .slice none 0 0] 28)
      simpa using this
  obtain ⟨Wi, hW⟩ : ∃ W, W = (((w.alloc (Obj.cells #[.slice none 0 0, .slice none 0 0, .slice none 0 0, .slice none 0 0, .int .i64 0, .int .i64 0, .slice none 0 0, .slice none 0 0, .slice none 0 0, .slice none 0 0] 28)).alloc (Obj.cells #[.slice A0 l0.length c0, .int .i64 4, .bool false] 66)).alloc (Obj.cells #[.slice none 0 0, .slice none 0 0, .slice none 0 0, .slice none 0 0, .int .i64 0, .int .i64 0, .slice none 0 0, .slice none 0 0, .slice none 0 0, .slice none 0 0] 28)) := ⟨_, rfl⟩
  rw [← hW] at hs ⊢
  clear hW
  have HS := Aside0.mk hs
  clear hs
  go_upto_region 6 with (go_at_call 37; refine (astrolaberef16_Reader_ints.calls K (w.heap.size + 1) l0 _ false x0 _ q0 w _ HS.out.st HS.out.b F0.out).mono ?_; rintro e wj ⟨v0, rfl, ho, hI, hB, hk⟩; obtain ⟨B0, d0, rfl⟩ := Kd.R_slice ho; have HK := Aside0.mk (HS.out.callk hI hB hk); have HL := Aside0.mk (Kd.R_lower ho HS.out.b.size); have HKB := Aside0.mk hk; clear hI hB hk ho; have c1 := (blk_cell HK.out.ob 0).trans rfl; have c2 := blk_frozen HK.out.ob 0)
  have hs := HK.out.put 0 (.slice B0 x0.length d0) (cs' := #[.slice B0 x0.length d0, .slice none 0 0, .slice none 0 0, .slice none 0 0, .int .i64 0, .int .i64 0, .slice none 0 0, .slice none 0 0, .slice none 0 0, .slice none 0 0]) rfl
  have hl0 := HK.out.lset rfl (by decide) HL.out 0 (.slice B0 x0.length d0)
  obtain ⟨W0, hW⟩ : ∃ W, W = wj.setCell ⟨w.heap.size + 1 + 1, 0, none⟩ (.slice B0 x0.length d0) := ⟨_, rfl⟩
  rw [← hW] at hs hl0 ⊢
  clear hW c1 c2 HS HK HKB HL
  have HS := Aside0.mk hs
  have L0 := Aside0.mk hl0
  clear hs hl0
  go_upto_region 7 with (go_at_call 37; refine (astrolaberef16_Reader_ints.calls K (w.heap.size + 1) l0 _ q0 x1 _ q1 w _ HS.out.st HS.out.b F1.out).mono ?_; rintro e wj ⟨v1, rfl, ho, hI, hB, hk⟩; obtain ⟨B1, d1, rfl⟩ := Kd.R_slice ho; have HK := Aside0.mk (HS.out.callk hI hB hk); have HL := Aside0.mk (Kd.R_lower ho HS.out.b.size); have HKB := Aside0.mk hk; clear hI hB hk ho; have c1 := (blk_cell HK.out.ob 1).trans rfl; have c2 := blk_frozen HK.out.ob 1)
  have hs := HK.out.put 1 (.slice B1 x1.length d1) (cs' := #[.slice B0 x0.length d0, .slice B1 x1.length d1, .slice none 0 0, .slice none 0 0, .int .i64 0, .int .i64 0, .slice none 0 0, .slice none 0 0, .slice none 0 0, .slice none 0 0]) rfl
  have hl0 := HS.out.lput HK.out (show KeepBut _ _ _ none from HKB.out) rfl (by decide) (by decide) L0.out 1 (.slice B1 x1.length d1)
  have hl1 := HK.out.lset rfl (by decide) HL.out 1 (.slice B1 x1.length d1)
  obtain ⟨W1, hW⟩ : ∃ W, W = wj.setCell ⟨w.heap.size + 1 + 1, 1, none⟩ (.slice B1 x1.length d1) := ⟨_, rfl⟩
  rw [← hW] at hs hl0 hl1 ⊢
  clear hW c1 c2 HS HK HKB HL L0
  have HS := Aside0.mk hs
  have L0 := Aside0.mk hl0
  have L1 := Aside0.mk hl1
  clear hs hl0 hl1
  go_upto_region 8 with (go_at_call 38; refine (astrolaberef16_Reader_numbers.calls K (w.heap.size + 1) l0 _ q1 x2 _ q2 w _ HS.out.st HS.out.b F2.out).mono ?_; rintro e wj ⟨v2, rfl, ho, hI, hB, hk⟩; obtain ⟨B2, d2, rfl⟩ := Kd.R_slice ho; have HK := Aside0.mk (HS.out.callk hI hB hk); have HL := Aside0.mk (Kd.R_lower ho HS.out.b.size); have HKB := Aside0.mk hk; clear hI hB hk ho; have c1 := (blk_cell HK.out.ob 2).trans rfl; have c2 := blk_frozen HK.out.ob 2)
  have hs := HK.out.put 2 (.slice B2 x2.length d2) (cs' := #[.slice B0 x0.length d0, .slice B1 x1.length d1, .slice B2 x2.length d2, .slice none 0 0, .int .i64 0, .int .i64 0, .slice none 0 0, .slice none 0 0, .slice none 0 0, .slice none 0 0]) rfl
  have hl0 := HS.out.lput HK.out (show KeepBut _ _ _ none from HKB.out) rfl (by decide) (by decide) L0.out 2 (.slice B2 x2.length d2)
  have hl1 := HS.out.lput HK.out (show KeepBut _ _ _ none from HKB.out) rfl (by decide) (by decide) L1.out 2 (.slice B2 x2.length d2)
  have hl2 := HK.out.lset rfl (by decide) HL.out 2 (.slice B2 x2.length d2)
  obtain ⟨W2, hW⟩ : ∃ W, W = wj.setCell ⟨w.heap.size + 1 + 1, 2, none⟩ (.slice B2 x2.length d2) := ⟨_, rfl⟩
  rw [← hW] at hs hl0 hl1 hl2 ⊢
  clear hW c1 c2 HS HK HKB HL L0 L1
  have HS := Aside0.mk hs
  have L0 := Aside0.mk hl0
  have L1 := Aside0.mk hl1
  have L2 := Aside0.mk hl2
  clear hs hl0 hl1 hl2
  go_upto_region 9 with (go_at_call 38; refine (astrolaberef16_Reader_numbers.calls K (w.heap.size + 1) l0 _ q2 x3 _ q3 w _ HS.out.st HS.out.b F3.out).mono ?_; rintro e wj ⟨v3, rfl, ho, hI, hB, hk⟩; obtain ⟨B3, d3, rfl⟩ := Kd.R_slice ho; have HK := Aside0.mk (HS.out.callk hI hB hk); have HL := Aside0.mk (Kd.R_lower ho HS.out.b.size); have HKB := Aside0.mk hk; clear hI hB hk ho; have c1 := (blk_cell HK.out.ob 3).trans rfl; have c2 := blk_frozen HK.out.ob 3)
  have hs := HK.out.put 3 (.slice B3 x3.length d3) (cs' := #[.slice B0 x0.length d0, .slice B1 x1.length d1, .slice B2 x2.length d2, .slice B3 x3.length d3, .int .i64 0, .int .i64 0, .slice none 0 0, .slice none 0 0, .slice none 0 0, .slice none 0 0]) rfl
  have hl0 := HS.out.lput HK.out (show KeepBut _ _ _ none from HKB.out) rfl (by decide) (by decide) L0.out 3 (.slice B3 x3.length d3)
  have hl1 := HS.out.lput HK.out (show KeepBut _ _ _ none from HKB.out) rfl (by decide) (by decide) L1.out 3 (.slice B3 x3.length d3)
  have hl2 := HS.out.lput HK.out (show KeepBut _ _ _ none from HKB.out) rfl (by decide) (by decide) L2.out 3 (.slice B3 x3.length d3)
  have hl3 := HK.out.lset rfl (by decide) HL.out 3 (.slice B3 x3.length d3)
  obtain ⟨W3, hW⟩ : ∃ W, W = wj.setCell ⟨w.heap.size + 1 + 1, 3, none⟩ (.slice B3 x3.length d3) := ⟨_, rfl⟩
  rw [← hW] at hs hl0 hl1 hl2 hl3 ⊢
  clear hW c1 c2 HS HK HKB HL L0 L1 L2
  have HS := Aside0.mk hs
  have L0 := Aside0.mk hl0
  have L1 := Aside0.mk hl1
  have L2 := Aside0.mk hl2
  have L3 := Aside0.mk hl3
  clear hs hl0 hl1 hl2 hl3
  go_upto_region 10 with (go_at_call 39; refine (astrolaberef16_Reader_Number.calls K (w.heap.size + 1) l0 _ q3 x4 _ q4 w _ HS.out.st HS.out.b F4.out).mono ?_; rintro e wj ⟨rfl, hI, hB, hk⟩; have HK := Aside0.mk (HS.out.callk hI hB hk); have HKB := Aside0.mk hk; clear hI hB hk; have c1 := (blk_cell HK.out.ob 4).trans rfl; have c2 := blk_frozen HK.out.ob 4)
  have hs := HK.out.put 4 (.int .i64 x4) (cs' := #[.slice B0 x0.length d0, .slice B1 x1.length d1, .slice B2 x2.length d2, .slice B3 x3.length d3, .int .i64 x4, .int .i64 0, .slice none 0 0, .slice none 0 0, .slice none 0 0, .slice none 0 0]) rfl
  have hl0 := HS.out.lput HK.out (show KeepBut _ _ _ none from HKB.out) rfl (by decide) (by decide) L0.out 4 (.int .i64 x4)
  have hl1 := HS.out.lput HK.out (show KeepBut _ _ _ none from HKB.out) rfl (by decide) (by decide) L1.out 4 (.int .i64 x4)
  have hl2 := HS.out.lput HK.out (show KeepBut _ _ _ none from HKB.out) rfl (by decide) (by decide) L2.out 4 (.int .i64 x4)
  have hl3 := HS.out.lput HK.out (show KeepBut _ _ _ none from HKB.out) rfl (by decide) (by decide) L3.out 4 (.int .i64 x4)
  obtain ⟨W4, hW⟩ : ∃ W, W = wj.setCell ⟨w.heap.size + 1 + 1, 4, none⟩ (.int .i64 x4) := ⟨_, rfl⟩
  rw [← hW] at hs hl0 hl1 hl2 hl3 ⊢
  clear hW c1 c2 HS HK HKB L0 L1 L2 L3
  have HS := Aside0.mk hs
  have L0 := Aside0.mk hl0
  have L1 := Aside0.mk hl1
  have L2 := Aside0.mk hl2
  have L3 := Aside0.mk hl3
  clear hs hl0 hl1 hl2 hl3
  go_upto_region 11 with (go_at_call 39; refine (astrolaberef16_Reader_Number.calls K (w.heap.size + 1) l0 _ q4 x5 _ q5 w _ HS.out.st HS.out.b F5.out).mono ?_; rintro e wj ⟨rfl, hI, hB, hk⟩; have HK := Aside0.mk (HS.out.callk hI hB hk); have HKB := Aside0.mk hk; clear hI hB hk; have c1 := (blk_cell HK.out.ob 5).trans rfl; have c2 := blk_frozen HK.out.ob 5)
  have hs := HK.out.put 5 (.int .i64 x5) (cs' := #[.slice B0 x0.length d0, .slice B1 x1.length d1, .slice B2 x2.length d2, .slice B3 x3.length d3, .int .i64 x4, .int .i64 x5, .slice none 0 0, .slice none 0 0, .slice none 0 0, .slice none 0 0]) rfl
  have hl0 := HS.out.lput HK.out (show KeepBut _ _ _ none from HKB.out) rfl (by decide) (by decide) L0.out 5 (.int .i64 x5)
  have hl1 := HS.out.lput HK.out (show KeepBut _ _ _ none from HKB.out) rfl (by decide) (by decide) L1.out 5 (.int .i64 x5)
  have hl2 := HS.out.lput HK.out (show KeepBut _ _ _ none from HKB.out) rfl (by decide) (by decide) L2.out 5 (.int .i64 x5)
  have hl3 := HS.out.lput HK.out (show KeepBut _ _ _ none from HKB.out) rfl (by decide) (by decide) L3.out 5 (.int .i64 x5)
  obtain ⟨W5, hW⟩ : ∃ W, W = wj.setCell ⟨w.heap.size + 1 + 1, 5, none⟩ (.int .i64 x5) := ⟨_, rfl⟩
  rw [← hW] at hs hl0 hl1 hl2 hl3 ⊢
  clear hW c1 c2 HS HK HKB L0 L1 L2 L3
  have HS := Aside0.mk hs
  have L0 := Aside0.mk hl0
  have L1 := Aside0.mk hl1
  have L2 := Aside0.mk hl2
  have L3 := Aside0.mk hl3
  clear hs hl0 hl1 hl2 hl3
  go_upto_region 12 with (go_at_call 40; refine (astrolaberef16_Reader_piece.calls K (w.heap.size + 1) l0 _ q5 x6 _ q6 w _ HS.out.st HS.out.b F6.out).mono ?_; rintro e wj ⟨v6, rfl, ho, hI, hB, hk⟩; obtain ⟨B6, d6, rfl⟩ := Kd.R_slice ho; have HK := Aside0.mk (HS.out.callk hI hB hk); have HL := Aside0.mk (Kd.R_lower ho HS.out.b.size); have HKB := Aside0.mk hk; clear hI hB hk ho; have c1 := (blk_cell HK.out.ob 6).trans rfl; have c2 := blk_frozen HK.out.ob 6)
  have hs := HK.out.put 6 (.slice B6 x6.length d6) (cs' := #[.slice B0 x0.length d0, .slice B1 x1.length d1, .slice B2 x2.length d2, .slice B3 x3.length d3, .int .i64 x4, .int .i64 x5, .slice B6 x6.length d6, .slice none 0 0, .slice none 0 0, .slice none 0 0]) rfl
  have hl0 := HS.out.lput HK.out (show KeepBut _ _ _ none from HKB.out) rfl (by decide) (by decide) L0.out 6 (.slice B6 x6.length d6)
  have hl1 := HS.out.lput HK.out (show KeepBut _ _ _ none from HKB.out) rfl (by decide) (by decide) L1.out 6 (.slice B6 x6.length d6)
  have hl2 := HS.out.lput HK.out (show KeepBut _ _ _ none from HKB.out) rfl (by decide) (by decide) L2.out 6 (.slice B6 x6.length d6)
  have hl3 := HS.out.lput HK.out (show KeepBut _ _ _ none from HKB.out) rfl (by decide) (by decide) L3.out 6 (.slice B6 x6.length d6)
  have hl6 := HK.out.lset rfl (by decide) HL.out 6 (.slice B6 x6.length d6)
  obtain ⟨W6, hW⟩ : ∃ W, W = wj.setCell ⟨w.heap.size + 1 + 1, 6, none⟩ (.slice B6 x6.length d6) := ⟨_, rfl⟩
  rw [← hW] at hs hl0 hl1 hl2 hl3 hl6 ⊢
  clear hW c1 c2 HS HK HKB HL L0 L1 L2 L3
  have HS := Aside0.mk hs
  have L0 := Aside0.mk hl0
  have L1 := Aside0.mk hl1
  have L2 := Aside0.mk hl2
  have L3 := Aside0.mk hl3
  have L6 := Aside0.mk hl6
  clear hs hl0 hl1 hl2 hl3 hl6
  go_upto_region 13 with (go_at_call 40; refine (astrolaberef16_Reader_piece.calls K (w.heap.size + 1) l0 _ q6 x7 _ q7 w _ HS.out.st HS.out.b F7.out).mono ?_; rintro e wj ⟨v7, rfl, ho, hI, hB, hk⟩; obtain ⟨B7, d7, rfl⟩ := Kd.R_slice ho; have HK := Aside0.mk (HS.out.callk hI hB hk); have HL := Aside0.mk (Kd.R_lower ho HS.out.b.size); have HKB := Aside0.mk hk; clear hI hB hk ho; have c1 := (blk_cell HK.out.ob 7).trans rfl; have c2 := blk_frozen HK.out.ob 7)
  have hs := HK.out.put 7 (.slice B7 x7.length d7) (cs' := #[.slice B0 x0.length d0, .slice B1 x1.length d1, .slice B2 x2.length d2, .slice B3 x3.length d3, .int .i64 x4, .int .i64 x5, .slice B6 x6.length d6, .slice B7 x7.length d7, .slice none 0 0, .slice none 0 0]) rfl
  have hl0 := HS.out.lput HK.out (show KeepBut _ _ _ none from HKB.out) rfl (by decide) (by decide) L0.out 7 (.slice B7 x7.length d7)
  have hl1 := HS.out.lput HK.out (show KeepBut _ _ _ none from HKB.out) rfl (by decide) (by decide) L1.out 7 (.slice B7 x7.length d7)
  have hl2 := HS.out.lput HK.out (show KeepBut _ _ _ none from HKB.out) rfl (by decide) (by decide) L2.out 7 (.slice B7 x7.length d7)
  have hl3 := HS.out.lput HK.out (show KeepBut _ _ _ none from HKB.out) rfl (by decide) (by decide) L3.out 7 (.slice B7 x7.length d7)
  have hl6 := HS.out.lput HK.out (show KeepBut _ _ _ none from HKB.out) rfl (by decide) (by decide) L6.out 7 (.slice B7 x7.length d7)
  have hl7 := HK.out.lset rfl (by decide) HL.out 7 (.slice B7 x7.length d7)
  obtain ⟨W7, hW⟩ : ∃ W, W = wj.setCell ⟨w.heap.size + 1 + 1, 7, none⟩ (.slice B7 x7.length d7) := ⟨_, rfl⟩
  rw [← hW] at hs hl0 hl1 hl2 hl3 hl6 hl7 ⊢
  clear hW c1 c2 HS HK HKB HL L0 L1 L2 L3 L6
  have HS := Aside0.mk hs
  have L0 := Aside0.mk hl0
  have L1 := Aside0.mk hl1
  have L2 := Aside0.mk hl2
  have L3 := Aside0.mk hl3
  have L6 := Aside0.mk hl6
  have L7 := Aside0.mk hl7
  clear hs hl0 hl1 hl2 hl3 hl6 hl7
  go_upto_region 14 with (go_at_call 40; refine (astrolaberef16_Reader_piece.calls K (w.heap.size + 1) l0 _ q7 x8 _ q8 w _ HS.out.st HS.out.b F8.out).mono ?_; rintro e wj ⟨v8, rfl, ho, hI, hB, hk⟩; obtain ⟨B8, d8, rfl⟩ := Kd.R_slice ho; have HK := Aside0.mk (HS.out.callk hI hB hk); have HL := Aside0.mk (Kd.R_lower ho HS.out.b.size); have HKB := Aside0.mk hk; clear hI hB hk ho; have c1 := (blk_cell HK.out.ob 8).trans rfl; have c2 := blk_frozen HK.out.ob 8)
  have hs := HK.out.put 8 (.slice B8 x8.length d8) (cs' := #[.slice B0 x0.length d0, .slice B1 x1.length d1, .slice B2 x2.length d2, .slice B3 x3.length d3, .int .i64 x4, .int .i64 x5, .slice B6 x6.length d6, .slice B7 x7.length d7, .slice B8 x8.length d8, .slice none 0 0]) rfl
  have hl0 := HS.out.lput HK.out (show KeepBut _ _ _ none from HKB.out) rfl (by decide) (by decide) L0.out 8 (.slice B8 x8.length d8)
  have hl1 := HS.out.lput HK.out (show KeepBut _ _ _ none from HKB.out) rfl (by decide) (by decide) L1.out 8 (.slice B8 x8.length d8)
  have hl2 := HS.out.lput HK.out (show KeepBut _ _ _ none from HKB.out) rfl (by decide) (by decide) L2.out 8 (.slice B8 x8.length d8)
  have hl3 := HS.out.lput HK.out (show KeepBut _ _ _ none from HKB.out) rfl (by decide) (by decide) L3.out 8 (.slice B8 x8.length d8)
  have hl6 := HS.out.lput HK.out (show KeepBut _ _ _ none from HKB.out) rfl (by decide) (by decide) L6.out 8 (.slice B8 x8.length d8)
  have hl7 := HS.out.lput HK.out (show KeepBut _ _ _ none from HKB.out) rfl (by decide) (by decide) L7.out 8 (.slice B8 x8.length d8)
  have hl8 := HK.out.lset rfl (by decide) HL.out 8 (.slice B8 x8.length d8)
  obtain ⟨W8, hW⟩ : ∃ W, W = wj.setCell ⟨w.heap.size + 1 + 1, 8, none⟩ (.slice B8 x8.length d8) := ⟨_, rfl⟩
  rw [← hW] at hs hl0 hl1 hl2 hl3 hl6 hl7 hl8 ⊢
  clear hW c1 c2 HS HK HKB HL L0 L1 L2 L3 L6 L7
  have HS := Aside0.mk hs
  have L0 := Aside0.mk hl0
  have L1 := Aside0.mk hl1
  have L2 := Aside0.mk hl2
  have L3 := Aside0.mk hl3
  have L6 := Aside0.mk hl6
  have L7 := Aside0.mk hl7
  have L8 := Aside0.mk hl8
  clear hs hl0 hl1 hl2 hl3 hl6 hl7 hl8
  go_upto_region 15 with (go_at_call 40; refine (astrolaberef16_Reader_piece.calls K (w.heap.size + 1) l0 _ q8 x9 _ q9 w _ HS.out.st HS.out.b F9.out).mono ?_; rintro e wj ⟨v9, rfl, ho, hI, hB, hk⟩; obtain ⟨B9, d9, rfl⟩ := Kd.R_slice ho; have HK := Aside0.mk (HS.out.callk hI hB hk); have HL := Aside0.mk (Kd.R_lower ho HS.out.b.size); have HKB := Aside0.mk hk; clear hI hB hk ho; have c1 := (blk_cell HK.out.ob 9).trans rfl; have c2 := blk_frozen HK.out.ob 9)
  have hs := HK.out.put 9 (.slice B9 x9.length d9) (cs' := #[.slice B0 x0.length d0, .slice B1 x1.length d1, .slice B2 x2.length d2, .slice B3 x3.length d3, .int .i64 x4, .int .i64 x5, .slice B6 x6.length d6, .slice B7 x7.length d7, .slice B8 x8.length d8, .slice B9 x9.length d9]) rfl
  have hl0 := HS.out.lput HK.out (show KeepBut _ _ _ none from HKB.out) rfl (by decide) (by decide) L0.out 9 (.slice B9 x9.length d9)
  have hl1 := HS.out.lput HK.out (show KeepBut _ _ _ none from HKB.out) rfl (by decide) (by decide) L1.out 9 (.slice B9 x9.length d9)
  have hl2 := HS.out.lput HK.out (show KeepBut _ _ _ none from HKB.out) rfl (by decide) (by decide) L2.out 9 (.slice B9 x9.length d9)
  have hl3 := HS.out.lput HK.out (show KeepBut _ _ _ none from HKB.out) rfl (by decide) (by decide) L3.out 9 (.slice B9 x9.length d9)
  have hl6 := HS.out.lput HK.out (show KeepBut _ _ _ none from HKB.out) rfl (by decide) (by decide) L6.out 9 (.slice B9 x9.length d9)
  have hl7 := HS.out.lput HK.out (show KeepBut _ _ _ none from HKB.out) rfl (by decide) (by decide) L7.out 9 (.slice B9 x9.length d9)
  have hl8 := HS.out.lput HK.out (show KeepBut _ _ _ none from HKB.out) rfl (by decide) (by decide) L8.out 9 (.slice B9 x9.length d9)
  have hl9 := HK.out.lset rfl (by decide) HL.out 9 (.slice B9 x9.length d9)
  obtain ⟨W9, hW⟩ : ∃ W, W = wj.setCell ⟨w.heap.size + 1 + 1, 9, none⟩ (.slice B9 x9.length d9) := ⟨_, rfl⟩
  rw [← hW] at hs hl0 hl1 hl2 hl3 hl6 hl7 hl8 hl9 ⊢
  clear hW c1 c2 HS HK HKB HL L0 L1 L2 L3 L6 L7 L8
  have HS := Aside0.mk hs
  have L0 := Aside0.mk hl0
  have L1 := Aside0.mk hl1
  have L2 := Aside0.mk hl2
  have L3 := Aside0.mk hl3
  have L6 := Aside0.mk hl6
  have L7 := Aside0.mk hl7
  have L8 := Aside0.mk hl8
  have L9 := Aside0.mk hl9
  clear hs hl0 hl1 hl2 hl3 hl6 hl7 hl8 hl9
  clear F0 F1 F2 F3 F4 F5 F6 F7 F8 F9
  obtain ⟨Ag, cg, sb, sb2, sb3⟩ := HS.out.st
  have cb := (blk_cell sb 2).trans rfl
  clear sb sb2 sb3
  cases q9 with
  | true =>
    have k2 := HS.out.k2
    have y0 := (blk_cell k2 0).trans rfl
    have f0 := blk_frozen k2 0
    have y1 := (blk_cell k2 1).trans rfl
    have f1 := blk_frozen k2 1
    have y2 := (blk_cell k2 2).trans rfl
    have f2 := blk_frozen k2 2
    have y3 := (blk_cell k2 3).trans rfl
    have f3 := blk_frozen k2 3
    have y4 := (blk_cell k2 4).trans rfl
    have f4 := blk_frozen k2 4
    have y5 := (blk_cell k2 5).trans rfl
    have f5 := blk_frozen k2 5
    have y6 := (blk_cell k2 6).trans rfl
    have f6 := blk_frozen k2 6
    have y7 := (blk_cell k2 7).trans rfl
    have f7 := blk_frozen k2 7
    have y8 := (blk_cell k2 8).trans rfl
    have f8 := blk_frozen k2 8
    have y9 := (blk_cell k2 9).trans rfl
    have f9 := blk_frozen k2 9
    have HK2 := Aside0.mk k2
    clear k2
    go_wp2_with fail
    have hT := HT.out
    rw [if_pos trivial] at hT
    rw [← hT]
    exact bodyPost_ret (results_list (rs := [.cell 2 28, .tmp 3]) rfl (by simp) (.cell w.heap.size 28 _ (0, 0) _ rfl (ten_heap HK2.out) Try.underlying28 rfl (by kernel_rfl) (.tmp .nil))) rfl (noObj_post (ten_below HS.out.b) rfl)
  | false =>
    have ob := HS.out.ob
    have z0 := (blk_cell ob 0).trans rfl
    have z1 := (blk_cell ob 1).trans rfl
    have z2 := (blk_cell ob 2).trans rfl
    have z3 := (blk_cell ob 3).trans rfl
    have z4 := (blk_cell ob 4).trans rfl
    have z5 := (blk_cell ob 5).trans rfl
    have z6 := (blk_cell ob 6).trans rfl
    have z7 := (blk_cell ob 7).trans rfl
    have z8 := (blk_cell ob 8).trans rfl
    have z9 := (blk_cell ob 9).trans rfl
    have R0 := Kd.R_reads' L0.out
    have R1 := Kd.R_reads' L1.out
    have R2 := Kd.R_reads' L2.out
    have R3 := Kd.R_reads' L3.out
    have R6 := Kd.R_reads' L6.out
    have R7 := Kd.R_reads' L7.out
    have R8 := Kd.R_reads' L8.out
    have R9 := Kd.R_reads' L9.out
    have hT := HT.out
    rw [if_neg (by decide)] at hT
    have HT := Aside0.mk hT
    clear hT
    obtain ⟨y, hy⟩ : ∃ y, bytesB x0 x1 x2 x3 x4 x5 x6 x7 x8 x9 = y := ⟨_, rfl⟩
    rw [hy] at HBY HT HN
    clear hy
    have KB := Aside0.mk (astrolaberef16_Bytes.calls K B0 d0 x0 B1 d1 x1 B2 d2 x2 B3 d3 x3 x4 x5 B6 d6 x6 B7 d7 x7 B8 d8 x8 B9 d9 x9 y W9 R0.2.2 R0.2.1 R1.2.2 R1.2.1 R2.2.2 R2.2.1 R3.2.2 R3.2.1 R6.2.2 R6.2.1 R7.2.2 R7.2.1 R8.2.2 R8.2.1 R9.2.2 R9.2.1 HBY.out)
    clear R0 R1 R2 R3 R6 R7 R8 R9
    have HOB := Aside0.mk ob
    clear ob
    by_cases hn : y.length = l0.length
    case neg =>
      have e1 : ((y.length : Int) == (l0.length : Int)) = false := beq_false_of_ne (by omega)
      have e2 : ((y.length : Int) != (l0.length : Int)) = true := by rw [bne, e1]; rfl
      have e3 : ¬ ((y.length : Int) = (l0.length : Int)) := by omega
      have HN2 := Aside0.mk (show ¬ y = l0 from fun e => hn (by rw [e]))
      clear hn
      go_wp2_with (go_at_call 25; refine KB.out.mono ?_; rintro e wb ⟨vb, rfl, hRb, hBb⟩; obtain ⟨Bv, dv, rfl⟩ := Kd.R_slice hRb; have HRB := Aside0.mk (Kd.R_reads' hRb); have HBB := Aside0.mk hBb; have HOB2 := Aside0.mk (blk_below HOB.out hBb); have HK2 := Aside0.mk (blk_below HS.out.k2 hBb); have HB2 := Aside0.mk (HS.out.b.trans (hBb.mono HS.out.b.size)); clear hRb hBb; have k2 := HK2.out; have y0 := (blk_cell k2 0).trans rfl; have f0 := blk_frozen k2 0; have y1 := (blk_cell k2 1).trans rfl; have f1 := blk_frozen k2 1; have y2 := (blk_cell k2 2).trans rfl; have f2 := blk_frozen k2 2; have y3 := (blk_cell k2 3).trans rfl; have f3 := blk_frozen k2 3; have y4 := (blk_cell k2 4).trans rfl; have f4 := blk_frozen k2 4; have y5 := (blk_cell k2 5).trans rfl; have f5 := blk_frozen k2 5; have y6 := (blk_cell k2 6).trans rfl; have f6 := blk_frozen k2 6; have y7 := (blk_cell k2 7).trans rfl; have f7 := blk_frozen k2 7; have y8 := (blk_cell k2 8).trans rfl; have f8 := blk_frozen k2 8; have y9 := (blk_cell k2 9).trans rfl; have f9 := blk_frozen k2 9; clear k2)
      have hT := HT.out
      rw [if_neg HN2.out] at hT
      rw [← hT]
      exact bodyPost_ret (results_list (rs := [.cell 2 28, .tmp 3]) rfl (by simp) (.cell w.heap.size 28 _ (0, 0) _ rfl (ten_heap HK2.out) Try.underlying28 rfl (by kernel_rfl) (.tmp .nil))) rfl (noObj_post (ten_below HB2.out) rfl)
    have e1 : ((y.length : Int) == (l0.length : Int)) = true := beq_iff_eq.mpr (by omega)
    have e2 : ((y.length : Int) != (l0.length : Int)) = false := by rw [bne, e1]; rfl
    have e3 : (y.length : Int) = (l0.length : Int) := by omega
    have HNN := Aside0.mk hn
    clear hn
    go_wp2_with (go_at_call 25; refine KB.out.mono ?_; rintro e wb ⟨vb, rfl, hRb, hBb⟩; obtain ⟨Bv, dv, rfl⟩ := Kd.R_slice hRb; have HRB := Aside0.mk (Kd.R_reads' hRb); have HBB := Aside0.mk hBb; have HOB2 := Aside0.mk (blk_below HOB.out hBb); have HK2 := Aside0.mk (blk_below HS.out.k2 hBb); have HB2 := Aside0.mk (HS.out.b.trans (hBb.mono HS.out.b.size)); clear hRb hBb)
    clear z0 z1 z2 z3 z4 z5 z6 z7 z8 z9 e1 e2 e3
    go_loopw [7] (fun v7 wr => ∃ x : Int, Aside0 (0 ≤ x ∧ x ≤ (l0.length : Int)) ∧ v7 = .int .i64 x ∧ Aside0 (∀ j : Nat, (j : Int) < x → y[j]? = l0[j]?) ∧ Aside0 (Below wb.heap.size wb wr)) (fun v7 _ => l0.length - (intOf v7).toNat)
    case atStart => exact ⟨0, ⟨by omega, by omega⟩, rfl, ⟨fun j h => absurd h (by omega)⟩, ⟨Below.refl _ _⟩⟩
    case round =>
      obtain ⟨x, HI, rfl, HE, HW⟩ := hrel
      have HB3 := Aside0.mk (HB2.out.trans (HW.out.mono HB2.out.size))
      have HRA := Aside0.mk (Kd.C_below HR.out HB3.out)
      have HRY := Aside0.mk (Kd.C_below HRB.out.2.2 HW.out)
      by_cases hlt : x < (l0.length : Int)
      · have hy : x < (y.length : Int) := by rw [HNN.out]; exact hlt
        have p0 : 0 ≤ x := HI.out.1
        have q0 := hlt
        have q1 := hy
        obtain ⟨ad0, ea0, ha0⟩ := Kd.at_int HRA.out x p0 q0
        cases ea0
        obtain ⟨ad1, ea1, ha1⟩ := Kd.at_int HRY.out x p0 q1
        cases ea1
        have HG0 := Aside0.mk (rd_opt p0 hlt)
        have HG1 := Aside0.mk (rd_opt p0 hy)
        have HLT := Aside0.mk hlt
        have HLY := Aside0.mk hy
        clear hlt hy
        replace p0 := eq_true p0
        replace q0 := eq_true q0
        replace q1 := eq_true q1
        by_cases hc : rd l0 x = rd y x
        · have c1 : (rd l0 x == rd y x) = true := beq_iff_eq.mpr hc
          have c2 : (rd l0 x != rd y x) = false := bne_eq_false_iff_eq.mpr hc
          have HC := Aside0.mk hc
          clear hc
          go_wp2
          repeat (go_quiet (fail); try go_wp2)
          go_roundw
          case rel =>
            have hx0 := HI.out
            have hx1 := HLT.out
            refine ⟨x + 1, ⟨by omega, by omega⟩, by rw [wrap_i64 (by omega) (by omega)], ⟨fun j hj => ?_⟩, ⟨pw_below_drewN HW.out _⟩⟩
            by_cases hj2 : (j : Int) < x
            · exact HE.out j hj2
            · obtain rfl : j = x.toNat := by omega
              have h1 := HC.out
              rw [HG0.out, HG1.out, h1]
          case measure => have hx0 := HI.out; have hx1 := HLT.out; have hw := wrap_i64 (n := x + 1) (by omega) (by omega); simp [intOf, hw]; omega
        · have c1 : (rd l0 x == rd y x) = false := beq_false_of_ne hc
          have c2 : (rd l0 x != rd y x) = true := bne_iff_ne.mpr hc
          have HC := Aside0.mk (show ¬ y = l0 by
            intro e
            subst e
            exact hc rfl)
          clear hc
          have k2 := blk_below HK2.out HW.out
          have y0 := (blk_cell k2 0).trans rfl
          have f0 := blk_frozen k2 0
          have y1 := (blk_cell k2 1).trans rfl
          have f1 := blk_frozen k2 1
          have y2 := (blk_cell k2 2).trans rfl
          have f2 := blk_frozen k2 2
          have y3 := (blk_cell k2 3).trans rfl
          have f3 := blk_frozen k2 3
          have y4 := (blk_cell k2 4).trans rfl
          have f4 := blk_frozen k2 4
          have y5 := (blk_cell k2 5).trans rfl
          have f5 := blk_frozen k2 5
          have y6 := (blk_cell k2 6).trans rfl
          have f6 := blk_frozen k2 6
          have y7 := (blk_cell k2 7).trans rfl
          have f7 := blk_frozen k2 7
          have y8 := (blk_cell k2 8).trans rfl
          have f8 := blk_frozen k2 8
          have y9 := (blk_cell k2 9).trans rfl
          have f9 := blk_frozen k2 9
          have HK3 := Aside0.mk k2
          clear k2
          go_wp2
          repeat (go_quiet (fail); try go_wp2)
          have hT := HT.out
          rw [if_neg HC.out] at hT
          rw [← hT]
          exact bodyPost_ret (results_list (rs := [.cell 2 28, .tmp 3]) rfl (by simp) (.cell w.heap.size 28 _ (0, 0) _ rfl (ten_heap (blk_drewN HK3.out _)) Try.underlying28 rfl (by kernel_rfl) (.tmp .nil))) rfl (noObj_post (ten_below (pw_below_drewN HB3.out _)) rfl)
      · have q0 : decide (x < (l0.length : Int)) = false := decide_eq_false hlt
        have HEQ := Aside0.mk (show y = l0 by
          apply List.ext_getElem?
          intro j
          by_cases hj : (j : Int) < x
          · exact HE.out j hj
          · rw [List.getElem?_eq_none (by have := HNN.out; omega), List.getElem?_eq_none (by omega)])
        clear hlt
        have k2 := blk_below HK2.out HW.out
        have y0 := (blk_cell k2 0).trans rfl
        have f0 := blk_frozen k2 0
        have y1 := (blk_cell k2 1).trans rfl
        have f1 := blk_frozen k2 1
        have y2 := (blk_cell k2 2).trans rfl
        have f2 := blk_frozen k2 2
        have y3 := (blk_cell k2 3).trans rfl
        have f3 := blk_frozen k2 3
        have y4 := (blk_cell k2 4).trans rfl
        have f4 := blk_frozen k2 4
        have y5 := (blk_cell k2 5).trans rfl
        have f5 := blk_frozen k2 5
        have y6 := (blk_cell k2 6).trans rfl
        have f6 := blk_frozen k2 6
        have y7 := (blk_cell k2 7).trans rfl
        have f7 := blk_frozen k2 7
        have y8 := (blk_cell k2 8).trans rfl
        have f8 := blk_frozen k2 8
        have y9 := (blk_cell k2 9).trans rfl
        have f9 := blk_frozen k2 9
        have HK3 := Aside0.mk k2
        clear k2
        have ob := blk_below HOB2.out HW.out
        have z0 := (blk_cell ob 0).trans rfl
        have z1 := (blk_cell ob 1).trans rfl
        have z2 := (blk_cell ob 2).trans rfl
        have z3 := (blk_cell ob 3).trans rfl
        have z4 := (blk_cell ob 4).trans rfl
        have z5 := (blk_cell ob 5).trans rfl
        have z6 := (blk_cell ob 6).trans rfl
        have z7 := (blk_cell ob 7).trans rfl
        have z8 := (blk_cell ob 8).trans rfl
        have z9 := (blk_cell ob 9).trans rfl
        clear ob
        have HBW := Aside0.mk ((HBB.out).trans (HW.out.mono HBB.out.size))
        go_wp2
        have hT := HT.out
        rw [if_pos HEQ.out] at hT
        rw [← hT]
        refine bodyPost_ret (results_list (rs := [.cell 2 28, .tmp 3]) rfl (by simp) (.cell w.heap.size 28 _ (0, 0) _ rfl (ten_heap HK3.out) Try.underlying28 rfl (by kernel_rfl) (.tmp .nil))) rfl ?_
        have P0 := ten_R (x0 := .slice B0 x0.length d0) (x1 := .slice B1 x1.length d1) (x2 := .slice B2 x2.length d2) (x3 := .slice B3 x3.length d3) (x4 := .int .i64 x4) (x5 := .int .i64 x5) (x6 := .slice B6 x6.length d6) (x7 := .slice B7 x7.length d7) (x8 := .slice B8 x8.length d8) (x9 := .slice B9 x9.length d9) rfl (by decide) (Lst.of (lo := 0) (Kd.R_mono L0.out (fun _ _ => Nat.zero_le _))) HBW.out HK3.out
        have P1 := ten_R (x0 := .slice B0 x0.length d0) (x1 := .slice B1 x1.length d1) (x2 := .slice B2 x2.length d2) (x3 := .slice B3 x3.length d3) (x4 := .int .i64 x4) (x5 := .int .i64 x5) (x6 := .slice B6 x6.length d6) (x7 := .slice B7 x7.length d7) (x8 := .slice B8 x8.length d8) (x9 := .slice B9 x9.length d9) rfl (by decide) (Lst.of (lo := 0) (Kd.R_mono L1.out (fun _ _ => Nat.zero_le _))) HBW.out HK3.out
        have P2 := ten_R (x0 := .slice B0 x0.length d0) (x1 := .slice B1 x1.length d1) (x2 := .slice B2 x2.length d2) (x3 := .slice B3 x3.length d3) (x4 := .int .i64 x4) (x5 := .int .i64 x5) (x6 := .slice B6 x6.length d6) (x7 := .slice B7 x7.length d7) (x8 := .slice B8 x8.length d8) (x9 := .slice B9 x9.length d9) rfl (by decide) (Lst.of (lo := 0) (Kd.R_mono L2.out (fun _ _ => Nat.zero_le _))) HBW.out HK3.out
        have P3 := ten_R (x0 := .slice B0 x0.length d0) (x1 := .slice B1 x1.length d1) (x2 := .slice B2 x2.length d2) (x3 := .slice B3 x3.length d3) (x4 := .int .i64 x4) (x5 := .int .i64 x5) (x6 := .slice B6 x6.length d6) (x7 := .slice B7 x7.length d7) (x8 := .slice B8 x8.length d8) (x9 := .slice B9 x9.length d9) rfl (by decide) (Lst.of (lo := 0) (Kd.R_mono L3.out (fun _ _ => Nat.zero_le _))) HBW.out HK3.out
        have P6 := ten_R (x0 := .slice B0 x0.length d0) (x1 := .slice B1 x1.length d1) (x2 := .slice B2 x2.length d2) (x3 := .slice B3 x3.length d3) (x4 := .int .i64 x4) (x5 := .int .i64 x5) (x6 := .slice B6 x6.length d6) (x7 := .slice B7 x7.length d7) (x8 := .slice B8 x8.length d8) (x9 := .slice B9 x9.length d9) rfl (by decide) (Lst.of (lo := 0) (Kd.R_mono L6.out (fun _ _ => Nat.zero_le _))) HBW.out HK3.out
        have P7 := ten_R (x0 := .slice B0 x0.length d0) (x1 := .slice B1 x1.length d1) (x2 := .slice B2 x2.length d2) (x3 := .slice B3 x3.length d3) (x4 := .int .i64 x4) (x5 := .int .i64 x5) (x6 := .slice B6 x6.length d6) (x7 := .slice B7 x7.length d7) (x8 := .slice B8 x8.length d8) (x9 := .slice B9 x9.length d9) rfl (by decide) (Lst.of (lo := 0) (Kd.R_mono L7.out (fun _ _ => Nat.zero_le _))) HBW.out HK3.out
        have P8 := ten_R (x0 := .slice B0 x0.length d0) (x1 := .slice B1 x1.length d1) (x2 := .slice B2 x2.length d2) (x3 := .slice B3 x3.length d3) (x4 := .int .i64 x4) (x5 := .int .i64 x5) (x6 := .slice B6 x6.length d6) (x7 := .slice B7 x7.length d7) (x8 := .slice B8 x8.length d8) (x9 := .slice B9 x9.length d9) rfl (by decide) (Lst.of (lo := 0) (Kd.R_mono L8.out (fun _ _ => Nat.zero_le _))) HBW.out HK3.out
        have P9 := ten_R (x0 := .slice B0 x0.length d0) (x1 := .slice B1 x1.length d1) (x2 := .slice B2 x2.length d2) (x3 := .slice B3 x3.length d3) (x4 := .int .i64 x4) (x5 := .int .i64 x5) (x6 := .slice B6 x6.length d6) (x7 := .slice B7 x7.length d7) (x8 := .slice B8 x8.length d8) (x9 := .slice B9 x9.length d9) rfl (by decide) (Lst.of (lo := 0) (Kd.R_mono L9.out (fun _ _ => Nat.zero_le _))) HBW.out HK3.out
        exact ⟨_, _, _, _, _, _, _, _, rfl, P0, P1, P2, P3, P6, P7, P8, P9, ten_below HB3.out⟩
#print axioms refObject_yes
set_option maxHeartbeats 4000000 in
set_option maxRecDepth 100000 in
theorem refObject_no (A0 : Option Addr) (c0 : Nat) (l0 : List Int) (w : World) (h4 : l0.length < 4) :
    Calls Try.prog 11 #[.slice A0 l0.length c0] w (ObjPost w noObj) := by
  have d4 : (l0.length : Int) < 4 := by omega
  have hb : Below w.heap.size w (((w.alloc (Obj.cells #[.slice none 0 0, .slice none 0 0, .slice none 0 0, .slice none 0 0, .int .i64 0, .int .i64 0, .slice none 0 0, .slice none 0 0, .slice none 0 0, .slice none 0 0] 28)).alloc (Obj.cells #[.slice A0 l0.length c0, .int .i64 4, .bool false] 66)).alloc (Obj.cells #[.slice none 0 0, .slice none 0 0, .slice none 0 0, .slice none 0 0, .int .i64 0, .int .i64 0, .slice none 0 0, .slice none 0 0, .slice none 0 0, .slice none 0 0] 28)) := (((Below.refl _ _).alloc (Nat.le_refl _) _).alloc (by simp) _).alloc (by simp; omega) _
  have k2 : (((w.alloc (Obj.cells #[.slice none 0 0, .slice none 0 0, .slice none 0 0, .slice none 0 0, .int .i64 0, .int .i64 0, .slice none 0 0, .slice none 0 0, .slice none 0 0, .slice none 0 0] 28)).alloc (Obj.cells #[.slice A0 l0.length c0, .int .i64 4, .bool false] 66)).alloc (Obj.cells #[.slice none 0 0, .slice none 0 0, .slice none 0 0, .slice none 0 0, .int .i64 0, .int .i64 0, .slice none 0 0, .slice none 0 0, .slice none 0 0, .slice none 0 0] 28)).heap[w.heap.size]? = some (Obj.cells zero28 28 (0, 0)) := blk_alloc (blk_alloc (blk_new w _) _) _
  have ob : (((w.alloc (Obj.cells #[.slice none 0 0, .slice none 0 0, .slice none 0 0, .slice none 0 0, .int .i64 0, .int .i64 0, .slice none 0 0, .slice none 0 0, .slice none 0 0, .slice none 0 0] 28)).alloc (Obj.cells #[.slice A0 l0.length c0, .int .i64 4, .bool false] 66)).alloc (Obj.cells #[.slice none 0 0, .slice none 0 0, .slice none 0 0, .slice none 0 0, .int .i64 0, .int .i64 0, .slice none 0 0, .slice none 0 0, .slice none 0 0, .slice none 0 0] 28)).heap[w.heap.size + 1 + 1]? = some (Obj.cells zero28 28 (0, 0)) := by
    have := blk_new ((w.alloc (Obj.cells #[.slice none 0 0, .slice none 0 0, .slice none 0 0, .slice none 0 0, .int .i64 0, .int .i64 0, .slice none 0 0, .slice none 0 0, .slice none 0 0, .slice none 0 0] 28)).alloc (Obj.cells #[.slice A0 l0.length c0, .int .i64 4, .bool false] 66)) (Obj.cells #[.slice none 0 0, .slice none 0 0, .slice none 0 0, .slice none 0 0, .int .i64 0, .int .i64 0, .slice none 0 0, .slice none 0 0, .slice none 0 0, .slice none 0 0] 28)
    simpa using this
  clear h4
  go_enter Try.func11, Try.ntmps11
  go_upto_region 3 with (fail)
  obtain ⟨Wi, hW⟩ : ∃ W, W = (((w.alloc (Obj.cells #[.slice none 0 0, .slice none 0 0, .slice none 0 0, .slice none 0 0, .int .i64 0, .int .i64 0, .slice none 0 0, .slice none 0 0, .slice none 0 0, .slice none 0 0] 28)).alloc (Obj.cells #[.slice A0 l0.length c0, .int .i64 4, .bool false] 66)).alloc (Obj.cells #[.slice none 0 0, .slice none 0 0, .slice none 0 0, .slice none 0 0, .int .i64 0, .int .i64 0, .slice none 0 0, .slice none 0 0, .slice none 0 0, .slice none 0 0] 28)) := ⟨_, rfl⟩
  rw [← hW] at hb k2 ob ⊢
  clear hW
  have y0 := (blk_cell k2 0).trans rfl
  have f0 := blk_frozen k2 0
  have z0 := (blk_cell ob 0).trans rfl
  have y1 := (blk_cell k2 1).trans rfl
  have f1 := blk_frozen k2 1
  have z1 := (blk_cell ob 1).trans rfl
  have y2 := (blk_cell k2 2).trans rfl
  have f2 := blk_frozen k2 2
  have z2 := (blk_cell ob 2).trans rfl
  have y3 := (blk_cell k2 3).trans rfl
  have f3 := blk_frozen k2 3
  have z3 := (blk_cell ob 3).trans rfl
  have y4 := (blk_cell k2 4).trans rfl
  have f4 := blk_frozen k2 4
  have z4 := (blk_cell ob 4).trans rfl
  have y5 := (blk_cell k2 5).trans rfl
  have f5 := blk_frozen k2 5
  have z5 := (blk_cell ob 5).trans rfl
  have y6 := (blk_cell k2 6).trans rfl
  have f6 := blk_frozen k2 6
  have z6 := (blk_cell ob 6).trans rfl
  have y7 := (blk_cell k2 7).trans rfl
  have f7 := blk_frozen k2 7
  have z7 := (blk_cell ob 7).trans rfl
  have y8 := (blk_cell k2 8).trans rfl
  have f8 := blk_frozen k2 8
  have z8 := (blk_cell ob 8).trans rfl
  have y9 := (blk_cell k2 9).trans rfl
  have f9 := blk_frozen k2 9
  have z9 := (blk_cell ob 9).trans rfl
  have HK := Aside0.mk k2
  have HB := Aside0.mk hb
  clear k2 ob hb
  go_wp2_with fail
  exact bodyPost_ret (results_list (rs := [.cell 2 28, .tmp 3]) rfl (by simp) (.cell w.heap.size 28 _ (0, 0) _ rfl (ten_heap HK.out) Try.underlying28 rfl (by kernel_rfl) (.tmp .nil))) rfl (noObj_post (ten_below HB.out) rfl)
theorem refObject_f_some {l : List Int} {t : OR} (h : astrolaberef16_Object.f l = some t) : l.length ≤ 1000000 ∧ Byt l ∧ refF l = t := by
  unfold astrolaberef16_Object.f at h
  split at h
  · rename_i hc
    refine ⟨hc.1, fun x hx => ?_, Option.some.inj h⟩
    have := List.all_eq_true.1 hc.2 x hx
    simpa using this
  · cases h
theorem astrolaberef16_Object.calls (A0 : Option Addr) (c0 : Nat) (l0 : List Int) (t0 t1 t2 t3 : List Int) (t4 t5 : Int) (t6 t7 t8 t9 : List S47) (t10 : Bool) (w : World) (hr0 : Kd.C (Kd.int .u8) w A0 l0.length l0) (hc0 : l0.length ≤ c0)
    (h : astrolaberef16_Object.f l0 = some (t0, t1, t2, t3, t4, t5, t6, t7, t8, t9, t10)) :
    Calls Try.prog 11 #[.slice A0 l0.length c0] w fun e w' => ∃ v0 v1 v2 v3 v6 v7 v8 v9 : Value, e = .returned (.tuple #[.agg #[v0, v1, v2, v3, .int .i64 t4, .int .i64 t5, v6, v7, v8, v9], .bool t10]) ∧
      Kd.R (Kd.int .i64) 3 w' w.heap.size (fun _ => True) v0 t0 ∧ Kd.R (Kd.int .i64) 3 w' w.heap.size (fun _ => True) v1 t1 ∧ Kd.R (Kd.int .i64) 2 w' w.heap.size (fun _ => True) v2 t2 ∧ Kd.R (Kd.int .i64) 2 w' w.heap.size (fun _ => True) v3 t3 ∧
      Kd.R k47 47 w' w.heap.size (fun _ => True) v6 t6 ∧ Kd.R k47 47 w' w.heap.size (fun _ => True) v7 t7 ∧ Kd.R k47 47 w' w.heap.size (fun _ => True) v8 t8 ∧ Kd.R k47 47 w' w.heap.size (fun _ => True) v9 t9 ∧ Below w.heap.size w w' := by
  obtain ⟨hl, hb, ho⟩ := refObject_f_some h
  show Calls Try.prog 11 #[.slice A0 l0.length c0] w (ObjPost w (t0, t1, t2, t3, t4, t5, t6, t7, t8, t9, t10))
  rw [← ho]
  by_cases h4 : l0.length < 4
  · have := refObject_no A0 c0 l0 w h4
    unfold refF
    rw [if_pos h4]
    exact this
  · exact refObject_yes A0 c0 l0 w hr0 hc0 hb hl (by omega)
#print axioms astrolaberef16_Object.calls
end Go.Proofs.Ytccolpkjgjjipaa.K
