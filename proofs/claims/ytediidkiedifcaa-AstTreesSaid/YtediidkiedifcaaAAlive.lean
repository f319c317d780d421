/- The law's alive, walked. -/
import Derived.Test.YtediidkiedifcaaADeep
namespace Go.Proofs.Ytediidkiedifcaa.Q
set_option linter.unusedVariables false
set_option linter.unusedSimpArgs false
open Go.RowKit Go.Proofs.YtediidkiedifcaaW.PrintWords Go.Proofs.YtediidkiedifcaaW.PrintLast Go.Proofs.YtediidkiedifcaaW.PrintMore
def aliveX : List S31 := [(⟨1, 0, 0, 0, (⟨#[]⟩ : ByteArray), (⟨#[]⟩ : ByteArray), 4294967296, ([] : List Int), 0⟩ : S31), (⟨3, 0, 0, 0, (⟨#[120]⟩ : ByteArray), (⟨#[]⟩ : ByteArray), 0, ([] : List Int), 0⟩ : S31), (⟨6, 0, 1, 0, (⟨#[]⟩ : ByteArray), (⟨#[]⟩ : ByteArray), 0, ([] : List Int), 0⟩ : S31)]
theorem alive_names : ast_Names.f [] aliveX 2 = some [⟨#[120]⟩] := by decide +kernel
theorem alive_deep : ast_Deep.f [] aliveX 2 = some 2 := by decide +kernel
def astrolabelaw04_alive.f : Option Bool := some true
set_option maxHeartbeats 8000000 in
set_option maxRecDepth 100000 in
theorem astrolabelaw04_alive.calls (r : Bool) (w : World) (h : astrolabelaw04_alive.f = some r) :
    Calls Try.prog 8 #[] w fun e w' => e = .returned (.bool r) ∧ Below w.heap.size w w' := by
  obtain rfl := Option.some.inj h
  clear h
  go_enter Try.func8, Try.ntmps8
  go_upto_region 2 with (((with_reducible refine gate_dst (N := 6) rfl ?_); (try (refine gate_guard (by rfl) ?_; dsimp only)); refine Kd.S_lit k31 _ 31 ?hg (N := 6) ?hd (xs := ([(⟨1, 0, 0, 0, (⟨#[]⟩ : ByteArray), (⟨#[]⟩ : ByteArray), 4294967296, ([] : List Int), 0⟩ : S31), (⟨3, 0, 0, 0, (⟨#[120]⟩ : ByteArray), (⟨#[]⟩ : ByteArray), 0, ([] : List Int), 0⟩ : S31), (⟨6, 0, 1, 0, (⟨#[]⟩ : ByteArray), (⟨#[]⟩ : ByteArray), 0, ([] : List Int), 0⟩ : S31)] : List (S31))) (inner := [.int .i64 1, .int .i64 0, .int .i64 0, .int .i64 0, .string (⟨#[]⟩ : ByteArray), .string (⟨#[]⟩ : ByteArray), .int .i64 4294967296, .slice none 0 0, .int .i64 0, .int .i64 3, .int .i64 0, .int .i64 0, .int .i64 0, .string (⟨#[120]⟩ : ByteArray), .string (⟨#[]⟩ : ByteArray), .int .i64 0, .slice none 0 0, .int .i64 0, .int .i64 6, .int .i64 0, .int .i64 1, .int .i64 0, .string (⟨#[]⟩ : ByteArray), .string (⟨#[]⟩ : ByteArray), .int .i64 0, .slice none 0 0, .int .i64 0]) (ok := fun _ => True) (okp := fun _ => True) ?hr ?hp (fun _ hk => hk) trivial (Below.refl _ _) (Nat.le_refl _) (by simp) ?_; (case hd => rfl); (case hg => rfl); (case hr => first | (go_simp; done) | (go_simp; rfl)); (case hp => exact (Reps.c9 (show Kd.M k31 _ _ _ (⟨1, 0, 0, 0, (⟨#[]⟩ : ByteArray), (⟨#[]⟩ : ByteArray), 4294967296, ([] : List Int), 0⟩ : S31) [.int .i64 1, .int .i64 0, .int .i64 0, .int .i64 0, .string (⟨#[]⟩ : ByteArray), .string (⟨#[]⟩ : ByteArray), .int .i64 4294967296, .slice none 0 0, .int .i64 0] from (k31_mkM _ _ _ (⟨1, 0, 0, 0, (⟨#[]⟩ : ByteArray), (⟨#[]⟩ : ByteArray), 4294967296, ([] : List Int), 0⟩ : S31) (Kd.R_nil _ _ _ _ _))) (Reps.c9 (show Kd.M k31 _ _ _ (⟨3, 0, 0, 0, (⟨#[120]⟩ : ByteArray), (⟨#[]⟩ : ByteArray), 0, ([] : List Int), 0⟩ : S31) [.int .i64 3, .int .i64 0, .int .i64 0, .int .i64 0, .string (⟨#[120]⟩ : ByteArray), .string (⟨#[]⟩ : ByteArray), .int .i64 0, .slice none 0 0, .int .i64 0] from (k31_mkM _ _ _ (⟨3, 0, 0, 0, (⟨#[120]⟩ : ByteArray), (⟨#[]⟩ : ByteArray), 0, ([] : List Int), 0⟩ : S31) (Kd.R_nil _ _ _ _ _))) (Reps.c9 (show Kd.M k31 _ _ _ (⟨6, 0, 1, 0, (⟨#[]⟩ : ByteArray), (⟨#[]⟩ : ByteArray), 0, ([] : List Int), 0⟩ : S31) [.int .i64 6, .int .i64 0, .int .i64 1, .int .i64 0, .string (⟨#[]⟩ : ByteArray), .string (⟨#[]⟩ : ByteArray), .int .i64 0, .slice none 0 0, .int .i64 0] from (k31_mkM _ _ _ (⟨6, 0, 1, 0, (⟨#[]⟩ : ByteArray), (⟨#[]⟩ : ByteArray), 0, ([] : List Int), 0⟩ : S31) (Kd.R_nil _ _ _ _ _))) (Reps.none _ _))))); intro v w1 ho hb hg hnew; obtain ⟨Ao, co, rfl⟩ := Kd.S_slice ho; have HO := Aside0.mk ho; have HBB := Aside0.mk hb; clear ho hb hg hnew))
  obtain ⟨ga, ca, ega, _⟩ := Kd.R_form (Kd.S_R HO.out) (by decide)
  injection ega with ega1 _ eca
  subst ega1 eca
  have hC1 := (Kd.S_reads' HO.out).2.2
  have hc1 := (Kd.S_reads' HO.out).2.1
  obtain ⟨X, hX⟩ : ∃ X, aliveX = X := ⟨_, rfl⟩
  have HXL := Aside0.mk (show X.length = 3 by rw [← hX]; rfl)
  obtain ⟨W, hW⟩ : ∃ W, W = w1.alloc (Obj.cells #[.slice none 0 0, .slice (some ⟨ga, 0, none⟩) 3 co] 25) := ⟨_, rfl⟩
  have hbW : Below w1.heap.size w1 W := by rw [hW]; exact (Below.refl _ _).alloc (Nat.le_refl _) _
  have HK := Aside0.mk (show W.heap[w1.heap.size]? = some (.cells #[.slice none 0 0, .slice (some ⟨ga, 0, none⟩) 3 co] 25 (0, 0)) by rw [hW]; exact blk_new _ _)
  have HC := Aside0.mk (show Kd.C k31 W (some ⟨ga, 0, none⟩) X.length X by rw [← hX]; exact Kd.C_below hC1 hbW)
  have HCc := Aside0.mk (show X.length ≤ co by rw [HXL.out]; exact hc1)
  have HB := Aside0.mk (HBB.out.trans (hbW.mono HBB.out.size))
  have HN := Aside0.mk (show ast_Names.f [] X 2 = some [⟨#[120]⟩] by rw [← hX]; exact alive_names)
  have HDp := Aside0.mk (show ast_Deep.f [] X 2 = some 2 by rw [← hX]; exact alive_deep)
  have HRD := Aside0.mk (show rd_T31 X 2 = ⟨6, 0, 1, 0, ⟨#[]⟩, ⟨#[]⟩, 0, [], 0⟩ by rw [← hX]; rfl)
  rw [← hW]
  obtain ⟨g, hg⟩ : ∃ g, g = w1.heap.size := ⟨_, rfl⟩
  rw [← hg] at HK ⊢
  have HGL := Aside0.mk (show w.heap.size ≤ g by rw [hg]; exact HBB.out.size)
  clear hC1 hc1 hbW hW hX HO HBB hg
  have HC0 := fun (V : World) => (Kd.C_nil k45 V)
  have z0 : W.cell? ⟨g, 0, none⟩ = some (.slice none 0 0) := (blk_cell HK.out 0).trans rfl
  have z1 : W.cell? ⟨g, 1, none⟩ = some (.slice (some ⟨ga, 0, none⟩) 3 co) := (blk_cell HK.out 1).trans rfl
  have KN := ast_Names.calls none 0 [] (some ⟨ga, 0, none⟩) co X 2 [⟨#[120]⟩] W (HC0 W) (Nat.le_refl _) HC.out HCc.out HN.out
  rw [HXL.out] at KN
  have KNA := Aside0.mk KN
  clear KN
  go_upto_region 3 with (go_at_call 15; refine KNA.out.mono ?_; rintro e w2 ⟨vn, rfl, hrn, hbn⟩; obtain ⟨An, cn, rfl⟩ := Kd.R_slice hrn; have HRN := Aside0.mk hrn; have HBN := Aside0.mk hbn; clear hrn hbn)
  have HC2 := Aside0.mk (Kd.C_below HC.out HBN.out)
  have HB2 := Aside0.mk (HB.out.trans (HBN.out.mono HB.out.size))
  have HK2 := Aside0.mk (blk_below HK.out HBN.out)
  clear z0 z1 KNA HC HB HK HBN
  have z0 : w2.cell? ⟨g, 0, none⟩ = some (.slice none 0 0) := (blk_cell HK2.out 0).trans rfl
  have z1 : w2.cell? ⟨g, 1, none⟩ = some (.slice (some ⟨ga, 0, none⟩) 3 co) := (blk_cell HK2.out 1).trans rfl
  obtain ⟨ad, A7, c7, ea, hx0, hx1, hx2, hx3, hx4, hx5, hx6, hx7, hx8, hl7, hi7⟩ := at_T31 HC2.out 2 (by omega) (by rw [HXL.out]; decide)
  cases ea
  rw [HRD.out] at hx0 hx1 hx2 hx3 hx4 hx5 hx6 hx7 hx8 hl7 hi7
  have yx0 : w2.cell? ⟨ga, 18, none⟩ = some (.int .i64 6) := hx0
  have yx1 : w2.cell? ⟨ga, 19, none⟩ = some (.int .i64 0) := hx1
  have yx2 : w2.cell? ⟨ga, 20, none⟩ = some (.int .i64 1) := hx2
  have yx3 : w2.cell? ⟨ga, 21, none⟩ = some (.int .i64 0) := hx3
  have yx4 : w2.cell? ⟨ga, 22, none⟩ = some (.string ⟨#[]⟩) := hx4
  have yx5 : w2.cell? ⟨ga, 23, none⟩ = some (.string ⟨#[]⟩) := hx5
  have yx6 : w2.cell? ⟨ga, 24, none⟩ = some (.int .i64 0) := hx6
  have yx7 : w2.cell? ⟨ga, 25, none⟩ = some (.slice A7 0 c7) := hx7
  have yx8 : w2.cell? ⟨ga, 26, none⟩ = some (.int .i64 0) := hx8
  clear hx0 hx1 hx2 hx3 hx4 hx5 hx6 hx7 hx8
  have KP := Aside0.mk (ast_Parts.calls 2 6 0 1 0 ⟨#[]⟩ ⟨#[]⟩ 0 A7 c7 [] 0 [0, 1] w2 hi7 hl7 (by decide +kernel))
  clear hl7 hi7
  dsimp only [List.length_nil] at KP
  obtain ⟨gn, cn', en, _⟩ := Kd.R_form HRN.out (by decide)
  cases en
  go_wp2_with (first | (go_at_call 10; go_loud (refine KP.out.mono ?_); rintro e w3 ⟨vp, rfl, hrp, hbp⟩; obtain ⟨Ap, cp, rfl⟩ := Kd.R_slice hrp; have hk3 := blk_below HK2.out hbp; have y0 : w3.cell? ⟨g, 0, none⟩ = some (.slice none 0 0) := (blk_cell hk3 0).trans rfl; have y1 : w3.cell? ⟨g, 1, none⟩ = some (.slice (some ⟨ga, 0, none⟩) 3 co) := (blk_cell hk3 1).trans rfl; have hB3 := HB2.out.trans (hbp.mono HB2.out.size); have HB3 := Aside0.mk hB3; have HN3 := Aside0.mk (Kd.R_below HRN.out hbp); have kd := ast_Deep.calls none 0 [] (some ⟨ga, 0, none⟩) co X 2 2 w3 (HC0 w3) (Nat.le_refl _) (Kd.C_below HC2.out hbp) HCc.out HDp.out; rw [HXL.out] at kd; have KD := Aside0.mk kd; clear kd hk3 hB3 hrp hbp) | (go_at_call 16; go_loud (refine KD.out.mono ?_); rintro e w4 ⟨rfl, hbd⟩; have hq := Kd.R_celln ByteArray.empty (Kd.R_below HN3.out hbd) 0 (by decide) (by decide); have q1 : w4.cell? ⟨gn, 0, none⟩ = some (.string ⟨#[120]⟩) := hq.1; have HB4 := Aside0.mk (HB3.out.trans (hbd.mono HB3.out.size)); clear hq hbd))
  go_ret
  exact ⟨rfl, HB4.out⟩

end Go.Proofs.Ytediidkiedifcaa.Q
