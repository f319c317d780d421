/- The row of the law VmDone: whatever the input: true, and the input reads as_ it did. Under no condition. -/
import Derived.Test.YtgalkkolbobmbaaGreatRows
import Derived.Test.YtgalkkolbobmbaaGreatJVmDoneE
import Derived.Test.YtgalkkolbobmbaaGreatVDone
import Derived.WalkKit
import Derived.ProofKit
import Derived.OpenShut
import Derived.ShutString
import Derived.ChangeOld
import Derived.Below
import Derived.SizedLaws
import Derived.ChangeSlices

namespace Go.Proofs.YtgalkkolbobmbaaGreat.vmDone
open Go.ChangeShapes Go.WideShapes Go.ChangeAt Go.RowKit Go.Proofs.YtgalkkolbobmbaaGreat.Rds Go.Proofs.YtgalkkolbobmbaaGreatW.PrintWords
open Go.ChangeMaps (open_string shut_string)
set_option linter.unusedVariables false
set_option maxHeartbeats 1000000 in
set_option maxRecDepth 100000 in
theorem lifted (os : Os) (started : os.Started) (H : Type) (enc : TypeId × Value → H) :
 ReturnsInHanded {} Tryz.checked os 3 .any (Rows.vmDoneSpec.pre6 enc Tryz.prog Tryz.f3 Rows.vmDoneRow.domain false) (Rows.vmDoneSpec.post enc Tryz.prog Tryz.f3 false true false false) := by
 refine returnsInHanded_of_change_sized (C := Tryz.checked) own started (by kernel_rfl) Tryz.func3
  (ChangeSpec.witness6 (enc := enc) (C := Tryz.checked) false ⟨#[], #[(.agg #[(.slice none 0 0), (.slice none 0 0), (.slice none 0 0), (.slice none 0 0), (.int .i64 0), (.int .i64 0), (.slice none 0 0), (.slice none 0 0), (.slice none 0 0), (.slice none 0 0)]), (.slice none 0 0), (.slice none 0 0), (.slice none 0 0), (.slice none 0 0)], []⟩ 8 (by kernel_rfl) (by kernel_rfl) (by kernel_rfl) (by kernel_rfl)) ?_
 intro W base args ds gs before hval0 hW hcnd hsz0 _
 have hsz : (DataW.weightsEach Tryz.prog (Tryz.f3.params.toList ++ Rows.vmDoneSpec.plain.varTypes Tryz.prog) (ds ++ gs)).all (· ≤ reachBytes) = true := hsz0
 have hval : ∀ (j : Nat) t v, Tryz.f3.params[j]? = some t → args[j]? = some v → Value.okWide Tryz.prog W .any base t v := hval0
 have hW' := hW
 obtain ⟨p, q, hA0, hV, rfl, hfz, hnd⟩ := hW
 have hA : DataW.TrodAll enc Tryz.prog W 0 (fun _ => true) true Tryz.f3.params.toList args.toList ds p := hA0
 rw [Tryz.params3] at hA hval hsz
 obtain ⟨v0, vs0, d0, ds0, p0, q0, hargs, rfl, rfl, h0, r0⟩ := trodAll_cons hA
 obtain ⟨v1, vs1, d1, ds1, p1, q1, rfl, rfl, rfl, h1, r1⟩ := trodAll_cons r0
 obtain ⟨v2, vs2, d2, ds2, p2, q2, rfl, rfl, rfl, h2, r2⟩ := trodAll_cons r1
 obtain ⟨v3, vs3, d3, ds3, p3, q3, rfl, rfl, rfl, h3, r3⟩ := trodAll_cons r2
 obtain ⟨v4, vs4, d4, ds4, p4, q4, rfl, rfl, rfl, h4, r4⟩ := trodAll_cons r3
 obtain ⟨rfl, rfl, rfl⟩ := trodAll_nil r4
 obtain rfl : args = #[v0, v1, v2, v3, v4] := by cases args; simp_all
 obtain ⟨rfl, rfl⟩ := trodVars_none hV
 have k0 := h0
 have lt0 : ∀ x ∈ p0, x.block < W.heap.size := by obtain ⟨m, hm⟩ := k0; exact DataW.trod_lt m _ _ _ hm
 obtain ⟨fu0, hf0⟩ := h0
 obtain ⟨x0, hK0, hG0⟩ := (V.rd26 : Rd Tryz.prog 26 V.k26 V.G26).out hf0 (weightsEach_at (j := 0) rfl rfl hsz)
 obtain ⟨A0_0, c0_0, A0_1, c0_1, A0_2, c0_2, A0_3, c0_3, A0_6, c0_6, A0_7, c0_7, A0_8, c0_8, A0_9, c0_9, e0, l0_0, g0_0, l0_1, g0_1, l0_2, g0_2, l0_3, g0_3, l0_6, g0_6, l0_7, g0_7, l0_8, g0_8, l0_9, g0_9⟩ := V.k26_open hK0
 obtain rfl := agg_of e0 (by simp)
 have k1 := h1
 have lt1 : ∀ x ∈ p1, x.block < W.heap.size := by obtain ⟨m, hm⟩ := k1; exact DataW.trod_lt m _ _ _ hm
 obtain ⟨a1, len1, cap1, rfl⟩ := okWide_slice Tryz.underlying23 (hval 1 23 v1 rfl rfl)
 obtain ⟨fu1, hf1⟩ := h1
 obtain ⟨x1, ⟨A1, c1, e1, l1, g1⟩, y1, -, z1⟩ := (Rd.slice (B := 8) (d := Kd.int .i64) Tryz.underlying23 (by kernel_rfl) (by kernel_rfl) (Rd.int Tryz.underlying2)).out hf1 (weightsEach_at (j := 1) rfl rfl hsz)
 simp [Value.cells] at e1
 obtain ⟨rfl, rfl, rfl⟩ := e1
 have k2 := h2
 have lt2 : ∀ x ∈ p2, x.block < W.heap.size := by obtain ⟨m, hm⟩ := k2; exact DataW.trod_lt m _ _ _ hm
 obtain ⟨a2, len2, cap2, rfl⟩ := okWide_slice Tryz.underlying23 (hval 2 23 v2 rfl rfl)
 obtain ⟨fu2, hf2⟩ := h2
 obtain ⟨x2, ⟨A2, c2, e2, l2, g2⟩, y2, -, z2⟩ := (Rd.slice (B := 8) (d := Kd.int .i64) Tryz.underlying23 (by kernel_rfl) (by kernel_rfl) (Rd.int Tryz.underlying2)).out hf2 (weightsEach_at (j := 2) rfl rfl hsz)
 simp [Value.cells] at e2
 obtain ⟨rfl, rfl, rfl⟩ := e2
 have k3 := h3
 have lt3 : ∀ x ∈ p3, x.block < W.heap.size := by obtain ⟨m, hm⟩ := k3; exact DataW.trod_lt m _ _ _ hm
 obtain ⟨a3, len3, cap3, rfl⟩ := okWide_slice Tryz.underlying23 (hval 3 23 v3 rfl rfl)
 obtain ⟨fu3, hf3⟩ := h3
 obtain ⟨x3, ⟨A3, c3, e3, l3, g3⟩, y3, -, z3⟩ := (Rd.slice (B := 8) (d := Kd.int .i64) Tryz.underlying23 (by kernel_rfl) (by kernel_rfl) (Rd.int Tryz.underlying2)).out hf3 (weightsEach_at (j := 3) rfl rfl hsz)
 simp [Value.cells] at e3
 obtain ⟨rfl, rfl, rfl⟩ := e3
 have k4 := h4
 have lt4 : ∀ x ∈ p4, x.block < W.heap.size := by obtain ⟨m, hm⟩ := k4; exact DataW.trod_lt m _ _ _ hm
 obtain ⟨a4, len4, cap4, rfl⟩ := okWide_slice Tryz.underlying27 (hval 4 27 v4 rfl rfl)
 obtain ⟨fu4, hf4⟩ := h4
 obtain ⟨x4, ⟨A4, c4, e4, l4, g4⟩, y4, -, z4⟩ := (Rd.slice (B := 1) (d := Kd.bool) Tryz.underlying27 (by kernel_rfl) (by kernel_rfl) (Rd.bool Tryz.underlying4)).out hf4 (weightsEach_at (j := 4) rfl rfl hsz)
 simp [Value.cells] at e4
 obtain ⟨rfl, rfl, rfl⟩ := e4
 clear hA0 hval0 hsz0 hsz
 refine (V.vmDone_row x0 A0_0 A0_1 A0_2 A0_3 A0_6 A0_7 A0_8 A0_9 c0_0 c0_1 c0_2 c0_3 c0_6 c0_7 c0_8 c0_9 x1 a1 cap1 x2 a2 cap2 x3 a3 cap3 x4 a4 cap4 W ⟨g0_0, g0_1, g0_2, g0_3, g0_6, g0_7, g0_8, g0_9, l0_0, l0_1, l0_2, l0_3, l0_6, l0_7, l0_8, l0_9⟩ hG0 ⟨g1, l1⟩ (V.allIn_of z1) (by omega) ⟨g2, l2⟩ (V.allIn_of z2) (by omega) ⟨g3, l3⟩ (V.allIn_of z3) (by omega) ⟨g4, l4⟩ (by omega)).mono fun e W' ⟨he, bel⟩ => ?_
 subst he
 exact ⟨_, rfl, _, _, _, [], _, [], hW', trodAll_mk1 (shut_bool Tryz.underlying4 _), (trodAll_cons_mk (Below.trod laidOut (by kernel_rfl) (of_decide_eq_true (by kernel_rfl)) k0 bel lt0) (trodAll_cons_mk (Below.trod laidOut (by kernel_rfl) (of_decide_eq_true (by kernel_rfl)) k1 bel lt1) (trodAll_cons_mk (Below.trod laidOut (by kernel_rfl) (of_decide_eq_true (by kernel_rfl)) k2 bel lt2) (trodAll_cons_mk (Below.trod laidOut (by kernel_rfl) (of_decide_eq_true (by kernel_rfl)) k3 bel lt3) (trodAll_cons_mk (Below.trod laidOut (by kernel_rfl) (of_decide_eq_true (by kernel_rfl)) k4 bel lt4) trodAll_mk0))))), rfl, bel.frame _, fun h => by cases h⟩
theorem over : Rows.vmDoneRow.holds Tryz.pinned (OpenSpec.ofChange Rows.vmDoneSpec) :=
 OpenClaim.holds_of_wide 3 Tryz.f3 rfl rfl rfl rfl rfl rfl rfl ⟨rfl, rfl, rfl, rfl, rfl⟩ rfl rfl rfl rfl rfl (by kernel_rfl) Tryz.func3 facts
  (of_decide_eq_true (by kernel_rfl)) (by unfold Func.isWrapper; first | (rw [if_pos (by decide +kernel)]; kernel_rfl) | (rw [if_neg (by decide +kernel)]; exact ⟨rfl, rfl⟩))
  (fun os started H enc _ => lifted os started H enc)
theorem proved : Rows.VmDoneSaid := over
end Go.Proofs.YtgalkkolbobmbaaGreat.vmDone
namespace Go.Proofs.YtgalkkolbobmbaaGreat
/-- The row, under a short name, for the claim. -/
theorem vmDone_holds : Rows.VmDoneSaid := vmDone.proved
end Go.Proofs.YtgalkkolbobmbaaGreat
