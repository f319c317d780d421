/- Any object's bytes are the document's, and tell it; whether two objects are the same is the document's: the row of the law CodeBytes. No condition. -/
import Derived.Test.YtccolpkjgjjipaaRows
import Derived.Test.YtccolpkjgjjipaaCLawB
import Derived.Test.YtccolpkjgjjipaaKR
import Derived.WalkKit
import Derived.ProofKit
import Derived.OpenShut
import Derived.ShutString
import Derived.ChangeOld
import Derived.Below
import Derived.SizedLaws
import Derived.Test.YtccolpkjgjjipaaWSized
namespace Go.Proofs.Ytccolpkjgjjipaa.codeBytes
open Go.ChangeShapes Go.WideShapes Go.ChangeAt Go.RowKit Go.Proofs.Ytccolpkjgjjipaa.Rds Go.Proofs.YtccolpkjgjjipaaW.PrintWords
open Go.ChangeMaps (open_string shut_string)
set_option linter.unusedVariables false
theorem own : ownKnob Try.prog.godebug = none := by kernel_rfl
theorem laidOut : laidOutB Try.prog = true := by kernel_rfl
set_option maxHeartbeats 1000000 in
set_option maxRecDepth 100000 in
theorem lifted (os : Os) (started : os.Started) (H : Type) (enc : TypeId × Value → H) :
    ReturnsInHanded {} Try.checked os 8 .any (Rows.codeBytesSpec.pre6 enc Try.prog Try.f8 Rows.codeBytesRow.domain false) (Rows.codeBytesSpec.post enc Try.prog Try.f8 false true false false) := by
  refine returnsInHanded_of_change_sized (C := Try.checked) own started (by kernel_rfl) Try.func8
    (ChangeSpec.witness6 (enc := enc) (C := Try.checked) false ⟨#[], #[(.agg #[(.slice none 0 0), (.slice none 0 0), (.slice none 0 0), (.slice none 0 0), (.int .i64 0), (.int .i64 0), (.slice none 0 0), (.slice none 0 0), (.slice none 0 0), (.slice none 0 0)]), (.agg #[(.slice none 0 0), (.slice none 0 0), (.slice none 0 0), (.slice none 0 0), (.int .i64 0), (.int .i64 0), (.slice none 0 0), (.slice none 0 0), (.slice none 0 0), (.slice none 0 0)])], []⟩ 8 (by kernel_rfl) (by kernel_rfl) (by kernel_rfl) (by kernel_rfl)) ?_
  intro W base args ds gs before hval0 hW hcnd hsz0 _
  have hsz : (DataW.weightsEach Try.prog (Try.f8.params.toList ++ Rows.codeBytesSpec.plain.varTypes Try.prog) (ds ++ gs)).all (· ≤ reachBytes) = true := hsz0
  have hval : ∀ (j : Nat) t v, Try.f8.params[j]? = some t → args[j]? = some v → Value.okWide Try.prog W .any base t v := hval0
  have hW' := hW
  obtain ⟨p, q, hA0, hV, rfl, hfz, hnd⟩ := hW
  have hA : DataW.TrodAll enc Try.prog W 0 (fun _ => true) true Try.f8.params.toList args.toList ds p := hA0
  rw [Try.params8] at hA hval hsz
  obtain ⟨v0, vs0, d0, ds0, p0, q0, hargs, rfl, rfl, h0, r0⟩ := trodAll_cons hA
  obtain ⟨v1, vs1, d1, ds1, p1, q1, rfl, rfl, rfl, h1, r1⟩ := trodAll_cons r0
  obtain ⟨rfl, rfl, rfl⟩ := trodAll_nil r1
  obtain rfl : args = #[v0, v1] := by cases args; simp_all
  obtain ⟨rfl, rfl⟩ := trodVars_none hV
  have k0 := h0
  have lt0 : ∀ x ∈ p0, x.block < W.heap.size := by obtain ⟨m, hm⟩ := k0; exact DataW.trod_lt m _ _ _ hm
  obtain ⟨fu0, hf0⟩ := h0
  obtain ⟨x0, hK0, hG0⟩ := (K.rd28 : Rd Try.prog 28 K.k28 K.G28).out hf0 (weightsEach_at (j := 0) rfl rfl hsz)
  obtain ⟨A0_0, c0_0, A0_1, c0_1, A0_2, c0_2, A0_3, c0_3, A0_6, c0_6, A0_7, c0_7, A0_8, c0_8, A0_9, c0_9, e0, l0_0, g0_0, l0_1, g0_1, l0_2, g0_2, l0_3, g0_3, l0_6, g0_6, l0_7, g0_7, l0_8, g0_8, l0_9, g0_9⟩ := K.k28_open hK0
  obtain rfl := agg_of e0 (by simp)
  have k1 := h1
  have lt1 : ∀ x ∈ p1, x.block < W.heap.size := by obtain ⟨m, hm⟩ := k1; exact DataW.trod_lt m _ _ _ hm
  obtain ⟨fu1, hf1⟩ := h1
  obtain ⟨x1, hK1, hG1⟩ := (K.rd28 : Rd Try.prog 28 K.k28 K.G28).out hf1 (weightsEach_at (j := 1) rfl rfl hsz)
  obtain ⟨A1_0, c1_0, A1_1, c1_1, A1_2, c1_2, A1_3, c1_3, A1_6, c1_6, A1_7, c1_7, A1_8, c1_8, A1_9, c1_9, e1, l1_0, g1_0, l1_1, g1_1, l1_2, g1_2, l1_3, g1_3, l1_6, g1_6, l1_7, g1_7, l1_8, g1_8, l1_9, g1_9⟩ := K.k28_open hK1
  obtain rfl := agg_of e1 (by simp)
  clear hA0 hval0 hsz0 hsz
  have c := hG0
  unfold K.G28 at c
  obtain ⟨z0, z1, z2, z3, z4, z5, z6, z7, z8, z9⟩ := c
  have c := hG1
  unfold K.G28 at c
  obtain ⟨u0, u1, u2, u3, u4, u5, u6, u7, u8, u9⟩ := c
  have hin : K.ObIn x0.f0 x0.f1 x0.f2 x0.f3 x0.f4 x0.f5 x0.f6 x0.f7 x0.f8 x0.f9 := ⟨fun a ha => K.In64.of (z0.2.2 a ha), fun a ha => K.In64.of (z1.2.2 a ha), fun a ha => K.In64.of (z2.2.2 a ha), fun a ha => K.In64.of (z3.2.2 a ha), K.In64.of z4, K.In64.of z5, fun a ha => by have h := z6.2.2 a ha; unfold K.G47 at h; exact ⟨K.In64.of h.1, K.In64.of h.2.1, K.In64.of h.2.2.1, K.In64.of h.2.2.2.1, K.In64.of h.2.2.2.2.1, K.In64.of h.2.2.2.2.2⟩, fun a ha => by have h := z7.2.2 a ha; unfold K.G47 at h; exact ⟨K.In64.of h.1, K.In64.of h.2.1, K.In64.of h.2.2.1, K.In64.of h.2.2.2.1, K.In64.of h.2.2.2.2.1, K.In64.of h.2.2.2.2.2⟩, fun a ha => by have h := z8.2.2 a ha; unfold K.G47 at h; exact ⟨K.In64.of h.1, K.In64.of h.2.1, K.In64.of h.2.2.1, K.In64.of h.2.2.2.1, K.In64.of h.2.2.2.2.1, K.In64.of h.2.2.2.2.2⟩, fun a ha => by have h := z9.2.2 a ha; unfold K.G47 at h; exact ⟨K.In64.of h.1, K.In64.of h.2.1, K.In64.of h.2.2.1, K.In64.of h.2.2.2.1, K.In64.of h.2.2.2.2.1, K.In64.of h.2.2.2.2.2⟩⟩
  refine (K.bytes_walk A0_0 c0_0 x0.f0 A0_1 c0_1 x0.f1 A0_2 c0_2 x0.f2 A0_3 c0_3 x0.f3 x0.f4 x0.f5 A0_6 c0_6 x0.f6 A0_7 c0_7 x0.f7 A0_8 c0_8 x0.f8 A0_9 c0_9 x0.f9 A1_0 c1_0 x1.f0 A1_1 c1_1 x1.f1 A1_2 c1_2 x1.f2 A1_3 c1_3 x1.f3 x1.f4 x1.f5 A1_6 c1_6 x1.f6 A1_7 c1_7 x1.f7 A1_8 c1_8 x1.f8 A1_9 c1_9 x1.f9 W g0_0 l0_0 (by have := z0.1; omega) g0_1 l0_1 (by have := z1.1; omega) g0_2 l0_2 (by have := z2.1; omega) g0_3 l0_3 (by have := z3.1; omega) g0_6 l0_6 (by have := z6.1; omega) g0_7 l0_7 (by have := z7.1; omega) g0_8 l0_8 (by have := z8.1; omega) g0_9 l0_9 (by have := z9.1; omega) g1_0 l1_0 (by have := u0.1; omega) g1_1 l1_1 (by have := u1.1; omega) g1_2 l1_2 (by have := u2.1; omega) g1_3 l1_3 (by have := u3.1; omega) g1_6 l1_6 (by have := u6.1; omega) g1_7 l1_7 (by have := u7.1; omega) g1_8 l1_8 (by have := u8.1; omega) g1_9 l1_9 (by have := u9.1; omega) hin).mono fun e W' hz => ?_
  obtain ⟨rfl, hbel⟩ := hz
  have bel := hbel
  exact ⟨_, rfl, _, _, _, [], _, [], hW', trodAll_mk1 (shut_bool Try.underlying4 _), (trodAll_cons_mk (Below.trod laidOut (by kernel_rfl) (of_decide_eq_true (by kernel_rfl)) k0 bel lt0) (trodAll_cons_mk (Below.trod laidOut (by kernel_rfl) (of_decide_eq_true (by kernel_rfl)) k1 bel lt1) trodAll_mk0)), rfl, bel.frame _, fun h => by cases h⟩
theorem over : Rows.codeBytesRow.holds Try.pinned (OpenSpec.ofChange Rows.codeBytesSpec) :=
  OpenClaim.holds_of_wide 8 Try.f8 rfl rfl rfl rfl rfl rfl rfl ⟨rfl, rfl, rfl, rfl, rfl⟩ rfl rfl rfl rfl rfl (by kernel_rfl) Try.func8 (by kernel_rfl)
    (of_decide_eq_true (by kernel_rfl)) (by unfold Func.isWrapper; first | (rw [if_pos (by decide +kernel)]; kernel_rfl) | (rw [if_neg (by decide +kernel)]; exact ⟨rfl, rfl⟩))
    (fun os started H enc _ => lifted os started H enc)
theorem proved : Rows.CodeBytesSaid := over
#print axioms proved
end Go.Proofs.Ytccolpkjgjjipaa.codeBytes
namespace Go.Proofs.Ytccolpkjgjjipaa
/-- The row, under a short name, for the claim. -/
theorem codeBytes_holds : Rows.CodeBytesSaid := codeBytes.proved
end Go.Proofs.Ytccolpkjgjjipaa
