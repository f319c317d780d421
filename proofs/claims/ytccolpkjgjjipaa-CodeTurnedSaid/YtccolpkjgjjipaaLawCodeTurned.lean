/- Of an object's bytes, of which one is turned, or which are cut off, no object is told: the row of the law CodeTurned. No condition. -/
import Derived.Test.YtccolpkjgjjipaaRows
import Derived.Test.YtccolpkjgjjipaaCTurn
import Derived.Test.YtccolpkjgjjipaaKR
import Derived.WalkKit
import Derived.ProofKit
import Derived.OpenShut
import Derived.ShutString
import Derived.ChangeOld
import Derived.Below
import Derived.SizedLaws
import Derived.Test.YtccolpkjgjjipaaWSized
namespace Go.Proofs.Ytccolpkjgjjipaa.codeTurned
open Go.ChangeShapes Go.WideShapes Go.ChangeAt Go.RowKit Go.Proofs.Ytccolpkjgjjipaa.Rds Go.Proofs.YtccolpkjgjjipaaW.PrintWords
open Go.ChangeMaps (open_string shut_string)
set_option linter.unusedVariables false
theorem own : ownKnob Try.prog.godebug = none := by kernel_rfl
theorem laidOut : laidOutB Try.prog = true := by kernel_rfl
set_option maxHeartbeats 1000000 in
set_option maxRecDepth 100000 in
theorem lifted (os : Os) (started : os.Started) (H : Type) (enc : TypeId × Value → H) :
    ReturnsInHanded {} Try.checked os 4 .any (Rows.codeTurnedSpec.pre6 enc Try.prog Try.f4 Rows.codeTurnedRow.domain false) (Rows.codeTurnedSpec.post enc Try.prog Try.f4 false true false false) := by
  refine returnsInHanded_of_change_sized (C := Try.checked) own started (by kernel_rfl) Try.func4
    (ChangeSpec.witness6 (enc := enc) (C := Try.checked) false ⟨#[], #[(.agg #[(.slice none 0 0), (.slice none 0 0), (.slice none 0 0), (.slice none 0 0), (.int .i64 0), (.int .i64 0), (.slice none 0 0), (.slice none 0 0), (.slice none 0 0), (.slice none 0 0)]), .int .u16 0, .int .u8 0], []⟩ 8 (by kernel_rfl) (by kernel_rfl) (by kernel_rfl) (by kernel_rfl)) ?_
  intro W base args ds gs before hval0 hW hcnd hsz0 _
  have hsz : (DataW.weightsEach Try.prog (Try.f4.params.toList ++ Rows.codeTurnedSpec.plain.varTypes Try.prog) (ds ++ gs)).all (· ≤ reachBytes) = true := hsz0
  have hval : ∀ (j : Nat) t v, Try.f4.params[j]? = some t → args[j]? = some v → Value.okWide Try.prog W .any base t v := hval0
  have hW' := hW
  obtain ⟨p, q, hA0, hV, rfl, hfz, hnd⟩ := hW
  have hA : DataW.TrodAll enc Try.prog W 0 (fun _ => true) true Try.f4.params.toList args.toList ds p := hA0
  rw [Try.params4] at hA hval hsz
  obtain ⟨v0, vs0, d0, ds0, p0, q0, hargs, rfl, rfl, h0, r0⟩ := trodAll_cons hA
  obtain ⟨v1, vs1, d1, ds1, p1, q1, rfl, rfl, rfl, h1, r1⟩ := trodAll_cons r0
  obtain ⟨v2, vs2, d2, ds2, p2, q2, rfl, rfl, rfl, h2, r2⟩ := trodAll_cons r1
  obtain ⟨rfl, rfl, rfl⟩ := trodAll_nil r2
  obtain rfl : args = #[v0, v1, v2] := by cases args; simp_all
  obtain ⟨rfl, rfl⟩ := trodVars_none hV
  have k0 := h0
  have lt0 : ∀ x ∈ p0, x.block < W.heap.size := by obtain ⟨m, hm⟩ := k0; exact DataW.trod_lt m _ _ _ hm
  obtain ⟨fu0, hf0⟩ := h0
  obtain ⟨x0, hK0, hG0⟩ := (K.rd28 : Rd Try.prog 28 K.k28 K.G28).out hf0 (weightsEach_at (j := 0) rfl rfl hsz)
  obtain ⟨A0_0, c0_0, A0_1, c0_1, A0_2, c0_2, A0_3, c0_3, A0_6, c0_6, A0_7, c0_7, A0_8, c0_8, A0_9, c0_9, e0, l0_0, g0_0, l0_1, g0_1, l0_2, g0_2, l0_3, g0_3, l0_6, g0_6, l0_7, g0_7, l0_8, g0_8, l0_9, g0_9⟩ := K.k28_open hK0
  obtain rfl := agg_of e0 (by simp)
  obtain ⟨x1, rfl, rfl, rfl, w1⟩ := open_int Try.underlying34 (hval 1 34 v1 rfl rfl) h1
  obtain ⟨x2, rfl, rfl, rfl, w2⟩ := open_int Try.underlying5 (hval 2 5 v2 rfl rfl) h2
  clear hA0 hval0 hsz0 hsz
  have b1 : 0 ≤ x1 ∧ x1 ≤ 65535 := by simpa [Lit.wf, IntKind.min, IntKind.max, IntKind.bits, IntKind.signed] using w1
  have b2 : 0 ≤ x2 ∧ x2 ≤ 255 := by simpa [Lit.wf, IntKind.min, IntKind.max, IntKind.bits, IntKind.signed] using w2
  have c := hG0
  unfold K.G28 at c
  obtain ⟨z0, z1, z2, z3, z4, z5, z6, z7, z8, z9⟩ := c
  refine (K.turned_walk A0_0 c0_0 x0.f0 A0_1 c0_1 x0.f1 A0_2 c0_2 x0.f2 A0_3 c0_3 x0.f3 x0.f4 x0.f5 A0_6 c0_6 x0.f6 A0_7 c0_7 x0.f7 A0_8 c0_8 x0.f8 A0_9 c0_9 x0.f9 x1 x2 W g0_0 l0_0 (by have := z0.1; omega) g0_1 l0_1 (by have := z1.1; omega) g0_2 l0_2 (by have := z2.1; omega) g0_3 l0_3 (by have := z3.1; omega) g0_6 l0_6 (by have := z6.1; omega) g0_7 l0_7 (by have := z7.1; omega) g0_8 l0_8 (by have := z8.1; omega) g0_9 l0_9 (by have := z9.1; omega) b1.1 b1.2 b2.1 (by omega)).mono fun e W' hz => ?_
  obtain ⟨rfl, hbel⟩ := hz
  have bel := hbel
  exact ⟨_, rfl, _, _, _, [], _, [], hW', trodAll_mk1 (shut_bool Try.underlying4 _), (trodAll_cons_mk (Below.trod laidOut (by kernel_rfl) (of_decide_eq_true (by kernel_rfl)) k0 bel lt0) (trodAll_cons_mk (shut_int Try.underlying34 w1) (trodAll_cons_mk (shut_int Try.underlying5 w2) trodAll_mk0))), rfl, bel.frame _, fun h => by cases h⟩
theorem over : Rows.codeTurnedRow.holds Try.pinned (OpenSpec.ofChange Rows.codeTurnedSpec) :=
  OpenClaim.holds_of_wide 4 Try.f4 rfl rfl rfl rfl rfl rfl rfl ⟨rfl, rfl, rfl, rfl, rfl⟩ rfl rfl rfl rfl rfl (by kernel_rfl) Try.func4 (by kernel_rfl)
    (of_decide_eq_true (by kernel_rfl)) (by unfold Func.isWrapper; first | (rw [if_pos (by decide +kernel)]; kernel_rfl) | (rw [if_neg (by decide +kernel)]; exact ⟨rfl, rfl⟩))
    (fun os started H enc _ => lifted os started H enc)
theorem proved : Rows.CodeTurnedSaid := over
#print axioms proved
end Go.Proofs.Ytccolpkjgjjipaa.codeTurned
namespace Go.Proofs.Ytccolpkjgjjipaa
/-- The row, under a short name, for the claim. -/
theorem codeTurned_holds : Rows.CodeTurnedSaid := codeTurned.proved
end Go.Proofs.Ytccolpkjgjjipaa
