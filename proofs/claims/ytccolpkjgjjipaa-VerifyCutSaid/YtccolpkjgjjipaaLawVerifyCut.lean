/- The row of the law VerifyCut, out of its pure statement and the printed walk. -/
import Derived.Test.YtccolpkjgjjipaaRows
import Derived.Test.YtccolpkjgjjipaaPureVerifyCut
import Derived.WalkKit
import Derived.ProofKit
import Derived.OpenShut
import Derived.ShutString
import Derived.ChangeOld
import Derived.Below
import Derived.SizedLaws
import Derived.Test.YtccolpkjgjjipaaWSized
namespace Go.Proofs.Ytccolpkjgjjipaa.verifyCut
open Go.ChangeShapes Go.WideShapes Go.ChangeAt Go.RowKit Go.Proofs.Ytccolpkjgjjipaa.Rds Go.Proofs.YtccolpkjgjjipaaW.PrintWords
open Go.ChangeMaps (open_string shut_string)
set_option linter.unusedVariables false
theorem own : ownKnob Try.prog.godebug = none := by kernel_rfl
theorem laidOut : laidOutB Try.prog = true := by kernel_rfl
set_option maxHeartbeats 1000000 in
set_option maxRecDepth 100000 in
theorem lifted (os : Os) (started : os.Started) (H : Type) (enc : TypeId × Value → H) :
    ReturnsInHanded {} Try.checked os 5 .any (Rows.verifyCutSpec.pre6 enc Try.prog Try.f5 Rows.verifyCutRow.domain false) (Rows.verifyCutSpec.post enc Try.prog Try.f5 false true false false) := by
  refine returnsInHanded_of_change_sized (C := Try.checked) own started (by kernel_rfl) Try.func5
    (ChangeSpec.witness6 (enc := enc) (C := Try.checked) false ⟨#[], #[(.agg #[(.slice none 0 0), (.slice none 0 0), (.slice none 0 0), (.slice none 0 0), (.int .i64 0), (.int .i64 0), (.slice none 0 0), (.slice none 0 0), (.slice none 0 0), (.slice none 0 0)]), (.int .u8 0)], []⟩ 8 (by kernel_rfl) (by kernel_rfl) (by kernel_rfl) (by kernel_rfl)) ?_
  intro W base args ds gs before hval0 hW hcnd hsz0 _
  have hsz : (DataW.weightsEach Try.prog (Try.f5.params.toList ++ Rows.verifyCutSpec.plain.varTypes Try.prog) (ds ++ gs)).all (· ≤ reachBytes) = true := hsz0
  have hval : ∀ (j : Nat) t v, Try.f5.params[j]? = some t → args[j]? = some v → Value.okWide Try.prog W .any base t v := hval0
  have hW' := hW
  obtain ⟨p, q, hA0, hV, rfl, hfz, hnd⟩ := hW
  have hA : DataW.TrodAll enc Try.prog W 0 (fun _ => true) true Try.f5.params.toList args.toList ds p := hA0
  rw [Try.params5] at hA hval hsz
  obtain ⟨v0, vs0, d0, ds0, p0, q0, hargs, rfl, rfl, h0, r0⟩ := trodAll_cons hA
  obtain ⟨v1, vs1, d1, ds1, p1, q1, rfl, rfl, rfl, h1, r1⟩ := trodAll_cons r0
  obtain ⟨rfl, rfl, rfl⟩ := trodAll_nil r1
  obtain rfl : args = #[v0, v1] := by cases args; simp_all
  obtain ⟨rfl, rfl⟩ := trodVars_none hV
  have k0 := h0
  have lt0 : ∀ x ∈ p0, x.block < W.heap.size := by obtain ⟨m, hm⟩ := k0; exact DataW.trod_lt m _ _ _ hm
  obtain ⟨fu0, hf0⟩ := h0
  obtain ⟨x0, hK0, hG0⟩ := (Q.rd28 : Rd Try.prog 28 Q.k28 Q.G28).out hf0 (weightsEach_at (j := 0) rfl rfl hsz)
  obtain ⟨A0_0, c0_0, A0_1, c0_1, A0_2, c0_2, A0_3, c0_3, A0_6, c0_6, A0_7, c0_7, A0_8, c0_8, A0_9, c0_9, e0, l0_0, g0_0, l0_1, g0_1, l0_2, g0_2, l0_3, g0_3, l0_6, g0_6, l0_7, g0_7, l0_8, g0_8, l0_9, g0_9⟩ := Q.k28_open hK0
  obtain rfl := agg_of e0 (by simp)
  obtain ⟨x1, rfl, rfl, rfl, w1⟩ := open_int Try.underlying5 (hval 1 5 v1 rfl rfl) h1
  clear hA0 hval0 hsz0 hsz
  obtain ⟨k, hk⟩ := Pure.VerifyCut x0 x1 hG0 w1
  refine (Q.astrolabelaw17_VerifyCut.calls (k := k) (r := true) (w := W) (hr0_0 := g0_0) (hc0_0 := l0_0) (hr0_1 := g0_1) (hc0_1 := l0_1) (hr0_2 := g0_2) (hc0_2 := l0_2) (hr0_3 := g0_3) (hc0_3 := l0_3) (hr0_6 := g0_6) (hc0_6 := l0_6) (hr0_7 := g0_7) (hc0_7 := l0_7) (hr0_8 := g0_8) (hc0_8 := l0_8) (hr0_9 := g0_9) (hc0_9 := l0_9) (h := hk)).mono fun e W' hz => ?_
  obtain ⟨rfl, hbel⟩ := hz
  have bel := hbel
  exact ⟨_, rfl, _, _, _, [], _, [], hW', trodAll_mk1 (shut_bool Try.underlying4 _), (trodAll_cons_mk (Below.trod laidOut (by kernel_rfl) (of_decide_eq_true (by kernel_rfl)) k0 bel lt0) (trodAll_cons_mk (shut_int Try.underlying5 w1) trodAll_mk0)), rfl, bel.frame _, fun h => by cases h⟩
theorem over : Rows.verifyCutRow.holds Try.pinned (OpenSpec.ofChange Rows.verifyCutSpec) :=
  OpenClaim.holds_of_wide 5 Try.f5 rfl rfl rfl rfl rfl rfl rfl ⟨rfl, rfl, rfl, rfl, rfl⟩ rfl rfl rfl rfl rfl (by kernel_rfl) Try.func5 (by kernel_rfl)
    (of_decide_eq_true (by kernel_rfl)) (by unfold Func.isWrapper; first | (rw [if_pos (by decide +kernel)]; kernel_rfl) | (rw [if_neg (by decide +kernel)]; exact ⟨rfl, rfl⟩))
    (fun os started H enc _ => lifted os started H enc)
theorem proved : Rows.VerifyCutSaid := over
#print axioms proved
end Go.Proofs.Ytccolpkjgjjipaa.verifyCut
namespace Go.Proofs.Ytccolpkjgjjipaa
/-- The row, under a short name, for the claim. -/
theorem verifyCut_holds : Rows.VerifyCutSaid := verifyCut.proved
end Go.Proofs.Ytccolpkjgjjipaa
