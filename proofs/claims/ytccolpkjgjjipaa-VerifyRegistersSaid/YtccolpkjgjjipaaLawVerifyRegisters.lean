/- The row of the law VerifyRegisters, out of its pure statement and the printed walk. -/
import Derived.Test.YtccolpkjgjjipaaRows
import Derived.Test.YtccolpkjgjjipaaPureVerifyRegisters
import Derived.WalkKit
import Derived.ProofKit
import Derived.OpenShut
import Derived.ShutString
import Derived.ChangeOld
import Derived.Below
import Derived.SizedLaws
import Derived.Test.YtccolpkjgjjipaaWSized
namespace Go.Proofs.Ytccolpkjgjjipaa.verifyRegisters
open Go.ChangeShapes Go.WideShapes Go.ChangeAt Go.RowKit Go.Proofs.Ytccolpkjgjjipaa.Rds Go.Proofs.YtccolpkjgjjipaaW.PrintWords
open Go.ChangeMaps (open_string shut_string)
set_option linter.unusedVariables false
theorem own : ownKnob Try.prog.godebug = none := by kernel_rfl
theorem laidOut : laidOutB Try.prog = true := by kernel_rfl
set_option maxHeartbeats 1000000 in
set_option maxRecDepth 100000 in
theorem lifted (os : Os) (started : os.Started) (H : Type) (enc : TypeId × Value → H) :
    ReturnsInHanded {} Try.checked os 6 .any (Rows.verifyRegistersSpec.pre6 enc Try.prog Try.f6 Rows.verifyRegistersRow.domain false) (Rows.verifyRegistersSpec.post enc Try.prog Try.f6 false true false false) := by
  refine returnsInHanded_of_change_sized (C := Try.checked) own started (by kernel_rfl) Try.func6
    (ChangeSpec.witness6 (enc := enc) (C := Try.checked) false ⟨#[], #[(.slice none 0 0)], []⟩ 8 (by kernel_rfl) (by kernel_rfl) (by kernel_rfl) (by kernel_rfl)) ?_
  intro W base args ds gs before hval0 hW hcnd hsz0 _
  have hsz : (DataW.weightsEach Try.prog (Try.f6.params.toList ++ Rows.verifyRegistersSpec.plain.varTypes Try.prog) (ds ++ gs)).all (· ≤ reachBytes) = true := hsz0
  have hval : ∀ (j : Nat) t v, Try.f6.params[j]? = some t → args[j]? = some v → Value.okWide Try.prog W .any base t v := hval0
  have hW' := hW
  obtain ⟨p, q, hA0, hV, rfl, hfz, hnd⟩ := hW
  have hA : DataW.TrodAll enc Try.prog W 0 (fun _ => true) true Try.f6.params.toList args.toList ds p := hA0
  rw [Try.params6] at hA hval hsz
  obtain ⟨v0, vs0, d0, ds0, p0, q0, hargs, rfl, rfl, h0, r0⟩ := trodAll_cons hA
  obtain ⟨rfl, rfl, rfl⟩ := trodAll_nil r0
  obtain rfl : args = #[v0] := by cases args; simp_all
  obtain ⟨rfl, rfl⟩ := trodVars_none hV
  have k0 := h0
  have lt0 : ∀ x ∈ p0, x.block < W.heap.size := by obtain ⟨m, hm⟩ := k0; exact DataW.trod_lt m _ _ _ hm
  obtain ⟨fu0, hf0⟩ := h0
  obtain ⟨x0, hK0, hG0⟩ := ((Rd.slice (B := 48) Try.underlying26 (by kernel_rfl) (by kernel_rfl) Q.rd47) : Rd Try.prog 26 (Kd.slice 47 Q.k47) (fun x => (x.length * 48 ≤ 140737488351232 ∧ x.length ≤ 9223372036854775807 ∧ ∀ x0 ∈ x, Q.G47 x0))).out hf0 (weightsEach_at (j := 0) rfl rfl hsz)
  obtain ⟨A0, c0, e0, l0, g0⟩ := hK0
  obtain rfl := slice_of e0 (okWide_slice Try.underlying26 (hval 0 26 v0 rfl rfl))
  clear hA0 hval0 hsz0 hsz
  obtain ⟨k, hk⟩ := Pure.VerifyRegisters x0 hG0
  refine (Q.astrolabelaw17_VerifyRegisters.calls (k := k) (r := true) (w := W) (hr0 := g0) (hc0 := l0) (h := hk)).mono fun e W' hz => ?_
  obtain ⟨rfl, hbel⟩ := hz
  have bel := hbel
  exact ⟨_, rfl, _, _, _, [], _, [], hW', trodAll_mk1 (shut_bool Try.underlying4 _), (trodAll_cons_mk (Below.trod laidOut (by kernel_rfl) (of_decide_eq_true (by kernel_rfl)) k0 bel lt0) trodAll_mk0), rfl, bel.frame _, fun h => by cases h⟩
theorem over : Rows.verifyRegistersRow.holds Try.pinned (OpenSpec.ofChange Rows.verifyRegistersSpec) :=
  OpenClaim.holds_of_wide 6 Try.f6 rfl rfl rfl rfl rfl rfl rfl ⟨rfl, rfl, rfl, rfl, rfl⟩ rfl rfl rfl rfl rfl (by kernel_rfl) Try.func6 (by kernel_rfl)
    (of_decide_eq_true (by kernel_rfl)) (by unfold Func.isWrapper; first | (rw [if_pos (by decide +kernel)]; kernel_rfl) | (rw [if_neg (by decide +kernel)]; exact ⟨rfl, rfl⟩))
    (fun os started H enc _ => lifted os started H enc)
theorem proved : Rows.VerifyRegistersSaid := over
#print axioms proved
end Go.Proofs.Ytccolpkjgjjipaa.verifyRegisters
namespace Go.Proofs.Ytccolpkjgjjipaa
/-- The row, under a short name, for the claim. -/
theorem verifyRegisters_holds : Rows.VerifyRegistersSaid := verifyRegisters.proved
end Go.Proofs.Ytccolpkjgjjipaa
