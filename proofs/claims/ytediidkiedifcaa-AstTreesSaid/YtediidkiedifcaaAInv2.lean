/- A region that draws its order and ends in a store: the world stands as it was until the store. (Of no program: written for every seat.) -/
import Derived.Test.YtediidkiedifcaaAInv
namespace Go.Proofs.Ytediidkiedifcaa.Inv
set_option linter.unusedVariables false
open Go Go.RowKit
/-- The world is wR until operation s is over, then wE; and what each operation that is over has left. -/
structure IW (wR wE : World) (s : Nat) (A : Nat → Value → Prop) (l : Nat → Bool) (vs : Nat → Value) (W : World) : Prop where
  b : l s = false → W = wR
  e : l s = true → W = wE
  a : ∀ j, l j = true → A j (vs j)
theorem IW.plain {wR wE W : World} {s : Nat} {A : Nat → Value → Prop} {l : Nat → Bool} {vs : Nat → Value} (h : IW wR wE s A l vs W) (i : Nat) (hi : i ≠ s) (v : Value) (hv : A i v) : IW wR wE s A (don l i) (upd vs i v) W := by
  refine ⟨fun e => h.b (by rwa [don_ne l (Ne.symm hi)] at e), fun e => h.e (by rwa [don_ne l (Ne.symm hi)] at e), fun j hj => ?_⟩
  by_cases e : j = i
  · subst e; rw [upd_self]; exact hv
  · rw [upd_ne vs v e]; rw [don_ne l e] at hj; exact h.a j hj
theorem IW.store {wR wE W W' : World} {s : Nat} {A : Nat → Value → Prop} {l : Nat → Bool} {vs : Nat → Value} (h : IW wR wE s A l vs W) (v : Value) (hv : A s v) (hw : W' = wE) : IW wR wE s A (don l s) (upd vs s v) W' := by
  refine ⟨fun e => (by rw [don_self] at e; cases e), fun _ => hw, fun j hj => ?_⟩
  by_cases e : j = s
  · subst e; rw [upd_self]; exact hv
  · rw [upd_ne vs v e]; rw [don_ne l e] at hj; exact h.a j hj
theorem IW.still {wR wE W : World} {s i : Nat} {A : Nat → Value → Prop} {l : Nat → Bool} {vs : Nat → Value} {ops : Array Oper} (h : IW wR wE s A l vs W) (hl : l i = false) (hcl : ∀ j, l j = true → ∀ k, waits ops j k = true → l k = true) (hw : waits ops s i = true) : W = wR := by
  refine h.b ?_
  cases e : l s with
  | false => rfl
  | true => rw [hcl s e i hw] at hl; cases hl
theorem IW.stillS {wR wE W : World} {s : Nat} {A : Nat → Value → Prop} {l : Nat → Bool} {vs : Nat → Value} (h : IW wR wE s A l vs W) (hl : l s = false) : W = wR := h.b hl
end Go.Proofs.Ytediidkiedifcaa.Inv
