/- astrolabelaw19.alive: true (the kernel has walked it). -/
import Derived.Test.YtgalkkolbobmbaaGreatM19C
import Derived.Below
namespace Go.Proofs.YtgalkkolbobmbaaGreat.Q
open Go Go.RowKit
def astrolabelaw19_alive.f : Option Bool := some true
theorem astrolabelaw19_alive.calls (r : Bool) (w : World) (h : astrolabelaw19_alive.f = some r) : Calls Tryz.prog 32 #[] w fun e w' => e = .returned (.bool r) ∧ Below w.heap.size w w' := by
  obtain rfl : true = r := Option.some.inj h
  refine ((Abs.m19a_good w.heap.size).calls (fun _ => none) (fun _ => none) w [] (fun b x hx => by cases hx) (fun _ _ _ => ⟨rfl, rfl⟩) ⟨fun _ _ hx => (by cases hx), fun _ _ _ _ _ _ hx => absurd rfl hx, fun _ _ _ hx => (by cases hx), Nat.le_refl _⟩ trivial).mono fun e w' ⟨v, σ', e1, _, _, hb, _, _, hv⟩ => ?_
  have hv' : v = .bool true ∧ _ := hv
  exact ⟨by rw [e1, hv'.1], hb⟩
end Go.Proofs.YtgalkkolbobmbaaGreat.Q
