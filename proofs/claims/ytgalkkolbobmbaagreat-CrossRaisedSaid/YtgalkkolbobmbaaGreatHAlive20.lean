/- astrolabelaw20.alive: true (the kernel has walked it). -/
import Derived.Test.YtgalkkolbobmbaaGreatM20C
import Derived.Below
namespace Go.Proofs.YtgalkkolbobmbaaGreat.X
open Go Go.RowKit
def astrolabelaw20_alive.f : Option Bool := some true
theorem astrolabelaw20_alive.calls (r : Bool) (w : World) (h : astrolabelaw20_alive.f = some r) : Calls Tryz.prog 49 #[] w fun e w' => e = .returned (.bool r) ∧ Below w.heap.size w w' := by
  obtain rfl : true = r := Option.some.inj h
  exact (Abs.m20a_good w.heap.size).runs rfl rfl trivial
#print axioms astrolabelaw20_alive.calls
end Go.Proofs.YtgalkkolbobmbaaGreat.X
