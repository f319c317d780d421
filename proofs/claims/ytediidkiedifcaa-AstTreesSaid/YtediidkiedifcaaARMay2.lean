/- The reference's May, as the print's callers ask for it. -/
import Derived.Test.YtediidkiedifcaaARMay
namespace Go.Proofs.Ytediidkiedifcaa.Q
open Go.RowKit Go.Proofs.YtediidkiedifcaaW.PrintWords
def astrolaberef04_May.f (l0 : List S45) (l1 : List S31) : Option Bool := ast_May.f l0 l1
theorem astrolaberef04_May.calls (A0_0 : Option Addr) (c0_0 : Nat) (l0_0 : List S45) (A0_1 : Option Addr) (c0_1 : Nat) (l0_1 : List S31) (r : Bool) (w : World) (hr0_0 : Kd.C k45 w A0_0 l0_0.length l0_0) (hc0_0 : l0_0.length ≤ c0_0) (hr0_1 : Kd.C k31 w A0_1 l0_1.length l0_1) (hc0_1 : l0_1.length ≤ c0_1) (h : astrolaberef04_May.f l0_0 l0_1 = some r) :
    Calls Try.prog 13 #[.agg #[.slice A0_0 l0_0.length c0_0, .slice A0_1 l0_1.length c0_1]] w fun e w' => e = .returned (.bool r) ∧ Below w.heap.size w w' := by
  unfold astrolaberef04_May.f ast_May.f at h
  split at h
  · rename_i hs
    simp only [Bool.and_eq_true, decide_eq_true_eq, List.all_eq_true] at hs
    obtain rfl := Option.some.inj h
    exact refMay_any A0_0 c0_0 l0_0 A0_1 c0_1 l0_1 w hr0_0 hc0_0 hr0_1 hc0_1 hs.1 hs.2.1 hs.2.2.1 hs.2.2.2
  · cases h
end Go.Proofs.Ytediidkiedifcaa.Q
