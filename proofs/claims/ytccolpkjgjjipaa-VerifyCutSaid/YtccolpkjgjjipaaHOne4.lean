/- The Go function of the document's layer 17, One, in the print's form. -/
import Derived.Test.YtccolpkjgjjipaaHOne3
namespace Go.Proofs.Ytccolpkjgjjipaa.Q
set_option linter.unusedVariables false
open Go.RowKit Go.Proofs.YtccolpkjgjjipaaW.PrintWords Go.Proofs.YtccolpkjgjjipaaW.PrintLast Go.Proofs.YtccolpkjgjjipaaW.PrintMore
def astrolaberef17_One.f (l0_0 l0_1 l0_2 l0_3 : List Int) (a0_4 a0_5 : Int) (l0_6 l0_7 l0_8 l0_9 : List S47) (a1 a2_0 a2_1 a2_2 a2_3 a2_4 a2_5 a3 : Int) : Option Bool :=
  some (oneB l0_0.length l0_1.length l0_2.length l0_3.length a0_4 a1 ⟨a2_0, a2_1, a2_2, a2_3, a2_4, a2_5⟩ a3)
theorem astrolaberef17_One.calls (A0_0 : Option Addr) (c0_0 : Nat) (l0_0 : List Int) (A0_1 : Option Addr) (c0_1 : Nat) (l0_1 : List Int) (A0_2 : Option Addr) (c0_2 : Nat) (l0_2 : List Int) (A0_3 : Option Addr) (c0_3 : Nat) (l0_3 : List Int) (a0_4 : Int) (a0_5 : Int) (A0_6 : Option Addr) (c0_6 : Nat) (l0_6 : List (S47)) (A0_7 : Option Addr) (c0_7 : Nat) (l0_7 : List (S47)) (A0_8 : Option Addr) (c0_8 : Nat) (l0_8 : List (S47)) (A0_9 : Option Addr) (c0_9 : Nat) (l0_9 : List (S47)) (a1 : Int) (a2_0 a2_1 a2_2 a2_3 a2_4 a2_5 : Int) (a3 : Int) (r : Bool) (w : World)
    (hr0_0 : Kd.C (Kd.int .i64) w A0_0 l0_0.length l0_0) (hc0_0 : l0_0.length ≤ c0_0) (hr0_1 : Kd.C (Kd.int .i64) w A0_1 l0_1.length l0_1) (hc0_1 : l0_1.length ≤ c0_1) (hr0_2 : Kd.C (Kd.int .i64) w A0_2 l0_2.length l0_2) (hc0_2 : l0_2.length ≤ c0_2) (hr0_3 : Kd.C (Kd.int .i64) w A0_3 l0_3.length l0_3) (hc0_3 : l0_3.length ≤ c0_3) (hr0_6 : Kd.C k47 w A0_6 l0_6.length l0_6) (hc0_6 : l0_6.length ≤ c0_6) (hr0_7 : Kd.C k47 w A0_7 l0_7.length l0_7) (hc0_7 : l0_7.length ≤ c0_7) (hr0_8 : Kd.C k47 w A0_8 l0_8.length l0_8) (hc0_8 : l0_8.length ≤ c0_8) (hr0_9 : Kd.C k47 w A0_9 l0_9.length l0_9) (hc0_9 : l0_9.length ≤ c0_9)
    (h : astrolaberef17_One.f l0_0 l0_1 l0_2 l0_3 a0_4 a0_5 l0_6 l0_7 l0_8 l0_9 a1 a2_0 a2_1 a2_2 a2_3 a2_4 a2_5 a3 = some r) :
    Calls Try.prog 24 #[.agg #[.slice A0_0 l0_0.length c0_0, .slice A0_1 l0_1.length c0_1, .slice A0_2 l0_2.length c0_2, .slice A0_3 l0_3.length c0_3, .int .i64 a0_4, .int .i64 a0_5, .slice A0_6 l0_6.length c0_6, .slice A0_7 l0_7.length c0_7, .slice A0_8 l0_8.length c0_8, .slice A0_9 l0_9.length c0_9], .int .i64 a1, .agg #[.int .i64 a2_0, .int .i64 a2_1, .int .i64 a2_2, .int .i64 a2_3, .int .i64 a2_4, .int .i64 a2_5], .int .i64 a3] w fun e w' => e = .returned (.bool r) ∧ Below w.heap.size w w' := by
  unfold astrolaberef17_One.f at h
  obtain rfl := Option.some.inj h
  exact one_any _ _ _ _ _ _ _ _ _ _ _ _ _ _ _ _ _ _ _ _ _ _ _ _ _ _ _
end Go.Proofs.Ytccolpkjgjjipaa.Q
