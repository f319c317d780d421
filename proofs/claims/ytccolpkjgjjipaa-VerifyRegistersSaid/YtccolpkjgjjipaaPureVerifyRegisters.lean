/- The plain law of VerifyRegisters. -/
import Derived.Test.YtccolpkjgjjipaaDefVerifyRegisters
import Derived.Test.YtccolpkjgjjipaaMRegs
import Derived.KernelRfl
namespace Go.Proofs.Ytccolpkjgjjipaa.Q
open Go.RowKit Go.Proofs.YtccolpkjgjjipaaW.PrintWords
set_option maxRecDepth 100000 in
theorem alive17_some : astrolabelaw17_alive.f = some true := by kernel_rfl
end Go.Proofs.Ytccolpkjgjjipaa.Q
namespace Go.Proofs.Ytccolpkjgjjipaa
open Go.RowKit Go.Proofs.YtccolpkjgjjipaaW.PrintWords Q
theorem Pure.VerifyRegisters : astrolabelaw17_VerifyRegisters.Pure := by
  intro x0 _
  refine Ev.rounds (g := fun k => astrolabelaw17_VerifyRegisters.f k x0) ?_
  unfold astrolabelaw17_VerifyRegisters.f
  rw [alive17_some]
  refine Ev.congr (f := fun k => if (x0.length : Int) > 500 then (some true) else ((astrolabelaw17_top.f k x0).bind fun t504 => (if t504 = true then (some true) else ((verify_Registers.f x0).bind fun t505 => ((astrolaberef17_Registers.f k x0).bind fun t506 => (some (t505 == t506))))))) (fun k => by rw [Option.bind_some, if_pos rfl]) ?_
  by_cases h : (x0.length : Int) > 500
  · exact Ev.congr (fun k => by rw [if_pos h]) (Ev.now true)
  · refine Ev.congr (fun k => by rw [if_neg h]) ?_
    obtain ⟨b, hb⟩ := top_ev x0 (by omega)
    refine Ev.bind hb ?_
    cases b with
    | true => exact Ev.congr (fun k => by rw [if_pos rfl]) (Ev.now true)
    | false =>
      refine Ev.congr (fun k => by rw [if_neg Bool.false_ne_true, verify_Registers.f, Option.bind_some]) ?_
      refine Ev.bind (ref_regs_ev x0 (by omega)) ?_
      exact Ev.congr (fun k => by rw [beq_self_eq_true]) (Ev.now true)
end Go.Proofs.Ytccolpkjgjjipaa
