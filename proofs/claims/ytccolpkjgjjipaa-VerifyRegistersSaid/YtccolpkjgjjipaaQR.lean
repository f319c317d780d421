/- What each struct type's data is, as read by the form. -/
import Derived.Test.YtccolpkjgjjipaaReads
import Derived.Test.YtccolpkjgjjipaaQ0
import Derived.KernelRfl
namespace Go.Proofs.Ytccolpkjgjjipaa.Q
open Go.RowKit Go.Proofs.YtccolpkjgjjipaaW.PrintWords Go.Proofs.Ytccolpkjgjjipaa.Rds
def G47 (x : S47) : Prop := ((Lit.int .i64 x.f0).wf = true) ∧ ((Lit.int .i64 x.f1).wf = true) ∧ ((Lit.int .i64 x.f2).wf = true) ∧ ((Lit.int .i64 x.f3).wf = true) ∧ ((Lit.int .i64 x.f4).wf = true) ∧ ((Lit.int .i64 x.f5).wf = true)
theorem rd47 : Rd Try.prog 47 k47 G47 := by
  have h5 : Rd Try.prog 3 (Kd.int .i64) (fun n => (Lit.int .i64 n).wf = true) := by apply Rd.int Try.underlying3
  have h6 : Rd Try.prog 2 (Kd.int .i64) (fun n => (Lit.int .i64 n).wf = true) := by apply Rd.int Try.underlying2
  have h0 : Rd Try.prog 47 (Kd.pair (Kd.int .i64) (Kd.pair (Kd.int .i64) (Kd.pair (Kd.int .i64) (Kd.pair (Kd.int .i64) (Kd.pair (Kd.int .i64) (Kd.int .i64)))))) (fun y : Int × Int × Int × Int × Int × Int => ((Lit.int .i64 y.1).wf = true) ∧ ((Lit.int .i64 y.2.1).wf = true) ∧ ((Lit.int .i64 y.2.2.1).wf = true) ∧ ((Lit.int .i64 y.2.2.2.1).wf = true) ∧ ((Lit.int .i64 y.2.2.2.2.1).wf = true) ∧ ((Lit.int .i64 y.2.2.2.2.2).wf = true)) := by
    apply Rd.struct Try.underlying47 (by kernel_rfl)
    apply RdF.cons (d := Kd.int .i64) (b := Kd.pair (Kd.int .i64) (Kd.pair (Kd.int .i64) (Kd.pair (Kd.int .i64) (Kd.pair (Kd.int .i64) (Kd.int .i64))))) (G := fun n => (Lit.int .i64 n).wf = true) (G2 := fun y : Int × Int × Int × Int × Int => ((Lit.int .i64 y.1).wf = true) ∧ ((Lit.int .i64 y.2.1).wf = true) ∧ ((Lit.int .i64 y.2.2.1).wf = true) ∧ ((Lit.int .i64 y.2.2.2.1).wf = true) ∧ ((Lit.int .i64 y.2.2.2.2).wf = true)) rfl (by kernel_rfl) (h5)
    apply RdF.cons (d := Kd.int .i64) (b := Kd.pair (Kd.int .i64) (Kd.pair (Kd.int .i64) (Kd.pair (Kd.int .i64) (Kd.int .i64)))) (G := fun n => (Lit.int .i64 n).wf = true) (G2 := fun y : Int × Int × Int × Int => ((Lit.int .i64 y.1).wf = true) ∧ ((Lit.int .i64 y.2.1).wf = true) ∧ ((Lit.int .i64 y.2.2.1).wf = true) ∧ ((Lit.int .i64 y.2.2.2).wf = true)) rfl (by kernel_rfl) (h5)
    apply RdF.cons (d := Kd.int .i64) (b := Kd.pair (Kd.int .i64) (Kd.pair (Kd.int .i64) (Kd.int .i64))) (G := fun n => (Lit.int .i64 n).wf = true) (G2 := fun y : Int × Int × Int => ((Lit.int .i64 y.1).wf = true) ∧ ((Lit.int .i64 y.2.1).wf = true) ∧ ((Lit.int .i64 y.2.2).wf = true)) rfl (by kernel_rfl) (h5)
    apply RdF.cons (d := Kd.int .i64) (b := Kd.pair (Kd.int .i64) (Kd.int .i64)) (G := fun n => (Lit.int .i64 n).wf = true) (G2 := fun y : Int × Int => ((Lit.int .i64 y.1).wf = true) ∧ ((Lit.int .i64 y.2).wf = true)) rfl (by kernel_rfl) (h5)
    apply RdF.cons (d := Kd.int .i64) (b := Kd.int .i64) (G := fun n => (Lit.int .i64 n).wf = true) (G2 := fun y : Int => ((Lit.int .i64 y).wf = true)) rfl (by kernel_rfl) (h5)
    apply RdF.one rfl (by kernel_rfl) (h6)
  have h1 := Rd.iso (fun x : S47 => (x.f0, x.f1, x.f2, x.f3, x.f4, x.f5)) (fun y => (⟨y.1, y.2.1, y.2.2.1, y.2.2.2.1, y.2.2.2.2.1, y.2.2.2.2.2⟩ : S47)) (fun _ => rfl) (h0)
  apply Rd.imp (h1)
  intro x h
  exact h
end Go.Proofs.Ytccolpkjgjjipaa.Q
