/- The evaluator at this program: its two facts; natives joined. -/
import Derived.Test.YtgalkkolbobmbaaGreatEW
import Derived.KernelRfl
namespace Go.Proofs.YtgalkkolbobmbaaGreat.Abs
set_option linter.unusedVariables false
open Go Go.RowKit
theorem names_all : (Tryz.prog.funcs.toList.all fun fn => !(fn.name == "runtime.NumGoroutine")) = true := by decide +kernel
theorem HN (f : FuncId) (fn : Func) (h : Tryz.prog.funcs[f]? = some fn) : (fn.name == "runtime.NumGoroutine") = false := by
  have := List.all_eq_true.1 names_all fn (by
    obtain ⟨h1, h2⟩ := Array.getElem?_eq_some_iff.1 h
    rw [← h2]; simp)
  simpa using this
theorem hmix : Tryz.prog.follows .mixedOrders = true := by kernel_rfl
noncomputable def orF (a b : CallF) : CallF := fun f args s => orElseA (a f args s) (b f args s)
theorem orF_ok {P : Program} {base : Nat} {a b : CallF} (ha : CallOK P base a) (hb : CallOK P base b) : CallOK P base (orF a b) := by
  intro f args s r s' h hw
  have h' : orElseA (a f args s) (b f args s) = some (r, s') := h
  unfold orElseA at h'
  split at h'
  · rename_i x hx
    exact ha f args s r s' (hx.trans h') hw
  · exact hb f args s r s' h' hw
noncomputable def plainF : CallF := evCallN Tryz.prog (fun _ _ _ => none) 1000 60
theorem plainF_ok (base : Nat) : CallOK Tryz.prog base plainF := evCallN_ok HN hmix noneF_ok 1000 60
noncomputable def rightF : CallF := wrongF plainF
theorem rightF_ok (base : Nat) : CallOK Tryz.prog base rightF := wrongF_ok (plainF_ok base)
theorem one_good {P : Program} {base : Nat} {m : Memo} (h : m.Good P base) : ∀ x ∈ [m], x.Good P base := fun x hx => by rw [List.mem_singleton.1 hx]; exact h
end Go.Proofs.YtgalkkolbobmbaaGreat.Abs
