/- Function 4 (astrolabelaw18.VmNone), at whatever slices: true; nothing that lay there is written. -/
import Derived.Test.YtgalkkolbobmbaaGreatMC
namespace Go.Proofs.YtgalkkolbobmbaaGreat.Abs
open Go Go.RowKit
set_option maxRecDepth 100000
noncomputable def m18n : Memo where
  f := 4
  args := [.val (.one .opq), .val (.one .opq), .val (.one .opq), .val (.one .opq)]
  next := 0
  pre := []
  res := .val (.one (.lit (.bool true)))
  next' := 651
  post := []
theorem m18n_check : m18n.check Tryz.prog (memoF [m18a]) 1000 60 = true := by decide +kernel
theorem m18n_good (base : Nat) : m18n.Good Tryz.prog base := Memo.good HN hmix (memoF_ok (one_good (m18a_good base))) m18n_check
/-- A call of a closed kind, from a world of whatever blocks. -/
theorem Memo.Good.runs {P : Program} {m : Memo} {w : World} {vs : List Value} {b : Bool} (h : m.Good P w.heap.size) (hp : m.pre = []) (hr : m.res = .val (.one (.lit (.bool b)))) (ha : argsR (fun _ => none) m.args vs) :
    Calls P m.f vs.toArray w fun e w' => e = .returned (.bool b) ∧ Below w.heap.size w w' := by
  refine (h.calls (fun _ => none) (fun _ => none) w vs (fun b x hx => (by rw [hp] at hx; cases hx)) (fun _ _ _ => ⟨rfl, rfl⟩) ⟨fun _ _ hx => (by cases hx), fun _ _ _ _ _ _ hx => absurd rfl hx, fun _ _ _ hx => (by cases hx), Nat.le_refl _⟩ ha).mono fun e w' ⟨v, σ', e1, _, _, hb, _, _, hv⟩ => ?_
  rw [hr] at hv
  have hv' : v = .bool b ∧ _ := hv
  exact ⟨by rw [e1, hv'.1], hb⟩
theorem vmNone_calls (w : World) (v0 v1 v2 v3 : Value) (h0 : v0.oneCell' = true) (h1 : v1.oneCell' = true) (h2 : v2.oneCell' = true) (h3 : v3.oneCell' = true) :
    Calls Tryz.prog 4 #[v0, v1, v2, v3] w fun e w' => e = .returned (.bool true) ∧ Below w.heap.size w w' :=
  (m18n_good w.heap.size).runs (vs := [v0, v1, v2, v3]) rfl rfl ⟨h0, h1, h2, h3, trivial⟩
#print axioms vmNone_calls
end Go.Proofs.YtgalkkolbobmbaaGreat.Abs
