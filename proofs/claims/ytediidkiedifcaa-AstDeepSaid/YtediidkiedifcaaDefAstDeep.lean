/- The one pure statement of AstDeep. -/
import Derived.Test.YtediidkiedifcaaQR
import Derived.Test.YtediidkiedifcaaQ12
namespace Go.Proofs.Ytediidkiedifcaa.Q
open Go.RowKit Go.Proofs.YtediidkiedifcaaW.PrintWords
noncomputable def astrolabelaw04_AstDeep.Pure : Prop := ∀ (x0 : S25) (x1 : Int), G25 x0 → (Lit.int .i64 x1).wf = true → ∃ k, astrolabelaw04_AstDeep.f k x0.f0 x0.f1 x1 = some true
end Go.Proofs.Ytediidkiedifcaa.Q
