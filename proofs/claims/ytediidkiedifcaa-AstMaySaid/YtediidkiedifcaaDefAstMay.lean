/- The one pure statement of AstMay. -/
import Derived.Test.YtediidkiedifcaaQR
import Derived.Test.YtediidkiedifcaaQ8
namespace Go.Proofs.Ytediidkiedifcaa.Q
open Go.RowKit Go.Proofs.YtediidkiedifcaaW.PrintWords
noncomputable def astrolabelaw04_AstMay.Pure : Prop := ∀ (x0 : S25), G25 x0 → ∃ k, astrolabelaw04_AstMay.f k x0.f0 x0.f1 = some true
end Go.Proofs.Ytediidkiedifcaa.Q
