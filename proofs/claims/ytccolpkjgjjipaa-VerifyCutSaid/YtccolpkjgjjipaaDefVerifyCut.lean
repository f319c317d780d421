/- The one pure statement of VerifyCut. -/
import Derived.Test.YtccolpkjgjjipaaQR
import Derived.Test.YtccolpkjgjjipaaQ5
namespace Go.Proofs.Ytccolpkjgjjipaa.Q
open Go.RowKit Go.Proofs.YtccolpkjgjjipaaW.PrintWords
def astrolabelaw17_VerifyCut.Pure : Prop := ∀ (x0 : S28) (x1 : Int), G28 x0 → (Lit.int .u8 x1).wf = true → ∃ k, astrolabelaw17_VerifyCut.f k x0.f0 x0.f1 x0.f2 x0.f3 x0.f4 x0.f5 x0.f6 x0.f7 x0.f8 x0.f9 x1 = some true
end Go.Proofs.Ytccolpkjgjjipaa.Q
