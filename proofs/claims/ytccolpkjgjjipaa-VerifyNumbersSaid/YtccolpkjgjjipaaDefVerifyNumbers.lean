/- The one pure statement of VerifyNumbers. -/
import Derived.Test.YtccolpkjgjjipaaQR
import Derived.Test.YtccolpkjgjjipaaQ6
namespace Go.Proofs.Ytccolpkjgjjipaa.Q
open Go.RowKit Go.Proofs.YtccolpkjgjjipaaW.PrintWords
def astrolabelaw17_VerifyNumbers.Pure : Prop := ∀ (x0 : S28), G28 x0 → ∃ k, astrolabelaw17_VerifyNumbers.f k x0.f0 x0.f1 x0.f2 x0.f3 x0.f4 x0.f5 x0.f6 x0.f7 x0.f8 x0.f9 = some true
end Go.Proofs.Ytccolpkjgjjipaa.Q
