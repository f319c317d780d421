/- The one pure statement of VerifyRegisters. -/
import Derived.Test.YtccolpkjgjjipaaQR
import Derived.Test.YtccolpkjgjjipaaQ10
namespace Go.Proofs.Ytccolpkjgjjipaa.Q
open Go.RowKit Go.Proofs.YtccolpkjgjjipaaW.PrintWords
def astrolabelaw17_VerifyRegisters.Pure : Prop := ∀ (x0 : List (S47)), (x0.length * 48 ≤ 140737488351232 ∧ x0.length ≤ 9223372036854775807 ∧ ∀ y ∈ x0, G47 y) → ∃ k, astrolabelaw17_VerifyRegisters.f k x0 = some true
end Go.Proofs.Ytccolpkjgjjipaa.Q
