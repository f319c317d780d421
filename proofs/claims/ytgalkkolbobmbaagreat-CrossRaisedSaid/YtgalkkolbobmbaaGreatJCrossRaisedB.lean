/- Facts of the program and the row, told by the kernel: a text of its own, so that no process grows large. -/
import Derived.Test.YtgalkkolbobmbaaGreatJCrossRaisedA
namespace Go.Proofs.YtgalkkolbobmbaaGreat.crossRaised
open Go
theorem j12 : (Rows.crossRaisedRow.recurses == Tryz.prog.recurses 13) = true := by kernel_rfl
theorem j13 : (Rows.crossRaisedRow.named == Tryz.prog.varsNamed 13) = true := by kernel_rfl
end Go.Proofs.YtgalkkolbobmbaaGreat.crossRaised
