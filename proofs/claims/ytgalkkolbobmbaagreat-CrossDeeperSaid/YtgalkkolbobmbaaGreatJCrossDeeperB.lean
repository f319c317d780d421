/- Facts of the program and the row, told by the kernel: a text of its own, so that no process grows large. -/
import Derived.Test.YtgalkkolbobmbaaGreatJCrossDeeperA

namespace Go.Proofs.YtgalkkolbobmbaaGreat.crossDeeper
open Go
theorem j12 : (Rows.crossDeeperRow.recurses == Tryz.prog.recurses 14) = true := by kernel_rfl
theorem j13 : (Rows.crossDeeperRow.named == Tryz.prog.varsNamed 14) = true := by kernel_rfl
end Go.Proofs.YtgalkkolbobmbaaGreat.crossDeeper
