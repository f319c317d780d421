/- Facts of the program and the row, told by the kernel: a text of its own, so that no process grows large. -/
import Derived.Test.YtgalkkolbobmbaaGreatJCrossNoneA

namespace Go.Proofs.YtgalkkolbobmbaaGreat.crossNone
open Go
theorem j12 : (Rows.crossNoneRow.recurses == Tryz.prog.recurses 15) = true := by kernel_rfl
theorem j13 : (Rows.crossNoneRow.named == Tryz.prog.varsNamed 15) = true := by kernel_rfl
end Go.Proofs.YtgalkkolbobmbaaGreat.crossNone
