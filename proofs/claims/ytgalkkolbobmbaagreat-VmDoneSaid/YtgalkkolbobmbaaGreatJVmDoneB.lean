/- Facts of the program and the row, told by the kernel: a text of its own, so that no process grows large. -/
import Derived.Test.YtgalkkolbobmbaaGreatJVmDoneA

namespace Go.Proofs.YtgalkkolbobmbaaGreat.vmDone
open Go
theorem j12 : (Rows.vmDoneRow.recurses == Tryz.prog.recurses 3) = true := by kernel_rfl
theorem j13 : (Rows.vmDoneRow.named == Tryz.prog.varsNamed 3) = true := by kernel_rfl
end Go.Proofs.YtgalkkolbobmbaaGreat.vmDone
