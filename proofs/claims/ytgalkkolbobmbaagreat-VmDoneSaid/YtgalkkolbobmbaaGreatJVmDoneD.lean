/- Facts of the program and the row, told by the kernel: a text of its own, so that no process grows large. -/
import Derived.Test.YtgalkkolbobmbaaGreatRows
import Derived.JoinedOf
import Derived.KernelRfl

namespace Go.Proofs.YtgalkkolbobmbaaGreat.vmDone
open Go
theorem jLifts : (Rows.vmDoneRow.lifted == Tryz.prog.liftsFinal) = true := by kernel_rfl
end Go.Proofs.YtgalkkolbobmbaaGreat.vmDone
