/- One fact of the program, told by the kernel: a text of its own, since it takes the most of what a process may take. -/
import Derived.Test.YtgalkkolbobmbaaGreatRows
import Derived.JoinedOf
import Derived.KernelRfl
namespace Go.Proofs.YtgalkkolbobmbaaGreat.vmNone
open Go
theorem jLifts : (Rows.vmNoneRow.lifted == Tryz.prog.liftsFinal) = true := by kernel_rfl
end Go.Proofs.YtgalkkolbobmbaaGreat.vmNone
