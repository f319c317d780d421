/- One fact of the program, told by the kernel: a text of its own, since it takes the most of what a process may take. -/
import Derived.Test.YtgalkkolbobmbaaGreatRows
import Derived.JoinedOf
import Derived.KernelRfl
namespace Go.Proofs.YtgalkkolbobmbaaGreat.vmNone
open Go
theorem jEnter : Tryz.prog.mayEnter = true := by kernel_rfl
end Go.Proofs.YtgalkkolbobmbaaGreat.vmNone
