/- Facts of the program and the row, told by the kernel: a text of its own, so that no process grows large. -/
import Derived.Test.YtgalkkolbobmbaaGreatRows
import Derived.JoinedOf
import Derived.KernelRfl

namespace Go.Proofs.YtgalkkolbobmbaaGreat.facts
open Go
theorem jEnter : Tryz.prog.mayEnter = true := by kernel_rfl
end Go.Proofs.YtgalkkolbobmbaaGreat.facts
