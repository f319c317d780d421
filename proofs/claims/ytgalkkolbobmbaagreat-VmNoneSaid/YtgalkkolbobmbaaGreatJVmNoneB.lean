/- Facts of the program and the row, told by the kernel: the other text. -/
import Derived.Test.YtgalkkolbobmbaaGreatJVmNoneA
namespace Go.Proofs.YtgalkkolbobmbaaGreat.vmNone
open Go
theorem j12 : (Rows.vmNoneRow.recurses == Tryz.prog.recurses 4) = true := by kernel_rfl
theorem j13 : (Rows.vmNoneRow.named == Tryz.prog.varsNamed 4) = true := by kernel_rfl
end Go.Proofs.YtgalkkolbobmbaaGreat.vmNone
