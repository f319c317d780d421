/- Facts of the program and the row, told by the kernel: a text of its own, so that no process grows large. -/
import Derived.Test.YtgalkkolbobmbaaGreatJHeunEvenA
namespace Go.Proofs.YtgalkkolbobmbaaGreat.heunEven
open Go
theorem j12 : (Rows.heunEvenRow.recurses == Tryz.prog.recurses 6) = true := by kernel_rfl
theorem j13 : (Rows.heunEvenRow.named == Tryz.prog.varsNamed 6) = true := by kernel_rfl
end Go.Proofs.YtgalkkolbobmbaaGreat.heunEven
