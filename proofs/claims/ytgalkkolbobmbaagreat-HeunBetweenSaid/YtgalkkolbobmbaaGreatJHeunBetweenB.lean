/- Facts of the program and the row, told by the kernel: a text of its own, so that no process grows large. -/
import Derived.Test.YtgalkkolbobmbaaGreatJHeunBetweenA
namespace Go.Proofs.YtgalkkolbobmbaaGreat.heunBetween
open Go
theorem j12 : (Rows.heunBetweenRow.recurses == Tryz.prog.recurses 7) = true := by kernel_rfl
theorem j13 : (Rows.heunBetweenRow.named == Tryz.prog.varsNamed 7) = true := by kernel_rfl
end Go.Proofs.YtgalkkolbobmbaaGreat.heunBetween
