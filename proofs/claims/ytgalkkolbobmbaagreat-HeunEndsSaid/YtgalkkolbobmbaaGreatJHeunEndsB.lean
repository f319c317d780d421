/- Facts of the program and the row, told by the kernel: a text of its own, so that no process grows large. -/
import Derived.Test.YtgalkkolbobmbaaGreatJHeunEndsA
namespace Go.Proofs.YtgalkkolbobmbaaGreat.heunEnds
open Go
theorem j12 : (Rows.heunEndsRow.recurses == Tryz.prog.recurses 8) = true := by kernel_rfl
theorem j13 : (Rows.heunEndsRow.named == Tryz.prog.varsNamed 8) = true := by kernel_rfl
end Go.Proofs.YtgalkkolbobmbaaGreat.heunEnds
