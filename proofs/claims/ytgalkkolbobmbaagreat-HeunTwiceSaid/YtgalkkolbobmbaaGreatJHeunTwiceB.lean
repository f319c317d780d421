/- Facts of the program and the row, told by the kernel: a text of its own, so that no process grows large. -/
import Derived.Test.YtgalkkolbobmbaaGreatJHeunTwiceA

namespace Go.Proofs.YtgalkkolbobmbaaGreat.heunTwice
open Go
theorem j12 : (Rows.heunTwiceRow.recurses == Tryz.prog.recurses 5) = true := by kernel_rfl
theorem j13 : (Rows.heunTwiceRow.named == Tryz.prog.varsNamed 5) = true := by kernel_rfl
end Go.Proofs.YtgalkkolbobmbaaGreat.heunTwice
