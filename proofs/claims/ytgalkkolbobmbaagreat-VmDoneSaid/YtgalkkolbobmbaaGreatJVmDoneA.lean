/- Facts of the program and the row, told by the kernel: a text of its own, so that no process grows large. -/
import Derived.Test.YtgalkkolbobmbaaGreatRows
import Derived.JoinedOf
import Derived.JoinedTies
import Derived.Below
import Derived.KernelRfl

namespace Go.Proofs.YtgalkkolbobmbaaGreat.vmDone
open Go
theorem own : ownKnob Tryz.prog.godebug = none := by kernel_rfl
theorem laidOut : laidOutB Tryz.prog = true := by kernel_rfl
theorem j2 : laidOutB Tryz.prog = true := laidOut
theorem j3 : mapsRowed Tryz.prog = true := by kernel_rfl
theorem j10 : (Rows.vmDoneRow.inPlace == Tryz.prog.inPlace 3) = true := by kernel_rfl
theorem j11 : (Rows.vmDoneRow.unfollowed == Tryz.prog.unfollowed 3) = true := by kernel_rfl
end Go.Proofs.YtgalkkolbobmbaaGreat.vmDone
