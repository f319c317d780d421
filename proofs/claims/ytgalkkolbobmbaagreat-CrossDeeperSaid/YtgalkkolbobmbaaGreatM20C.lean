/- A call that the kernel has walked: function 49. (Printed by genm.py.) -/
import Derived.Test.YtgalkkolbobmbaaGreatM20B

namespace Go.Proofs.YtgalkkolbobmbaaGreat.Abs
open Go Go.RowKit
set_option maxRecDepth 100000
noncomputable def m20a : Memo where
 f := 49
 args := []
 next := 0
 pre := []
 res := .val (.one (.lit (.bool true)))
 next' := 964
 post := []
theorem m20a_check : m20a.check Tryz.prog (orF (memoF [m20p]) rightF) 1000 60 = true := by decide +kernel
theorem m20a_good (base : Nat) : m20a.Good Tryz.prog base := Memo.good HN hmix (orF_ok (memoF_ok (one_good (m20p_good base))) (rightF_ok base)) m20a_check
end Go.Proofs.YtgalkkolbobmbaaGreat.Abs
