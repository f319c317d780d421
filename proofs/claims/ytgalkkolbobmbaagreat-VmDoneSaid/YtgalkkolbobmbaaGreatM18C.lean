/- A call that the kernel has walked: function 19. (Printed by genm.py.) -/
import Derived.Test.YtgalkkolbobmbaaGreatM18B

namespace Go.Proofs.YtgalkkolbobmbaaGreat.Abs
open Go Go.RowKit
set_option maxRecDepth 100000
noncomputable def m18a : Memo where
 f := 19
 args := []
 next := 0
 pre := []
 res := .val (.one (.lit (.bool true)))
 next' := 648
 post := []
theorem m18a_check : m18a.check Tryz.prog (orF (memoF [m18p]) rightF) 1000 60 = true := by decide +kernel
theorem m18a_good (base : Nat) : m18a.Good Tryz.prog base := Memo.good HN hmix (orF_ok (memoF_ok (one_good (m18p_good base))) (rightF_ok base)) m18a_check
end Go.Proofs.YtgalkkolbobmbaaGreat.Abs
