/- A call that the kernel has walked: function 32. (Printed by genm.py.) -/
import Derived.Test.YtgalkkolbobmbaaGreatM19B

namespace Go.Proofs.YtgalkkolbobmbaaGreat.Abs
open Go Go.RowKit
set_option maxRecDepth 100000
noncomputable def m19a : Memo where
 f := 32
 args := []
 next := 0
 pre := []
 res := .val (.one (.lit (.bool true)))
 next' := 468
 post := []
theorem m19a_check : m19a.check Tryz.prog (orF (memoF [m19p]) rightF) 1000 60 = true := by decide +kernel
theorem m19a_good (base : Nat) : m19a.Good Tryz.prog base := Memo.good HN hmix (orF_ok (memoF_ok (one_good (m19p_good base))) (rightF_ok base)) m19a_check
end Go.Proofs.YtgalkkolbobmbaaGreat.Abs
