/- A call that the kernel has walked: function 59. (Printed by genm.py.) -/
import Derived.Test.YtgalkkolbobmbaaGreatM18A

namespace Go.Proofs.YtgalkkolbobmbaaGreat.Abs
open Go Go.RowKit
set_option maxRecDepth 100000
noncomputable def m18p : Memo where
 f := 59
 args := [.val (.one (.lit (.string ⟨#[104, 121, 98, 114, 105, 100, 32, 109, 40, 117, 58, 32, 102, 105, 120, 41, 32, 123, 32, 100, 101, 114, 32, 120, 32, 61, 32, 120, 32, 43, 32, 117, 32, 105, 110, 105, 116, 32, 48, 59, 32, 125]⟩))), .val (.one (.lit (.bool false)))]
 next := 0
 pre := []
 res := .tup [.agg [.sl 331 0 1 (some 7), .sl 249 0 4 (some 9)], .one (.lit (.int .i64 (0))), .agg [.lit (.int .i64 (0)), .lit (.int .i64 (0))]]
 next' := 332
 post := [(116, ⟨[.lit (.string ⟨#[117]⟩), .lit (.int .i64 (1))], 254⟩), (249, ⟨[.lit (.int .i64 (3)), .lit (.int .i64 (0)), .lit (.int .i64 (0)), .lit (.int .i64 (0)), .lit (.string ⟨#[120]⟩), .lit (.string ⟨#[]⟩), .lit (.int .i64 (0)), .lit (.slice none 0 0), .lit (.int .i64 (27)), .lit (.int .i64 (3)), .lit (.int .i64 (0)), .lit (.int .i64 (0)), .lit (.int .i64 (0)), .lit (.string ⟨#[117]⟩), .lit (.string ⟨#[]⟩), .lit (.int .i64 (0)), .lit (.slice none 0 0), .lit (.int .i64 (31)), .lit (.int .i64 (6)), .lit (.int .i64 (0)), .lit (.int .i64 (1)), .lit (.int .i64 (0)), .lit (.string ⟨#[]⟩), .lit (.string ⟨#[]⟩), .lit (.int .i64 (0)), .lit (.slice none 0 0), .lit (.int .i64 (29)), .lit (.int .i64 (1)), .lit (.int .i64 (0)), .lit (.int .i64 (0)), .lit (.int .i64 (0)), .lit (.string ⟨#[]⟩), .lit (.string ⟨#[]⟩), .lit (.int .i64 (0)), .lit (.slice none 0 0), .lit (.int .i64 (38))], 239⟩), (316, ⟨[.lit (.int .i64 (2)), .lit (.string ⟨#[120]⟩), .lit (.int .i64 (0)), .lit (.int .i64 (2)), .lit (.int .i64 (3)), .lit (.slice none 0 0), .lit (.string ⟨#[]⟩), .lit (.string ⟨#[]⟩), .lit (.int .i64 (19))], 183⟩), (331, ⟨[.lit (.int .i64 (3)), .lit (.string ⟨#[109]⟩), .sl 116 0 1 (some 2), .sl 316 0 1 (some 9), .lit (.int .i64 (0)), .lit (.int .i64 (0)), .lit (.int .i64 (0))], 164⟩)]
theorem m18p_check : m18p.check Tryz.prog (memoF [m18l]) 1000 60 = true := by decide +kernel
theorem m18p_good (base : Nat) : m18p.Good Tryz.prog base := Memo.good HN hmix (memoF_ok (one_good (m18l_good base))) m18p_check
end Go.Proofs.YtgalkkolbobmbaaGreat.Abs
