/- A call that the kernel has walked: function 59. (Printed by genm.py.) -/
import Derived.Test.YtgalkkolbobmbaaGreatM20A

namespace Go.Proofs.YtgalkkolbobmbaaGreat.Abs
open Go Go.RowKit
set_option maxRecDepth 100000
noncomputable def m20p : Memo where
 f := 59
 args := [.val (.one (.lit (.string ⟨#[104, 121, 98, 114, 105, 100, 32, 109, 40, 41, 32, 123, 32, 100, 101, 114, 32, 120, 32, 61, 32, 49, 32, 105, 110, 105, 116, 32, 48, 59, 32, 114, 101, 115, 101, 116, 32, 120, 32, 111, 110, 32, 120, 32, 61, 32, 48, 59, 32, 125]⟩))), .val (.one (.lit (.bool false)))]
 next := 0
 pre := []
 res := .tup [.agg [.sl 456 0 1 (some 7), .sl 374 0 4 (some 9)], .one (.lit (.int .i64 (0))), .agg [.lit (.int .i64 (0)), .lit (.int .i64 (0))]]
 next' := 457
 post := [(374, ⟨[.lit (.int .i64 (1)), .lit (.int .i64 (0)), .lit (.int .i64 (0)), .lit (.int .i64 (0)), .lit (.string ⟨#[]⟩), .lit (.string ⟨#[]⟩), .lit (.int .i64 (4294967296)), .lit (.slice none 0 0), .lit (.int .i64 (21)), .lit (.int .i64 (1)), .lit (.int .i64 (0)), .lit (.int .i64 (0)), .lit (.int .i64 (0)), .lit (.string ⟨#[]⟩), .lit (.string ⟨#[]⟩), .lit (.int .i64 (0)), .lit (.slice none 0 0), .lit (.int .i64 (28)), .lit (.int .i64 (3)), .lit (.int .i64 (0)), .lit (.int .i64 (0)), .lit (.int .i64 (0)), .lit (.string ⟨#[120]⟩), .lit (.string ⟨#[]⟩), .lit (.int .i64 (0)), .lit (.slice none 0 0), .lit (.int .i64 (42)), .lit (.int .i64 (1)), .lit (.int .i64 (0)), .lit (.int .i64 (0)), .lit (.int .i64 (0)), .lit (.string ⟨#[]⟩), .lit (.string ⟨#[]⟩), .lit (.int .i64 (0)), .lit (.slice none 0 0), .lit (.int .i64 (46))], 239⟩), (441, ⟨[.lit (.int .i64 (2)), .lit (.string ⟨#[120]⟩), .lit (.int .i64 (0)), .lit (.int .i64 (0)), .lit (.int .i64 (1)), .lit (.slice none 0 0), .lit (.string ⟨#[]⟩), .lit (.string ⟨#[]⟩), .lit (.int .i64 (13)), .lit (.int .i64 (3)), .lit (.string ⟨#[120]⟩), .lit (.int .i64 (0)), .lit (.int .i64 (3)), .lit (.int .i64 (2)), .lit (.slice none 0 0), .lit (.string ⟨#[]⟩), .lit (.string ⟨#[]⟩), .lit (.int .i64 (31))], 183⟩), (456, ⟨[.lit (.int .i64 (3)), .lit (.string ⟨#[109]⟩), .lit (.slice none 0 0), .sl 441 0 2 (some 9), .lit (.int .i64 (0)), .lit (.int .i64 (0)), .lit (.int .i64 (0))], 164⟩)]
theorem m20p_check : m20p.check Tryz.prog (memoF [m20l]) 1000 60 = true := by decide +kernel
theorem m20p_good (base : Nat) : m20p.Good Tryz.prog base := Memo.good HN hmix (memoF_ok (one_good (m20l_good base))) m20p_check
end Go.Proofs.YtgalkkolbobmbaaGreat.Abs
