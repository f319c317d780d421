/- A call that the kernel has walked: function 59. (Printed by genm.py.) -/
import Derived.Test.YtgalkkolbobmbaaGreatM19A

namespace Go.Proofs.YtgalkkolbobmbaaGreat.Abs
open Go Go.RowKit
set_option maxRecDepth 100000
noncomputable def m19p : Memo where
 f := 59
 args := [.val (.one (.lit (.string ⟨#[104, 121, 98, 114, 105, 100, 32, 109, 40, 41, 32, 123, 32, 100, 101, 114, 32, 120, 32, 61, 32, 49, 32, 105, 110, 105, 116, 32, 48, 59, 32, 125]⟩))), .val (.one (.lit (.bool false)))]
 next := 0
 pre := []
 res := .tup [.agg [.sl 255 0 1 (some 7), .sl 173 0 2 (some 9)], .one (.lit (.int .i64 (0))), .agg [.lit (.int .i64 (0)), .lit (.int .i64 (0))]]
 next' := 256
 post := [(173, ⟨[.lit (.int .i64 (1)), .lit (.int .i64 (0)), .lit (.int .i64 (0)), .lit (.int .i64 (0)), .lit (.string ⟨#[]⟩), .lit (.string ⟨#[]⟩), .lit (.int .i64 (4294967296)), .lit (.slice none 0 0), .lit (.int .i64 (21)), .lit (.int .i64 (1)), .lit (.int .i64 (0)), .lit (.int .i64 (0)), .lit (.int .i64 (0)), .lit (.string ⟨#[]⟩), .lit (.string ⟨#[]⟩), .lit (.int .i64 (0)), .lit (.slice none 0 0), .lit (.int .i64 (28))], 239⟩), (240, ⟨[.lit (.int .i64 (2)), .lit (.string ⟨#[120]⟩), .lit (.int .i64 (0)), .lit (.int .i64 (0)), .lit (.int .i64 (1)), .lit (.slice none 0 0), .lit (.string ⟨#[]⟩), .lit (.string ⟨#[]⟩), .lit (.int .i64 (13))], 183⟩), (255, ⟨[.lit (.int .i64 (3)), .lit (.string ⟨#[109]⟩), .lit (.slice none 0 0), .sl 240 0 1 (some 9), .lit (.int .i64 (0)), .lit (.int .i64 (0)), .lit (.int .i64 (0))], 164⟩)]
theorem m19p_check : m19p.check Tryz.prog (memoF [m19l]) 1000 60 = true := by decide +kernel
theorem m19p_good (base : Nat) : m19p.Good Tryz.prog base := Memo.good HN hmix (memoF_ok (one_good (m19l_good base))) m19p_check
end Go.Proofs.YtgalkkolbobmbaaGreat.Abs
