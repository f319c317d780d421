/- A call that the kernel has walked: function 90. (Printed by genm.py.) -/
import Derived.Test.YtgalkkolbobmbaaGreatEvC

namespace Go.Proofs.YtgalkkolbobmbaaGreat.Abs
open Go Go.RowKit
set_option maxRecDepth 100000
noncomputable def m18l : Memo where
 f := 90
 args := [.val (.one (.lit (.string ⟨#[104, 121, 98, 114, 105, 100, 32, 109, 40, 117, 58, 32, 102, 105, 120, 41, 32, 123, 32, 100, 101, 114, 32, 120, 32, 61, 32, 120, 32, 43, 32, 117, 32, 105, 110, 105, 116, 32, 48, 59, 32, 125]⟩)))]
 next := 2
 pre := []
 res := .tup [.one (.sl 102 0 19 (some 4)), .agg [.lit (.int .i64 (0)), .lit (.int .i64 (0))]]
 next' := 103
 post := [(102, ⟨[.lit (.int .i64 (3)), .lit (.string ⟨#[104, 121, 98, 114, 105, 100]⟩), .lit (.int .i64 (0)), .lit (.int .i64 (0)), .lit (.int .i64 (1)), .lit (.string ⟨#[109]⟩), .lit (.int .i64 (0)), .lit (.int .i64 (7)), .lit (.int .i64 (4)), .lit (.string ⟨#[40]⟩), .lit (.int .i64 (0)), .lit (.int .i64 (8)), .lit (.int .i64 (1)), .lit (.string ⟨#[117]⟩), .lit (.int .i64 (0)), .lit (.int .i64 (9)), .lit (.int .i64 (4)), .lit (.string ⟨#[58]⟩), .lit (.int .i64 (0)), .lit (.int .i64 (10)), .lit (.int .i64 (3)), .lit (.string ⟨#[102, 105, 120]⟩), .lit (.int .i64 (0)), .lit (.int .i64 (12)), .lit (.int .i64 (4)), .lit (.string ⟨#[41]⟩), .lit (.int .i64 (0)), .lit (.int .i64 (15)), .lit (.int .i64 (4)), .lit (.string ⟨#[123]⟩), .lit (.int .i64 (0)), .lit (.int .i64 (17)), .lit (.int .i64 (3)), .lit (.string ⟨#[100, 101, 114]⟩), .lit (.int .i64 (0)), .lit (.int .i64 (19)), .lit (.int .i64 (1)), .lit (.string ⟨#[120]⟩), .lit (.int .i64 (0)), .lit (.int .i64 (23)), .lit (.int .i64 (4)), .lit (.string ⟨#[61]⟩), .lit (.int .i64 (0)), .lit (.int .i64 (25)), .lit (.int .i64 (1)), .lit (.string ⟨#[120]⟩), .lit (.int .i64 (0)), .lit (.int .i64 (27)), .lit (.int .i64 (4)), .lit (.string ⟨#[43]⟩), .lit (.int .i64 (0)), .lit (.int .i64 (29)), .lit (.int .i64 (1)), .lit (.string ⟨#[117]⟩), .lit (.int .i64 (0)), .lit (.int .i64 (31)), .lit (.int .i64 (3)), .lit (.string ⟨#[105, 110, 105, 116]⟩), .lit (.int .i64 (0)), .lit (.int .i64 (33)), .lit (.int .i64 (2)), .lit (.string ⟨#[48]⟩), .lit (.int .i64 (0)), .lit (.int .i64 (38)), .lit (.int .i64 (4)), .lit (.string ⟨#[59]⟩), .lit (.int .i64 (0)), .lit (.int .i64 (39)), .lit (.int .i64 (4)), .lit (.string ⟨#[125]⟩), .lit (.int .i64 (0)), .lit (.int .i64 (41)), .lit (.int .i64 (5)), .lit (.string ⟨#[]⟩), .lit (.int .i64 (0)), .lit (.int .i64 (42))], 160⟩)]
theorem m18l_check : m18l.check Tryz.prog (fun _ _ _ => none) 1000 60 = true := by decide +kernel
theorem m18l_good (base : Nat) : m18l.Good Tryz.prog base := Memo.good HN hmix noneF_ok m18l_check
end Go.Proofs.YtgalkkolbobmbaaGreat.Abs
