/- A call that the kernel has walked: function 90. (Printed by genm.py.) -/
import Derived.Test.YtgalkkolbobmbaaGreatEvC

namespace Go.Proofs.YtgalkkolbobmbaaGreat.Abs
open Go Go.RowKit
set_option maxRecDepth 100000
noncomputable def m20l : Memo where
 f := 90
 args := [.val (.one (.lit (.string ⟨#[104, 121, 98, 114, 105, 100, 32, 109, 40, 41, 32, 123, 32, 100, 101, 114, 32, 120, 32, 61, 32, 49, 32, 105, 110, 105, 116, 32, 48, 59, 32, 114, 101, 115, 101, 116, 32, 120, 32, 111, 110, 32, 120, 32, 61, 32, 48, 59, 32, 125]⟩)))]
 next := 2
 pre := []
 res := .tup [.one (.sl 110 0 21 (some 4)), .agg [.lit (.int .i64 (0)), .lit (.int .i64 (0))]]
 next' := 111
 post := [(110, ⟨[.lit (.int .i64 (3)), .lit (.string ⟨#[104, 121, 98, 114, 105, 100]⟩), .lit (.int .i64 (0)), .lit (.int .i64 (0)), .lit (.int .i64 (1)), .lit (.string ⟨#[109]⟩), .lit (.int .i64 (0)), .lit (.int .i64 (7)), .lit (.int .i64 (4)), .lit (.string ⟨#[40]⟩), .lit (.int .i64 (0)), .lit (.int .i64 (8)), .lit (.int .i64 (4)), .lit (.string ⟨#[41]⟩), .lit (.int .i64 (0)), .lit (.int .i64 (9)), .lit (.int .i64 (4)), .lit (.string ⟨#[123]⟩), .lit (.int .i64 (0)), .lit (.int .i64 (11)), .lit (.int .i64 (3)), .lit (.string ⟨#[100, 101, 114]⟩), .lit (.int .i64 (0)), .lit (.int .i64 (13)), .lit (.int .i64 (1)), .lit (.string ⟨#[120]⟩), .lit (.int .i64 (0)), .lit (.int .i64 (17)), .lit (.int .i64 (4)), .lit (.string ⟨#[61]⟩), .lit (.int .i64 (0)), .lit (.int .i64 (19)), .lit (.int .i64 (2)), .lit (.string ⟨#[49]⟩), .lit (.int .i64 (4294967296)), .lit (.int .i64 (21)), .lit (.int .i64 (3)), .lit (.string ⟨#[105, 110, 105, 116]⟩), .lit (.int .i64 (0)), .lit (.int .i64 (23)), .lit (.int .i64 (2)), .lit (.string ⟨#[48]⟩), .lit (.int .i64 (0)), .lit (.int .i64 (28)), .lit (.int .i64 (4)), .lit (.string ⟨#[59]⟩), .lit (.int .i64 (0)), .lit (.int .i64 (29)), .lit (.int .i64 (3)), .lit (.string ⟨#[114, 101, 115, 101, 116]⟩), .lit (.int .i64 (0)), .lit (.int .i64 (31)), .lit (.int .i64 (1)), .lit (.string ⟨#[120]⟩), .lit (.int .i64 (0)), .lit (.int .i64 (37)), .lit (.int .i64 (3)), .lit (.string ⟨#[111, 110]⟩), .lit (.int .i64 (0)), .lit (.int .i64 (39)), .lit (.int .i64 (1)), .lit (.string ⟨#[120]⟩), .lit (.int .i64 (0)), .lit (.int .i64 (42)), .lit (.int .i64 (4)), .lit (.string ⟨#[61]⟩), .lit (.int .i64 (0)), .lit (.int .i64 (44)), .lit (.int .i64 (2)), .lit (.string ⟨#[48]⟩), .lit (.int .i64 (0)), .lit (.int .i64 (46)), .lit (.int .i64 (4)), .lit (.string ⟨#[59]⟩), .lit (.int .i64 (0)), .lit (.int .i64 (47)), .lit (.int .i64 (4)), .lit (.string ⟨#[125]⟩), .lit (.int .i64 (0)), .lit (.int .i64 (49)), .lit (.int .i64 (5)), .lit (.string ⟨#[]⟩), .lit (.int .i64 (0)), .lit (.int .i64 (50))], 160⟩)]
theorem m20l_check : m20l.check Tryz.prog (fun _ _ _ => none) 1000 60 = true := by decide +kernel
theorem m20l_good (base : Nat) : m20l.Good Tryz.prog base := Memo.good HN hmix noneF_ok m20l_check
end Go.Proofs.YtgalkkolbobmbaaGreat.Abs
