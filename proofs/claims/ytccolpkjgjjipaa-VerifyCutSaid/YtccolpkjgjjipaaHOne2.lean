/- The Go function of the document's layer 17, One: all cases. -/
import Derived.Test.YtccolpkjgjjipaaHOne
namespace Go.Proofs.Ytccolpkjgjjipaa.Q
set_option linter.unusedSimpArgs false
set_option linter.unusedVariables false
open Go.RowKit Go.Proofs.YtccolpkjgjjipaaW.PrintWords Go.Proofs.YtccolpkjgjjipaaW.PrintLast Go.Proofs.YtccolpkjgjjipaaW.PrintMore
set_option maxHeartbeats 4000000 in
set_option maxRecDepth 20000 in
theorem one_lo (s0 s1 s2 s3 : Option Addr) (n0 c0 n1 c1 n2 c2 n3 c3 : Nat) (cross a5 : Int) (a6 a7 a8 a9 : Value) (piece : Int) (op d a b c v : Int) (behind : Int) (w : World) (h : op < 1) :
    Calls Try.prog 24 #[.agg #[.slice s0 n0 c0, .slice s1 n1 c1, .slice s2 n2 c2, .slice s3 n3 c3, .int .i64 cross, .int .i64 a5, a6, a7, a8, a9], .int .i64 piece, .agg #[.int .i64 op, .int .i64 d, .int .i64 a, .int .i64 b, .int .i64 c, .int .i64 v], .int .i64 behind] w
      fun e w' => e = .returned (.bool false) ∧ Below w.heap.size w w' := by
  go_enter Try.func24, Try.ntmps24
  go_wp2_with fail
  all_goals
    go_ret
    refine ⟨by simp_all, ?_⟩
    exact below2 w _ _
set_option maxHeartbeats 4000000 in
set_option maxRecDepth 20000 in
theorem one_hi (s0 s1 s2 s3 : Option Addr) (n0 c0 n1 c1 n2 c2 n3 c3 : Nat) (cross a5 : Int) (a6 a7 a8 a9 : Value) (piece : Int) (op d a b c v : Int) (behind : Int) (w : World) (h : op > 22) :
    Calls Try.prog 24 #[.agg #[.slice s0 n0 c0, .slice s1 n1 c1, .slice s2 n2 c2, .slice s3 n3 c3, .int .i64 cross, .int .i64 a5, a6, a7, a8, a9], .int .i64 piece, .agg #[.int .i64 op, .int .i64 d, .int .i64 a, .int .i64 b, .int .i64 c, .int .i64 v], .int .i64 behind] w
      fun e w' => e = .returned (.bool false) ∧ Below w.heap.size w w' := by
  go_enter Try.func24, Try.ntmps24
  go_wp2_with fail
  all_goals
    go_ret
    refine ⟨by simp_all, ?_⟩
    exact below2 w _ _
set_option maxHeartbeats 4000000 in
set_option maxRecDepth 20000 in
theorem one_val (s0 s1 s2 s3 : Option Addr) (n0 c0 n1 c1 n2 c2 n3 c3 : Nat) (cross a5 : Int) (a6 a7 a8 a9 : Value) (piece : Int) (op d a b c v : Int) (behind : Int) (w : World) (h : ¬ op < 1) (h1 : ¬ op > 22) (h2 : ¬ op = 1) (h3 : ¬ v = 0) :
    Calls Try.prog 24 #[.agg #[.slice s0 n0 c0, .slice s1 n1 c1, .slice s2 n2 c2, .slice s3 n3 c3, .int .i64 cross, .int .i64 a5, a6, a7, a8, a9], .int .i64 piece, .agg #[.int .i64 op, .int .i64 d, .int .i64 a, .int .i64 b, .int .i64 c, .int .i64 v], .int .i64 behind] w
      fun e w' => e = .returned (.bool false) ∧ Below w.heap.size w w' := by
  have e1 : (op != 1) = true := by simp [h2]
  have e2 : (v != 0) = true := by simp [h3]
  have e3 : decide (op < 1) = false := decide_eq_false h
  have e4 : decide (22 < op) = false := decide_eq_false h1
  go_enter Try.func24, Try.ntmps24
  go_wp2_with fail
  all_goals
    go_ret
    refine ⟨by simp_all, ?_⟩
    exact below2 w _ _
set_option maxHeartbeats 4000000 in
set_option maxRecDepth 20000 in
theorem one_p5 (s0 s1 s2 s3 : Option Addr) (n0 c0 n1 c1 n2 c2 n3 c3 : Nat) (cross a5 : Int) (a6 a7 a8 a9 : Value) (piece : Int) (d a b c : Int) (behind : Int) (w : World) (h : ¬ piece = 2) :
    Calls Try.prog 24 #[.agg #[.slice s0 n0 c0, .slice s1 n1 c1, .slice s2 n2 c2, .slice s3 n3 c3, .int .i64 cross, .int .i64 a5, a6, a7, a8, a9], .int .i64 piece, .agg #[.int .i64 5, .int .i64 d, .int .i64 a, .int .i64 b, .int .i64 c, .int .i64 0], .int .i64 behind] w
      fun e w' => e = .returned (.bool false) ∧ Below w.heap.size w w' := by
  have e1 : (piece != 2) = true := by simp [h]
  go_enter Try.func24, Try.ntmps24
  go_wp2_with fail
  all_goals
    go_ret
    refine ⟨by simp_all, ?_⟩
    exact below2 w _ _
set_option maxHeartbeats 4000000 in
set_option maxRecDepth 20000 in
theorem one_p19 (s0 s1 s2 s3 : Option Addr) (n0 c0 n1 c1 n2 c2 n3 c3 : Nat) (cross a5 : Int) (a6 a7 a8 a9 : Value) (piece : Int) (d a b c : Int) (behind : Int) (w : World) (h : ¬ piece = 2) :
    Calls Try.prog 24 #[.agg #[.slice s0 n0 c0, .slice s1 n1 c1, .slice s2 n2 c2, .slice s3 n3 c3, .int .i64 cross, .int .i64 a5, a6, a7, a8, a9], .int .i64 piece, .agg #[.int .i64 19, .int .i64 d, .int .i64 a, .int .i64 b, .int .i64 c, .int .i64 0], .int .i64 behind] w
      fun e w' => e = .returned (.bool false) ∧ Below w.heap.size w w' := by
  have e1 : (piece != 2) = true := by simp [h]
  go_enter Try.func24, Try.ntmps24
  go_wp2_with fail
  all_goals
    go_ret
    refine ⟨by simp_all, ?_⟩
    exact below2 w _ _
set_option maxHeartbeats 4000000 in
set_option maxRecDepth 20000 in
theorem one_p21 (s0 s1 s2 s3 : Option Addr) (n0 c0 n1 c1 n2 c2 n3 c3 : Nat) (cross a5 : Int) (a6 a7 a8 a9 : Value) (piece : Int) (d a b c : Int) (behind : Int) (w : World) (h : ¬ piece = 2) :
    Calls Try.prog 24 #[.agg #[.slice s0 n0 c0, .slice s1 n1 c1, .slice s2 n2 c2, .slice s3 n3 c3, .int .i64 cross, .int .i64 a5, a6, a7, a8, a9], .int .i64 piece, .agg #[.int .i64 21, .int .i64 d, .int .i64 a, .int .i64 b, .int .i64 c, .int .i64 0], .int .i64 behind] w
      fun e w' => e = .returned (.bool false) ∧ Below w.heap.size w w' := by
  have e1 : (piece != 2) = true := by simp [h]
  go_enter Try.func24, Try.ntmps24
  go_wp2_with fail
  all_goals
    go_ret
    refine ⟨by simp_all, ?_⟩
    exact below2 w _ _
set_option maxHeartbeats 4000000 in
set_option maxRecDepth 20000 in
theorem one_p22 (s0 s1 s2 s3 : Option Addr) (n0 c0 n1 c1 n2 c2 n3 c3 : Nat) (cross a5 : Int) (a6 a7 a8 a9 : Value) (piece : Int) (d a b c : Int) (behind : Int) (w : World) (h : ¬ piece = 2) :
    Calls Try.prog 24 #[.agg #[.slice s0 n0 c0, .slice s1 n1 c1, .slice s2 n2 c2, .slice s3 n3 c3, .int .i64 cross, .int .i64 a5, a6, a7, a8, a9], .int .i64 piece, .agg #[.int .i64 22, .int .i64 d, .int .i64 a, .int .i64 b, .int .i64 c, .int .i64 0], .int .i64 behind] w
      fun e w' => e = .returned (.bool false) ∧ Below w.heap.size w w' := by
  have e1 : (piece != 2) = true := by simp [h]
  go_enter Try.func24, Try.ntmps24
  go_wp2_with fail
  all_goals
    go_ret
    refine ⟨by simp_all, ?_⟩
    exact below2 w _ _
set_option maxHeartbeats 4000000 in
set_option maxRecDepth 20000 in
theorem one_p20 (s0 s1 s2 s3 : Option Addr) (n0 c0 n1 c1 n2 c2 n3 c3 : Nat) (cross a5 : Int) (a6 a7 a8 a9 : Value) (piece : Int) (d a b c : Int) (behind : Int) (w : World)  :
    Calls Try.prog 24 #[.agg #[.slice s0 n0 c0, .slice s1 n1 c1, .slice s2 n2 c2, .slice s3 n3 c3, .int .i64 cross, .int .i64 a5, a6, a7, a8, a9], .int .i64 2, .agg #[.int .i64 20, .int .i64 d, .int .i64 a, .int .i64 b, .int .i64 c, .int .i64 0], .int .i64 behind] w
      fun e w' => e = .returned (.bool false) ∧ Below w.heap.size w w' := by
  go_enter Try.func24, Try.ntmps24
  go_wp2_with fail
  all_goals
    go_ret
    refine ⟨by simp_all, ?_⟩
    exact below2 w _ _
end Go.Proofs.Ytccolpkjgjjipaa.Q
