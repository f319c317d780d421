/- The Go function of the document's layer 17, One. -/
import Derived.Test.YtgalkkolbobmbaaGreatVHStable
import Derived.Deep.QuietTactic
import Derived.BigQuiet
import Derived.Test.YtgalkkolbobmbaaGreatVHRight2
import Derived.KernelRfl

namespace Go.Proofs.YtgalkkolbobmbaaGreat.V
set_option linter.unusedSimpArgs false
set_option linter.unusedVariables false
open Go.RowKit Go.Proofs.YtgalkkolbobmbaaGreatW.PrintWords Go.Proofs.YtgalkkolbobmbaaGreatW.PrintLast Go.Proofs.YtgalkkolbobmbaaGreatW.PrintMore
theorem in54_any (n most : Int) (w : World) :
 Calls Tryz.prog 178 #[.int .i64 n, .int .i64 most] w fun e w' => e = .returned (.bool (belowB n most)) ∧ w' = w := by
 by_cases h1 : 0 ≤ n
 · by_cases h2 : n < most
   · have E := Aside0.mk (show belowB n most = true by simp [belowB, h1, h2])
     go_enter Tryz.func178, Tryz.ntmps178
     go_wp2
     go_ret
     exact ⟨by rw [E.out]; rfl, rfl⟩
   · have E := Aside0.mk (show belowB n most = false by simp [belowB, h2])
     go_enter Tryz.func178, Tryz.ntmps178
     go_wp2
     go_ret
     exact ⟨by rw [E.out]; rfl, rfl⟩
 · have E := Aside0.mk (show belowB n most = false by simp [belowB, h1])
   go_enter Tryz.func178, Tryz.ntmps178
   go_wp2
   go_ret
   exact ⟨by rw [E.out]; rfl, rfl⟩
theorem below2 (w : World) (A B : Obj) : Below w.heap.size w ((w.alloc A).alloc B) := ((Below.refl _ _).alloc (Nat.le_refl _) _).alloc (by simp) _
def oneD (n1 n2 n3 : Nat) (cross piece op d : Int) : Bool := if op ≤ 18 then belowB d 4000 else if op = 20 then (if piece = 0 then belowB d n2 else if piece = 1 then belowB d cross else if piece = 3 then belowB d n1 else d == 0) else if op = 21 then belowB d n3 else if op = 22 then belowB d n2 else d == 0
def oneA (n0 n2 n3 : Nat) (cross op a : Int) : Bool := if 6 ≤ op then belowB a 4000 else if op = 2 then belowB a n0 else if op = 3 then belowB a n2 else if op = 4 then belowB a n3 else if op = 5 then belowB a cross else a == 0
def oneBb (op b behind : Int) : Bool := if 9 ≤ op ∧ op ≤ 18 then belowB b 4000 else if op = 19 then belowB b (wrap64 (behind + 1)) else b == 0
def oneC (op c : Int) : Bool := if op = 18 then belowB c 4000 else c == 0
def oneB (n0 n1 n2 n3 : Nat) (cross piece : Int) (x : S49) (behind : Int) : Bool :=
 if x.f0 < 1 ∨ x.f0 > 22 ∨ (x.f0 ≠ 1 ∧ x.f5 ≠ 0) then false else if ((x.f0 = 5 ∨ x.f0 = 19 ∨ x.f0 = 21 ∨ x.f0 = 22) ∧ piece ≠ 2) ∨ (x.f0 = 20 ∧ piece = 2) then false
 else oneD n1 n2 n3 cross piece x.f0 x.f1 && (oneA n0 n2 n3 cross x.f0 x.f2 && (oneBb x.f0 x.f3 behind && oneC x.f0 x.f4))
set_option maxHeartbeats 4000000 in
set_option maxRecDepth 20000 in
theorem one_1 (s0 s1 s2 s3 : Option Addr) (n0 c0 n1 c1 n2 c2 n3 c3 : Nat) (cross a5 : Int) (a6 a7 a8 a9 : Value) (piece : Int) (d a b c v : Int) (behind : Int) (w : World) :
 Calls Tryz.prog 101 #[.agg #[.slice s0 n0 c0, .slice s1 n1 c1, .slice s2 n2 c2, .slice s3 n3 c3, .int .i64 cross, .int .i64 a5, a6, a7, a8, a9], .int .i64 piece, .agg #[.int .i64 1, .int .i64 d, .int .i64 a, .int .i64 b, .int .i64 c, .int .i64 v], .int .i64 behind] w
  fun e w' => e = .returned (.bool (belowB d 4000 && (a == 0 && (b == 0 && c == 0)))) ∧ Below w.heap.size w w' := by
 go_enter Tryz.func101, Tryz.ntmps101
 go_wp2_with fail
 go_quiet (fail)
 go_wp2_with (go_at_call 178; refine (in54_any _ _ _).mono ?_; rintro e w' ⟨rfl, rfl⟩)
 all_goals
  go_ret
  refine ⟨?_, ?_⟩
  · simp_all
  · exact pw_below_drewN (below2 w _ _) _
set_option maxHeartbeats 4000000 in
set_option maxRecDepth 20000 in
theorem one_2 (s0 s1 s2 s3 : Option Addr) (n0 c0 n1 c1 n2 c2 n3 c3 : Nat) (cross a5 : Int) (a6 a7 a8 a9 : Value) (piece : Int) (d a b c v : Int) (behind : Int) (w : World) :
 Calls Tryz.prog 101 #[.agg #[.slice s0 n0 c0, .slice s1 n1 c1, .slice s2 n2 c2, .slice s3 n3 c3, .int .i64 cross, .int .i64 a5, a6, a7, a8, a9], .int .i64 piece, .agg #[.int .i64 2, .int .i64 d, .int .i64 a, .int .i64 b, .int .i64 c, .int .i64 0], .int .i64 behind] w
  fun e w' => e = .returned (.bool (belowB d 4000 && (belowB a n0 && (b == 0 && c == 0)))) ∧ Below w.heap.size w w' := by
 go_enter Tryz.func101, Tryz.ntmps101
 go_wp2_with fail
 go_quiet (fail)
 go_wp2_with (go_at_call 178; refine (in54_any _ _ _).mono ?_; rintro e w' ⟨rfl, rfl⟩)
 all_goals
  go_ret
  refine ⟨?_, ?_⟩
  · simp_all
  · exact pw_below_drewN (below2 w _ _) _
set_option maxHeartbeats 4000000 in
set_option maxRecDepth 20000 in
theorem one_3 (s0 s1 s2 s3 : Option Addr) (n0 c0 n1 c1 n2 c2 n3 c3 : Nat) (cross a5 : Int) (a6 a7 a8 a9 : Value) (piece : Int) (d a b c v : Int) (behind : Int) (w : World) :
 Calls Tryz.prog 101 #[.agg #[.slice s0 n0 c0, .slice s1 n1 c1, .slice s2 n2 c2, .slice s3 n3 c3, .int .i64 cross, .int .i64 a5, a6, a7, a8, a9], .int .i64 piece, .agg #[.int .i64 3, .int .i64 d, .int .i64 a, .int .i64 b, .int .i64 c, .int .i64 0], .int .i64 behind] w
  fun e w' => e = .returned (.bool (belowB d 4000 && (belowB a n2 && (b == 0 && c == 0)))) ∧ Below w.heap.size w w' := by
 go_enter Tryz.func101, Tryz.ntmps101
 go_wp2_with fail
 go_quiet (fail)
 go_wp2_with (go_at_call 178; refine (in54_any _ _ _).mono ?_; rintro e w' ⟨rfl, rfl⟩)
 all_goals
  go_ret
  refine ⟨?_, ?_⟩
  · simp_all
  · exact pw_below_drewN (below2 w _ _) _
set_option maxHeartbeats 4000000 in
set_option maxRecDepth 20000 in
theorem one_4 (s0 s1 s2 s3 : Option Addr) (n0 c0 n1 c1 n2 c2 n3 c3 : Nat) (cross a5 : Int) (a6 a7 a8 a9 : Value) (piece : Int) (d a b c v : Int) (behind : Int) (w : World) :
 Calls Tryz.prog 101 #[.agg #[.slice s0 n0 c0, .slice s1 n1 c1, .slice s2 n2 c2, .slice s3 n3 c3, .int .i64 cross, .int .i64 a5, a6, a7, a8, a9], .int .i64 piece, .agg #[.int .i64 4, .int .i64 d, .int .i64 a, .int .i64 b, .int .i64 c, .int .i64 0], .int .i64 behind] w
  fun e w' => e = .returned (.bool (belowB d 4000 && (belowB a n3 && (b == 0 && c == 0)))) ∧ Below w.heap.size w w' := by
 go_enter Tryz.func101, Tryz.ntmps101
 go_wp2_with fail
 go_quiet (fail)
 go_wp2_with (go_at_call 178; refine (in54_any _ _ _).mono ?_; rintro e w' ⟨rfl, rfl⟩)
 all_goals
  go_ret
  refine ⟨?_, ?_⟩
  · simp_all
  · exact pw_below_drewN (below2 w _ _) _
set_option maxHeartbeats 4000000 in
set_option maxRecDepth 20000 in
theorem one_5 (s0 s1 s2 s3 : Option Addr) (n0 c0 n1 c1 n2 c2 n3 c3 : Nat) (cross a5 : Int) (a6 a7 a8 a9 : Value) (piece : Int) (d a b c v : Int) (behind : Int) (w : World) :
 Calls Tryz.prog 101 #[.agg #[.slice s0 n0 c0, .slice s1 n1 c1, .slice s2 n2 c2, .slice s3 n3 c3, .int .i64 cross, .int .i64 a5, a6, a7, a8, a9], .int .i64 2, .agg #[.int .i64 5, .int .i64 d, .int .i64 a, .int .i64 b, .int .i64 c, .int .i64 0], .int .i64 behind] w
  fun e w' => e = .returned (.bool (belowB d 4000 && (belowB a cross && (b == 0 && c == 0)))) ∧ Below w.heap.size w w' := by
 go_enter Tryz.func101, Tryz.ntmps101
 go_wp2_with fail
 go_quiet (fail)
 go_wp2_with (go_at_call 178; refine (in54_any _ _ _).mono ?_; rintro e w' ⟨rfl, rfl⟩)
 all_goals
  go_ret
  refine ⟨?_, ?_⟩
  · simp_all
  · exact pw_below_drewN (below2 w _ _) _
set_option maxHeartbeats 4000000 in
set_option maxRecDepth 20000 in
theorem one_6 (s0 s1 s2 s3 : Option Addr) (n0 c0 n1 c1 n2 c2 n3 c3 : Nat) (cross a5 : Int) (a6 a7 a8 a9 : Value) (piece : Int) (d a b c v : Int) (behind : Int) (w : World) :
 Calls Tryz.prog 101 #[.agg #[.slice s0 n0 c0, .slice s1 n1 c1, .slice s2 n2 c2, .slice s3 n3 c3, .int .i64 cross, .int .i64 a5, a6, a7, a8, a9], .int .i64 piece, .agg #[.int .i64 6, .int .i64 d, .int .i64 a, .int .i64 b, .int .i64 c, .int .i64 0], .int .i64 behind] w
  fun e w' => e = .returned (.bool (belowB d 4000 && (belowB a 4000 && (b == 0 && c == 0)))) ∧ Below w.heap.size w w' := by
 go_enter Tryz.func101, Tryz.ntmps101
 go_wp2_with fail
 go_quiet (fail)
 go_wp2_with (go_at_call 178; refine (in54_any _ _ _).mono ?_; rintro e w' ⟨rfl, rfl⟩)
 all_goals
  go_ret
  refine ⟨?_, ?_⟩
  · simp_all
  · exact pw_below_drewN (below2 w _ _) _
set_option maxHeartbeats 4000000 in
set_option maxRecDepth 20000 in
theorem one_7 (s0 s1 s2 s3 : Option Addr) (n0 c0 n1 c1 n2 c2 n3 c3 : Nat) (cross a5 : Int) (a6 a7 a8 a9 : Value) (piece : Int) (d a b c v : Int) (behind : Int) (w : World) :
 Calls Tryz.prog 101 #[.agg #[.slice s0 n0 c0, .slice s1 n1 c1, .slice s2 n2 c2, .slice s3 n3 c3, .int .i64 cross, .int .i64 a5, a6, a7, a8, a9], .int .i64 piece, .agg #[.int .i64 7, .int .i64 d, .int .i64 a, .int .i64 b, .int .i64 c, .int .i64 0], .int .i64 behind] w
  fun e w' => e = .returned (.bool (belowB d 4000 && (belowB a 4000 && (b == 0 && c == 0)))) ∧ Below w.heap.size w w' := by
 go_enter Tryz.func101, Tryz.ntmps101
 go_wp2_with fail
 go_quiet (fail)
 go_wp2_with (go_at_call 178; refine (in54_any _ _ _).mono ?_; rintro e w' ⟨rfl, rfl⟩)
 all_goals
  go_ret
  refine ⟨?_, ?_⟩
  · simp_all
  · exact pw_below_drewN (below2 w _ _) _
set_option maxHeartbeats 4000000 in
set_option maxRecDepth 20000 in
theorem one_8 (s0 s1 s2 s3 : Option Addr) (n0 c0 n1 c1 n2 c2 n3 c3 : Nat) (cross a5 : Int) (a6 a7 a8 a9 : Value) (piece : Int) (d a b c v : Int) (behind : Int) (w : World) :
 Calls Tryz.prog 101 #[.agg #[.slice s0 n0 c0, .slice s1 n1 c1, .slice s2 n2 c2, .slice s3 n3 c3, .int .i64 cross, .int .i64 a5, a6, a7, a8, a9], .int .i64 piece, .agg #[.int .i64 8, .int .i64 d, .int .i64 a, .int .i64 b, .int .i64 c, .int .i64 0], .int .i64 behind] w
  fun e w' => e = .returned (.bool (belowB d 4000 && (belowB a 4000 && (b == 0 && c == 0)))) ∧ Below w.heap.size w w' := by
 go_enter Tryz.func101, Tryz.ntmps101
 go_wp2_with fail
 go_quiet (fail)
 go_wp2_with (go_at_call 178; refine (in54_any _ _ _).mono ?_; rintro e w' ⟨rfl, rfl⟩)
 all_goals
  go_ret
  refine ⟨?_, ?_⟩
  · simp_all
  · exact pw_below_drewN (below2 w _ _) _
set_option maxHeartbeats 4000000 in
set_option maxRecDepth 20000 in
theorem one_9 (s0 s1 s2 s3 : Option Addr) (n0 c0 n1 c1 n2 c2 n3 c3 : Nat) (cross a5 : Int) (a6 a7 a8 a9 : Value) (piece : Int) (d a b c v : Int) (behind : Int) (w : World) :
 Calls Tryz.prog 101 #[.agg #[.slice s0 n0 c0, .slice s1 n1 c1, .slice s2 n2 c2, .slice s3 n3 c3, .int .i64 cross, .int .i64 a5, a6, a7, a8, a9], .int .i64 piece, .agg #[.int .i64 9, .int .i64 d, .int .i64 a, .int .i64 b, .int .i64 c, .int .i64 0], .int .i64 behind] w
  fun e w' => e = .returned (.bool (belowB d 4000 && (belowB a 4000 && (belowB b 4000 && c == 0)))) ∧ Below w.heap.size w w' := by
 go_enter Tryz.func101, Tryz.ntmps101
 go_wp2_with fail
 go_quiet (fail)
 go_wp2_with (go_at_call 178; refine (in54_any _ _ _).mono ?_; rintro e w' ⟨rfl, rfl⟩)
 all_goals
  go_ret
  refine ⟨?_, ?_⟩
  · simp_all
  · exact pw_below_drewN (below2 w _ _) _
set_option maxHeartbeats 4000000 in
set_option maxRecDepth 20000 in
theorem one_10 (s0 s1 s2 s3 : Option Addr) (n0 c0 n1 c1 n2 c2 n3 c3 : Nat) (cross a5 : Int) (a6 a7 a8 a9 : Value) (piece : Int) (d a b c v : Int) (behind : Int) (w : World) :
 Calls Tryz.prog 101 #[.agg #[.slice s0 n0 c0, .slice s1 n1 c1, .slice s2 n2 c2, .slice s3 n3 c3, .int .i64 cross, .int .i64 a5, a6, a7, a8, a9], .int .i64 piece, .agg #[.int .i64 10, .int .i64 d, .int .i64 a, .int .i64 b, .int .i64 c, .int .i64 0], .int .i64 behind] w
  fun e w' => e = .returned (.bool (belowB d 4000 && (belowB a 4000 && (belowB b 4000 && c == 0)))) ∧ Below w.heap.size w w' := by
 go_enter Tryz.func101, Tryz.ntmps101
 go_wp2_with fail
 go_quiet (fail)
 go_wp2_with (go_at_call 178; refine (in54_any _ _ _).mono ?_; rintro e w' ⟨rfl, rfl⟩)
 all_goals
  go_ret
  refine ⟨?_, ?_⟩
  · simp_all
  · exact pw_below_drewN (below2 w _ _) _
set_option maxHeartbeats 4000000 in
set_option maxRecDepth 20000 in
theorem one_11 (s0 s1 s2 s3 : Option Addr) (n0 c0 n1 c1 n2 c2 n3 c3 : Nat) (cross a5 : Int) (a6 a7 a8 a9 : Value) (piece : Int) (d a b c v : Int) (behind : Int) (w : World) :
 Calls Tryz.prog 101 #[.agg #[.slice s0 n0 c0, .slice s1 n1 c1, .slice s2 n2 c2, .slice s3 n3 c3, .int .i64 cross, .int .i64 a5, a6, a7, a8, a9], .int .i64 piece, .agg #[.int .i64 11, .int .i64 d, .int .i64 a, .int .i64 b, .int .i64 c, .int .i64 0], .int .i64 behind] w
  fun e w' => e = .returned (.bool (belowB d 4000 && (belowB a 4000 && (belowB b 4000 && c == 0)))) ∧ Below w.heap.size w w' := by
 go_enter Tryz.func101, Tryz.ntmps101
 go_wp2_with fail
 go_quiet (fail)
 go_wp2_with (go_at_call 178; refine (in54_any _ _ _).mono ?_; rintro e w' ⟨rfl, rfl⟩)
 all_goals
  go_ret
  refine ⟨?_, ?_⟩
  · simp_all
  · exact pw_below_drewN (below2 w _ _) _
set_option maxHeartbeats 4000000 in
set_option maxRecDepth 20000 in
theorem one_12 (s0 s1 s2 s3 : Option Addr) (n0 c0 n1 c1 n2 c2 n3 c3 : Nat) (cross a5 : Int) (a6 a7 a8 a9 : Value) (piece : Int) (d a b c v : Int) (behind : Int) (w : World) :
 Calls Tryz.prog 101 #[.agg #[.slice s0 n0 c0, .slice s1 n1 c1, .slice s2 n2 c2, .slice s3 n3 c3, .int .i64 cross, .int .i64 a5, a6, a7, a8, a9], .int .i64 piece, .agg #[.int .i64 12, .int .i64 d, .int .i64 a, .int .i64 b, .int .i64 c, .int .i64 0], .int .i64 behind] w
  fun e w' => e = .returned (.bool (belowB d 4000 && (belowB a 4000 && (belowB b 4000 && c == 0)))) ∧ Below w.heap.size w w' := by
 go_enter Tryz.func101, Tryz.ntmps101
 go_wp2_with fail
 go_quiet (fail)
 go_wp2_with (go_at_call 178; refine (in54_any _ _ _).mono ?_; rintro e w' ⟨rfl, rfl⟩)
 all_goals
  go_ret
  refine ⟨?_, ?_⟩
  · simp_all
  · exact pw_below_drewN (below2 w _ _) _
set_option maxHeartbeats 4000000 in
set_option maxRecDepth 20000 in
theorem one_13 (s0 s1 s2 s3 : Option Addr) (n0 c0 n1 c1 n2 c2 n3 c3 : Nat) (cross a5 : Int) (a6 a7 a8 a9 : Value) (piece : Int) (d a b c v : Int) (behind : Int) (w : World) :
 Calls Tryz.prog 101 #[.agg #[.slice s0 n0 c0, .slice s1 n1 c1, .slice s2 n2 c2, .slice s3 n3 c3, .int .i64 cross, .int .i64 a5, a6, a7, a8, a9], .int .i64 piece, .agg #[.int .i64 13, .int .i64 d, .int .i64 a, .int .i64 b, .int .i64 c, .int .i64 0], .int .i64 behind] w
  fun e w' => e = .returned (.bool (belowB d 4000 && (belowB a 4000 && (belowB b 4000 && c == 0)))) ∧ Below w.heap.size w w' := by
 go_enter Tryz.func101, Tryz.ntmps101
 go_wp2_with fail
 go_quiet (fail)
 go_wp2_with (go_at_call 178; refine (in54_any _ _ _).mono ?_; rintro e w' ⟨rfl, rfl⟩)
 all_goals
  go_ret
  refine ⟨?_, ?_⟩
  · simp_all
  · exact pw_below_drewN (below2 w _ _) _
set_option maxHeartbeats 4000000 in
set_option maxRecDepth 20000 in
theorem one_14 (s0 s1 s2 s3 : Option Addr) (n0 c0 n1 c1 n2 c2 n3 c3 : Nat) (cross a5 : Int) (a6 a7 a8 a9 : Value) (piece : Int) (d a b c v : Int) (behind : Int) (w : World) :
 Calls Tryz.prog 101 #[.agg #[.slice s0 n0 c0, .slice s1 n1 c1, .slice s2 n2 c2, .slice s3 n3 c3, .int .i64 cross, .int .i64 a5, a6, a7, a8, a9], .int .i64 piece, .agg #[.int .i64 14, .int .i64 d, .int .i64 a, .int .i64 b, .int .i64 c, .int .i64 0], .int .i64 behind] w
  fun e w' => e = .returned (.bool (belowB d 4000 && (belowB a 4000 && (belowB b 4000 && c == 0)))) ∧ Below w.heap.size w w' := by
 go_enter Tryz.func101, Tryz.ntmps101
 go_wp2_with fail
 go_quiet (fail)
 go_wp2_with (go_at_call 178; refine (in54_any _ _ _).mono ?_; rintro e w' ⟨rfl, rfl⟩)
 all_goals
  go_ret
  refine ⟨?_, ?_⟩
  · simp_all
  · exact pw_below_drewN (below2 w _ _) _
set_option maxHeartbeats 4000000 in
set_option maxRecDepth 20000 in
theorem one_15 (s0 s1 s2 s3 : Option Addr) (n0 c0 n1 c1 n2 c2 n3 c3 : Nat) (cross a5 : Int) (a6 a7 a8 a9 : Value) (piece : Int) (d a b c v : Int) (behind : Int) (w : World) :
 Calls Tryz.prog 101 #[.agg #[.slice s0 n0 c0, .slice s1 n1 c1, .slice s2 n2 c2, .slice s3 n3 c3, .int .i64 cross, .int .i64 a5, a6, a7, a8, a9], .int .i64 piece, .agg #[.int .i64 15, .int .i64 d, .int .i64 a, .int .i64 b, .int .i64 c, .int .i64 0], .int .i64 behind] w
  fun e w' => e = .returned (.bool (belowB d 4000 && (belowB a 4000 && (belowB b 4000 && c == 0)))) ∧ Below w.heap.size w w' := by
 go_enter Tryz.func101, Tryz.ntmps101
 go_wp2_with fail
 go_quiet (fail)
 go_wp2_with (go_at_call 178; refine (in54_any _ _ _).mono ?_; rintro e w' ⟨rfl, rfl⟩)
 all_goals
  go_ret
  refine ⟨?_, ?_⟩
  · simp_all
  · exact pw_below_drewN (below2 w _ _) _
set_option maxHeartbeats 4000000 in
set_option maxRecDepth 20000 in
theorem one_16 (s0 s1 s2 s3 : Option Addr) (n0 c0 n1 c1 n2 c2 n3 c3 : Nat) (cross a5 : Int) (a6 a7 a8 a9 : Value) (piece : Int) (d a b c v : Int) (behind : Int) (w : World) :
 Calls Tryz.prog 101 #[.agg #[.slice s0 n0 c0, .slice s1 n1 c1, .slice s2 n2 c2, .slice s3 n3 c3, .int .i64 cross, .int .i64 a5, a6, a7, a8, a9], .int .i64 piece, .agg #[.int .i64 16, .int .i64 d, .int .i64 a, .int .i64 b, .int .i64 c, .int .i64 0], .int .i64 behind] w
  fun e w' => e = .returned (.bool (belowB d 4000 && (belowB a 4000 && (belowB b 4000 && c == 0)))) ∧ Below w.heap.size w w' := by
 go_enter Tryz.func101, Tryz.ntmps101
 go_wp2_with fail
 go_quiet (fail)
 go_wp2_with (go_at_call 178; refine (in54_any _ _ _).mono ?_; rintro e w' ⟨rfl, rfl⟩)
 all_goals
  go_ret
  refine ⟨?_, ?_⟩
  · simp_all
  · exact pw_below_drewN (below2 w _ _) _
set_option maxHeartbeats 4000000 in
set_option maxRecDepth 20000 in
theorem one_17 (s0 s1 s2 s3 : Option Addr) (n0 c0 n1 c1 n2 c2 n3 c3 : Nat) (cross a5 : Int) (a6 a7 a8 a9 : Value) (piece : Int) (d a b c v : Int) (behind : Int) (w : World) :
 Calls Tryz.prog 101 #[.agg #[.slice s0 n0 c0, .slice s1 n1 c1, .slice s2 n2 c2, .slice s3 n3 c3, .int .i64 cross, .int .i64 a5, a6, a7, a8, a9], .int .i64 piece, .agg #[.int .i64 17, .int .i64 d, .int .i64 a, .int .i64 b, .int .i64 c, .int .i64 0], .int .i64 behind] w
  fun e w' => e = .returned (.bool (belowB d 4000 && (belowB a 4000 && (belowB b 4000 && c == 0)))) ∧ Below w.heap.size w w' := by
 go_enter Tryz.func101, Tryz.ntmps101
 go_wp2_with fail
 go_quiet (fail)
 go_wp2_with (go_at_call 178; refine (in54_any _ _ _).mono ?_; rintro e w' ⟨rfl, rfl⟩)
 all_goals
  go_ret
  refine ⟨?_, ?_⟩
  · simp_all
  · exact pw_below_drewN (below2 w _ _) _
set_option maxHeartbeats 4000000 in
set_option maxRecDepth 20000 in
theorem one_18 (s0 s1 s2 s3 : Option Addr) (n0 c0 n1 c1 n2 c2 n3 c3 : Nat) (cross a5 : Int) (a6 a7 a8 a9 : Value) (piece : Int) (d a b c v : Int) (behind : Int) (w : World) :
 Calls Tryz.prog 101 #[.agg #[.slice s0 n0 c0, .slice s1 n1 c1, .slice s2 n2 c2, .slice s3 n3 c3, .int .i64 cross, .int .i64 a5, a6, a7, a8, a9], .int .i64 piece, .agg #[.int .i64 18, .int .i64 d, .int .i64 a, .int .i64 b, .int .i64 c, .int .i64 0], .int .i64 behind] w
  fun e w' => e = .returned (.bool (belowB d 4000 && (belowB a 4000 && (belowB b 4000 && belowB c 4000)))) ∧ Below w.heap.size w w' := by
 go_enter Tryz.func101, Tryz.ntmps101
 go_wp2_with fail
 go_quiet (fail)
 go_wp2_with (go_at_call 178; refine (in54_any _ _ _).mono ?_; rintro e w' ⟨rfl, rfl⟩)
 all_goals
  go_ret
  refine ⟨?_, ?_⟩
  · simp_all
  · exact pw_below_drewN (below2 w _ _) _
set_option maxHeartbeats 4000000 in
set_option maxRecDepth 20000 in
theorem one_19 (s0 s1 s2 s3 : Option Addr) (n0 c0 n1 c1 n2 c2 n3 c3 : Nat) (cross a5 : Int) (a6 a7 a8 a9 : Value) (piece : Int) (d a b c v : Int) (behind : Int) (w : World) :
 Calls Tryz.prog 101 #[.agg #[.slice s0 n0 c0, .slice s1 n1 c1, .slice s2 n2 c2, .slice s3 n3 c3, .int .i64 cross, .int .i64 a5, a6, a7, a8, a9], .int .i64 2, .agg #[.int .i64 19, .int .i64 d, .int .i64 a, .int .i64 b, .int .i64 c, .int .i64 0], .int .i64 behind] w
  fun e w' => e = .returned (.bool (d == 0 && (belowB a 4000 && (belowB b (wrap64 (behind + 1)) && c == 0)))) ∧ Below w.heap.size w w' := by
 go_enter Tryz.func101, Tryz.ntmps101
 go_wp2_with fail
 go_quiet (fail)
 go_wp2_with (go_at_call 178; refine (in54_any _ _ _).mono ?_; rintro e w' ⟨rfl, rfl⟩)
 all_goals
  go_ret
  refine ⟨?_, ?_⟩
  · simp_all
  · exact pw_below_drewN (below2 w _ _) _
set_option maxHeartbeats 4000000 in
set_option maxRecDepth 20000 in
theorem one_20_0 (s0 s1 s2 s3 : Option Addr) (n0 c0 n1 c1 n2 c2 n3 c3 : Nat) (cross a5 : Int) (a6 a7 a8 a9 : Value) (piece : Int) (d a b c v : Int) (behind : Int) (w : World) :
 Calls Tryz.prog 101 #[.agg #[.slice s0 n0 c0, .slice s1 n1 c1, .slice s2 n2 c2, .slice s3 n3 c3, .int .i64 cross, .int .i64 a5, a6, a7, a8, a9], .int .i64 0, .agg #[.int .i64 20, .int .i64 d, .int .i64 a, .int .i64 b, .int .i64 c, .int .i64 0], .int .i64 behind] w
  fun e w' => e = .returned (.bool (belowB d n2 && (belowB a 4000 && (b == 0 && c == 0)))) ∧ Below w.heap.size w w' := by
 go_enter Tryz.func101, Tryz.ntmps101
 go_wp2_with fail
 go_quiet (fail)
 go_wp2_with (go_at_call 178; refine (in54_any _ _ _).mono ?_; rintro e w' ⟨rfl, rfl⟩)
 all_goals
  go_ret
  refine ⟨?_, ?_⟩
  · simp_all
  · exact pw_below_drewN (below2 w _ _) _
set_option maxHeartbeats 4000000 in
set_option maxRecDepth 20000 in
theorem one_20_1 (s0 s1 s2 s3 : Option Addr) (n0 c0 n1 c1 n2 c2 n3 c3 : Nat) (cross a5 : Int) (a6 a7 a8 a9 : Value) (piece : Int) (d a b c v : Int) (behind : Int) (w : World) :
 Calls Tryz.prog 101 #[.agg #[.slice s0 n0 c0, .slice s1 n1 c1, .slice s2 n2 c2, .slice s3 n3 c3, .int .i64 cross, .int .i64 a5, a6, a7, a8, a9], .int .i64 1, .agg #[.int .i64 20, .int .i64 d, .int .i64 a, .int .i64 b, .int .i64 c, .int .i64 0], .int .i64 behind] w
  fun e w' => e = .returned (.bool (belowB d cross && (belowB a 4000 && (b == 0 && c == 0)))) ∧ Below w.heap.size w w' := by
 go_enter Tryz.func101, Tryz.ntmps101
 go_wp2_with fail
 go_quiet (fail)
 go_wp2_with (go_at_call 178; refine (in54_any _ _ _).mono ?_; rintro e w' ⟨rfl, rfl⟩)
 all_goals
  go_ret
  refine ⟨?_, ?_⟩
  · simp_all
  · exact pw_below_drewN (below2 w _ _) _
set_option maxHeartbeats 4000000 in
set_option maxRecDepth 20000 in
theorem one_20_3 (s0 s1 s2 s3 : Option Addr) (n0 c0 n1 c1 n2 c2 n3 c3 : Nat) (cross a5 : Int) (a6 a7 a8 a9 : Value) (piece : Int) (d a b c v : Int) (behind : Int) (w : World) :
 Calls Tryz.prog 101 #[.agg #[.slice s0 n0 c0, .slice s1 n1 c1, .slice s2 n2 c2, .slice s3 n3 c3, .int .i64 cross, .int .i64 a5, a6, a7, a8, a9], .int .i64 3, .agg #[.int .i64 20, .int .i64 d, .int .i64 a, .int .i64 b, .int .i64 c, .int .i64 0], .int .i64 behind] w
  fun e w' => e = .returned (.bool (belowB d n1 && (belowB a 4000 && (b == 0 && c == 0)))) ∧ Below w.heap.size w w' := by
 go_enter Tryz.func101, Tryz.ntmps101
 go_wp2_with fail
 go_quiet (fail)
 go_wp2_with (go_at_call 178; refine (in54_any _ _ _).mono ?_; rintro e w' ⟨rfl, rfl⟩)
 all_goals
  go_ret
  refine ⟨?_, ?_⟩
  · simp_all
  · exact pw_below_drewN (below2 w _ _) _
set_option maxHeartbeats 4000000 in
set_option maxRecDepth 20000 in
theorem one_20_x (s0 s1 s2 s3 : Option Addr) (n0 c0 n1 c1 n2 c2 n3 c3 : Nat) (cross a5 : Int) (a6 a7 a8 a9 : Value) (piece : Int) (d a b c v : Int) (behind : Int) (w : World) (h0 : ¬ piece = 0) (h1 : ¬ piece = 1) (h2 : ¬ piece = 2) (h3 : ¬ piece = 3) :
 Calls Tryz.prog 101 #[.agg #[.slice s0 n0 c0, .slice s1 n1 c1, .slice s2 n2 c2, .slice s3 n3 c3, .int .i64 cross, .int .i64 a5, a6, a7, a8, a9], .int .i64 piece, .agg #[.int .i64 20, .int .i64 d, .int .i64 a, .int .i64 b, .int .i64 c, .int .i64 0], .int .i64 behind] w
  fun e w' => e = .returned (.bool (d == 0 && (belowB a 4000 && (b == 0 && c == 0)))) ∧ Below w.heap.size w w' := by
 go_enter Tryz.func101, Tryz.ntmps101
 go_wp2_with fail
 go_quiet (fail)
 go_wp2_with (go_at_call 178; refine (in54_any _ _ _).mono ?_; rintro e w' ⟨rfl, rfl⟩)
 all_goals
  go_ret
  refine ⟨?_, ?_⟩
  · simp_all
  · exact pw_below_drewN (below2 w _ _) _
set_option maxHeartbeats 4000000 in
set_option maxRecDepth 20000 in
theorem one_21 (s0 s1 s2 s3 : Option Addr) (n0 c0 n1 c1 n2 c2 n3 c3 : Nat) (cross a5 : Int) (a6 a7 a8 a9 : Value) (piece : Int) (d a b c v : Int) (behind : Int) (w : World) :
 Calls Tryz.prog 101 #[.agg #[.slice s0 n0 c0, .slice s1 n1 c1, .slice s2 n2 c2, .slice s3 n3 c3, .int .i64 cross, .int .i64 a5, a6, a7, a8, a9], .int .i64 2, .agg #[.int .i64 21, .int .i64 d, .int .i64 a, .int .i64 b, .int .i64 c, .int .i64 0], .int .i64 behind] w
  fun e w' => e = .returned (.bool (belowB d n3 && (belowB a 4000 && (b == 0 && c == 0)))) ∧ Below w.heap.size w w' := by
 go_enter Tryz.func101, Tryz.ntmps101
 go_wp2_with fail
 go_quiet (fail)
 go_wp2_with (go_at_call 178; refine (in54_any _ _ _).mono ?_; rintro e w' ⟨rfl, rfl⟩)
 all_goals
  go_ret
  refine ⟨?_, ?_⟩
  · simp_all
  · exact pw_below_drewN (below2 w _ _) _
set_option maxHeartbeats 4000000 in
set_option maxRecDepth 20000 in
theorem one_22 (s0 s1 s2 s3 : Option Addr) (n0 c0 n1 c1 n2 c2 n3 c3 : Nat) (cross a5 : Int) (a6 a7 a8 a9 : Value) (piece : Int) (d a b c v : Int) (behind : Int) (w : World) :
 Calls Tryz.prog 101 #[.agg #[.slice s0 n0 c0, .slice s1 n1 c1, .slice s2 n2 c2, .slice s3 n3 c3, .int .i64 cross, .int .i64 a5, a6, a7, a8, a9], .int .i64 2, .agg #[.int .i64 22, .int .i64 d, .int .i64 a, .int .i64 b, .int .i64 c, .int .i64 0], .int .i64 behind] w
  fun e w' => e = .returned (.bool (belowB d n2 && (belowB a 4000 && (b == 0 && c == 0)))) ∧ Below w.heap.size w w' := by
 go_enter Tryz.func101, Tryz.ntmps101
 go_wp2_with fail
 go_quiet (fail)
 go_wp2_with (go_at_call 178; refine (in54_any _ _ _).mono ?_; rintro e w' ⟨rfl, rfl⟩)
 all_goals
  go_ret
  refine ⟨?_, ?_⟩
  · simp_all
  · exact pw_below_drewN (below2 w _ _) _

set_option maxHeartbeats 4000000 in
set_option maxRecDepth 20000 in
theorem one_lo (s0 s1 s2 s3 : Option Addr) (n0 c0 n1 c1 n2 c2 n3 c3 : Nat) (cross a5 : Int) (a6 a7 a8 a9 : Value) (piece : Int) (op d a b c v : Int) (behind : Int) (w : World) (h : op < 1) :
 Calls Tryz.prog 101 #[.agg #[.slice s0 n0 c0, .slice s1 n1 c1, .slice s2 n2 c2, .slice s3 n3 c3, .int .i64 cross, .int .i64 a5, a6, a7, a8, a9], .int .i64 piece, .agg #[.int .i64 op, .int .i64 d, .int .i64 a, .int .i64 b, .int .i64 c, .int .i64 v], .int .i64 behind] w
  fun e w' => e = .returned (.bool false) ∧ Below w.heap.size w w' := by
 go_enter Tryz.func101, Tryz.ntmps101
 go_wp2_with fail
 all_goals
  go_ret
  refine ⟨by simp_all, ?_⟩
  exact below2 w _ _
set_option maxHeartbeats 4000000 in
set_option maxRecDepth 20000 in
theorem one_hi (s0 s1 s2 s3 : Option Addr) (n0 c0 n1 c1 n2 c2 n3 c3 : Nat) (cross a5 : Int) (a6 a7 a8 a9 : Value) (piece : Int) (op d a b c v : Int) (behind : Int) (w : World) (h : op > 22) :
 Calls Tryz.prog 101 #[.agg #[.slice s0 n0 c0, .slice s1 n1 c1, .slice s2 n2 c2, .slice s3 n3 c3, .int .i64 cross, .int .i64 a5, a6, a7, a8, a9], .int .i64 piece, .agg #[.int .i64 op, .int .i64 d, .int .i64 a, .int .i64 b, .int .i64 c, .int .i64 v], .int .i64 behind] w
  fun e w' => e = .returned (.bool false) ∧ Below w.heap.size w w' := by
 go_enter Tryz.func101, Tryz.ntmps101
 go_wp2_with fail
 all_goals
  go_ret
  refine ⟨by simp_all, ?_⟩
  exact below2 w _ _
set_option maxHeartbeats 4000000 in
set_option maxRecDepth 20000 in
theorem one_val (s0 s1 s2 s3 : Option Addr) (n0 c0 n1 c1 n2 c2 n3 c3 : Nat) (cross a5 : Int) (a6 a7 a8 a9 : Value) (piece : Int) (op d a b c v : Int) (behind : Int) (w : World) (h : ¬ op < 1) (h1 : ¬ op > 22) (h2 : ¬ op = 1) (h3 : ¬ v = 0) :
 Calls Tryz.prog 101 #[.agg #[.slice s0 n0 c0, .slice s1 n1 c1, .slice s2 n2 c2, .slice s3 n3 c3, .int .i64 cross, .int .i64 a5, a6, a7, a8, a9], .int .i64 piece, .agg #[.int .i64 op, .int .i64 d, .int .i64 a, .int .i64 b, .int .i64 c, .int .i64 v], .int .i64 behind] w
  fun e w' => e = .returned (.bool false) ∧ Below w.heap.size w w' := by
 have e1 : (op != 1) = true := by simp [h2]
 have e2 : (v != 0) = true := by simp [h3]
 have e3 : decide (op < 1) = false := decide_eq_false h
 have e4 : decide (22 < op) = false := decide_eq_false h1
 go_enter Tryz.func101, Tryz.ntmps101
 go_wp2_with fail
 all_goals
  go_ret
  refine ⟨by simp_all, ?_⟩
  exact below2 w _ _
set_option maxHeartbeats 4000000 in
set_option maxRecDepth 20000 in
theorem one_p5 (s0 s1 s2 s3 : Option Addr) (n0 c0 n1 c1 n2 c2 n3 c3 : Nat) (cross a5 : Int) (a6 a7 a8 a9 : Value) (piece : Int) (d a b c : Int) (behind : Int) (w : World) (h : ¬ piece = 2) :
 Calls Tryz.prog 101 #[.agg #[.slice s0 n0 c0, .slice s1 n1 c1, .slice s2 n2 c2, .slice s3 n3 c3, .int .i64 cross, .int .i64 a5, a6, a7, a8, a9], .int .i64 piece, .agg #[.int .i64 5, .int .i64 d, .int .i64 a, .int .i64 b, .int .i64 c, .int .i64 0], .int .i64 behind] w
  fun e w' => e = .returned (.bool false) ∧ Below w.heap.size w w' := by
 have e1 : (piece != 2) = true := by simp [h]
 go_enter Tryz.func101, Tryz.ntmps101
 go_wp2_with fail
 all_goals
  go_ret
  refine ⟨by simp_all, ?_⟩
  exact below2 w _ _
set_option maxHeartbeats 4000000 in
set_option maxRecDepth 20000 in
theorem one_p19 (s0 s1 s2 s3 : Option Addr) (n0 c0 n1 c1 n2 c2 n3 c3 : Nat) (cross a5 : Int) (a6 a7 a8 a9 : Value) (piece : Int) (d a b c : Int) (behind : Int) (w : World) (h : ¬ piece = 2) :
 Calls Tryz.prog 101 #[.agg #[.slice s0 n0 c0, .slice s1 n1 c1, .slice s2 n2 c2, .slice s3 n3 c3, .int .i64 cross, .int .i64 a5, a6, a7, a8, a9], .int .i64 piece, .agg #[.int .i64 19, .int .i64 d, .int .i64 a, .int .i64 b, .int .i64 c, .int .i64 0], .int .i64 behind] w
  fun e w' => e = .returned (.bool false) ∧ Below w.heap.size w w' := by
 have e1 : (piece != 2) = true := by simp [h]
 go_enter Tryz.func101, Tryz.ntmps101
 go_wp2_with fail
 all_goals
  go_ret
  refine ⟨by simp_all, ?_⟩
  exact below2 w _ _
set_option maxHeartbeats 4000000 in
set_option maxRecDepth 20000 in
theorem one_p21 (s0 s1 s2 s3 : Option Addr) (n0 c0 n1 c1 n2 c2 n3 c3 : Nat) (cross a5 : Int) (a6 a7 a8 a9 : Value) (piece : Int) (d a b c : Int) (behind : Int) (w : World) (h : ¬ piece = 2) :
 Calls Tryz.prog 101 #[.agg #[.slice s0 n0 c0, .slice s1 n1 c1, .slice s2 n2 c2, .slice s3 n3 c3, .int .i64 cross, .int .i64 a5, a6, a7, a8, a9], .int .i64 piece, .agg #[.int .i64 21, .int .i64 d, .int .i64 a, .int .i64 b, .int .i64 c, .int .i64 0], .int .i64 behind] w
  fun e w' => e = .returned (.bool false) ∧ Below w.heap.size w w' := by
 have e1 : (piece != 2) = true := by simp [h]
 go_enter Tryz.func101, Tryz.ntmps101
 go_wp2_with fail
 all_goals
  go_ret
  refine ⟨by simp_all, ?_⟩
  exact below2 w _ _
set_option maxHeartbeats 4000000 in
set_option maxRecDepth 20000 in
theorem one_p22 (s0 s1 s2 s3 : Option Addr) (n0 c0 n1 c1 n2 c2 n3 c3 : Nat) (cross a5 : Int) (a6 a7 a8 a9 : Value) (piece : Int) (d a b c : Int) (behind : Int) (w : World) (h : ¬ piece = 2) :
 Calls Tryz.prog 101 #[.agg #[.slice s0 n0 c0, .slice s1 n1 c1, .slice s2 n2 c2, .slice s3 n3 c3, .int .i64 cross, .int .i64 a5, a6, a7, a8, a9], .int .i64 piece, .agg #[.int .i64 22, .int .i64 d, .int .i64 a, .int .i64 b, .int .i64 c, .int .i64 0], .int .i64 behind] w
  fun e w' => e = .returned (.bool false) ∧ Below w.heap.size w w' := by
 have e1 : (piece != 2) = true := by simp [h]
 go_enter Tryz.func101, Tryz.ntmps101
 go_wp2_with fail
 all_goals
  go_ret
  refine ⟨by simp_all, ?_⟩
  exact below2 w _ _
set_option maxHeartbeats 4000000 in
set_option maxRecDepth 20000 in
theorem one_p20 (s0 s1 s2 s3 : Option Addr) (n0 c0 n1 c1 n2 c2 n3 c3 : Nat) (cross a5 : Int) (a6 a7 a8 a9 : Value) (piece : Int) (d a b c : Int) (behind : Int) (w : World)  :
 Calls Tryz.prog 101 #[.agg #[.slice s0 n0 c0, .slice s1 n1 c1, .slice s2 n2 c2, .slice s3 n3 c3, .int .i64 cross, .int .i64 a5, a6, a7, a8, a9], .int .i64 2, .agg #[.int .i64 20, .int .i64 d, .int .i64 a, .int .i64 b, .int .i64 c, .int .i64 0], .int .i64 behind] w
  fun e w' => e = .returned (.bool false) ∧ Below w.heap.size w w' := by
 go_enter Tryz.func101, Tryz.ntmps101
 go_wp2_with fail
 all_goals
  go_ret
  refine ⟨by simp_all, ?_⟩
  exact below2 w _ _

set_option maxHeartbeats 4000000 in
theorem one_any (s0 s1 s2 s3 : Option Addr) (n0 c0 n1 c1 n2 c2 n3 c3 : Nat) (cross a5 : Int) (a6 a7 a8 a9 : Value) (piece : Int) (op d a b c v : Int) (behind : Int) (w : World) :
 Calls Tryz.prog 101 #[.agg #[.slice s0 n0 c0, .slice s1 n1 c1, .slice s2 n2 c2, .slice s3 n3 c3, .int .i64 cross, .int .i64 a5, a6, a7, a8, a9], .int .i64 piece, .agg #[.int .i64 op, .int .i64 d, .int .i64 a, .int .i64 b, .int .i64 c, .int .i64 v], .int .i64 behind] w
  fun e w' => e = .returned (.bool (oneB n0 n1 n2 n3 cross piece ⟨op, d, a, b, c, v⟩ behind)) ∧ Below w.heap.size w w' := by
 by_cases hlo : op < 1
 · refine (one_lo s0 s1 s2 s3 n0 c0 n1 c1 n2 c2 n3 c3 cross a5 a6 a7 a8 a9 piece op d a b c v behind w hlo).mono ?_
   rintro e w' ⟨rfl, hB⟩
   exact ⟨by simp [oneB, hlo], hB⟩
 by_cases hhi : op > 22
 · refine (one_hi s0 s1 s2 s3 n0 c0 n1 c1 n2 c2 n3 c3 cross a5 a6 a7 a8 a9 piece op d a b c v behind w hhi).mono ?_
   rintro e w' ⟨rfl, hB⟩
   exact ⟨by simp [oneB, hhi], hB⟩
 by_cases h1 : op = 1
 · subst h1
   refine (one_1 s0 s1 s2 s3 n0 c0 n1 c1 n2 c2 n3 c3 cross a5 a6 a7 a8 a9 piece d a b c v behind w).mono ?_
   rintro e w' ⟨rfl, hB⟩
   exact ⟨by simp [oneB, oneD, oneA, oneBb, oneC], hB⟩
 by_cases hv : v = 0
 case neg =>
  refine (one_val s0 s1 s2 s3 n0 c0 n1 c1 n2 c2 n3 c3 cross a5 a6 a7 a8 a9 piece op d a b c v behind w hlo hhi h1 hv).mono ?_
  rintro e w' ⟨rfl, hB⟩
  exact ⟨by simp [oneB, h1, hv], hB⟩
 subst hv
 rcases (by omega : op = 2 ∨ op = 3 ∨ op = 4 ∨ op = 5 ∨ op = 6 ∨ op = 7 ∨ op = 8 ∨ op = 9 ∨ op = 10 ∨ op = 11 ∨ op = 12 ∨ op = 13 ∨ op = 14 ∨ op = 15 ∨ op = 16 ∨ op = 17 ∨ op = 18 ∨ op = 19 ∨ op = 20 ∨ op = 21 ∨ op = 22) with rfl | rfl | rfl | rfl | rfl | rfl | rfl | rfl | rfl | rfl | rfl | rfl | rfl | rfl | rfl | rfl | rfl | rfl | rfl | rfl | rfl
 · refine (one_2 s0 s1 s2 s3 n0 c0 n1 c1 n2 c2 n3 c3 cross a5 a6 a7 a8 a9 piece d a b c 0 behind w).mono ?_
   rintro e w' ⟨rfl, hB⟩
   exact ⟨by simp [oneB, oneD, oneA, oneBb, oneC], hB⟩
 · refine (one_3 s0 s1 s2 s3 n0 c0 n1 c1 n2 c2 n3 c3 cross a5 a6 a7 a8 a9 piece d a b c 0 behind w).mono ?_
   rintro e w' ⟨rfl, hB⟩
   exact ⟨by simp [oneB, oneD, oneA, oneBb, oneC], hB⟩
 · refine (one_4 s0 s1 s2 s3 n0 c0 n1 c1 n2 c2 n3 c3 cross a5 a6 a7 a8 a9 piece d a b c 0 behind w).mono ?_
   rintro e w' ⟨rfl, hB⟩
   exact ⟨by simp [oneB, oneD, oneA, oneBb, oneC], hB⟩
 · by_cases hp : piece = 2
   · subst hp
     refine (one_5 s0 s1 s2 s3 n0 c0 n1 c1 n2 c2 n3 c3 cross a5 a6 a7 a8 a9 2 d a b c 0 behind w).mono ?_
     rintro e w' ⟨rfl, hB⟩
     exact ⟨by simp [oneB, oneD, oneA, oneBb, oneC], hB⟩
   · refine (one_p5 s0 s1 s2 s3 n0 c0 n1 c1 n2 c2 n3 c3 cross a5 a6 a7 a8 a9 piece d a b c behind w hp).mono ?_
     rintro e w' ⟨rfl, hB⟩
     exact ⟨by simp [oneB, oneD, oneA, oneBb, oneC, hp], hB⟩
 · refine (one_6 s0 s1 s2 s3 n0 c0 n1 c1 n2 c2 n3 c3 cross a5 a6 a7 a8 a9 piece d a b c 0 behind w).mono ?_
   rintro e w' ⟨rfl, hB⟩
   exact ⟨by simp [oneB, oneD, oneA, oneBb, oneC], hB⟩
 · refine (one_7 s0 s1 s2 s3 n0 c0 n1 c1 n2 c2 n3 c3 cross a5 a6 a7 a8 a9 piece d a b c 0 behind w).mono ?_
   rintro e w' ⟨rfl, hB⟩
   exact ⟨by simp [oneB, oneD, oneA, oneBb, oneC], hB⟩
 · refine (one_8 s0 s1 s2 s3 n0 c0 n1 c1 n2 c2 n3 c3 cross a5 a6 a7 a8 a9 piece d a b c 0 behind w).mono ?_
   rintro e w' ⟨rfl, hB⟩
   exact ⟨by simp [oneB, oneD, oneA, oneBb, oneC], hB⟩
 · refine (one_9 s0 s1 s2 s3 n0 c0 n1 c1 n2 c2 n3 c3 cross a5 a6 a7 a8 a9 piece d a b c 0 behind w).mono ?_
   rintro e w' ⟨rfl, hB⟩
   exact ⟨by simp [oneB, oneD, oneA, oneBb, oneC], hB⟩
 · refine (one_10 s0 s1 s2 s3 n0 c0 n1 c1 n2 c2 n3 c3 cross a5 a6 a7 a8 a9 piece d a b c 0 behind w).mono ?_
   rintro e w' ⟨rfl, hB⟩
   exact ⟨by simp [oneB, oneD, oneA, oneBb, oneC], hB⟩
 · refine (one_11 s0 s1 s2 s3 n0 c0 n1 c1 n2 c2 n3 c3 cross a5 a6 a7 a8 a9 piece d a b c 0 behind w).mono ?_
   rintro e w' ⟨rfl, hB⟩
   exact ⟨by simp [oneB, oneD, oneA, oneBb, oneC], hB⟩
 · refine (one_12 s0 s1 s2 s3 n0 c0 n1 c1 n2 c2 n3 c3 cross a5 a6 a7 a8 a9 piece d a b c 0 behind w).mono ?_
   rintro e w' ⟨rfl, hB⟩
   exact ⟨by simp [oneB, oneD, oneA, oneBb, oneC], hB⟩
 · refine (one_13 s0 s1 s2 s3 n0 c0 n1 c1 n2 c2 n3 c3 cross a5 a6 a7 a8 a9 piece d a b c 0 behind w).mono ?_
   rintro e w' ⟨rfl, hB⟩
   exact ⟨by simp [oneB, oneD, oneA, oneBb, oneC], hB⟩
 · refine (one_14 s0 s1 s2 s3 n0 c0 n1 c1 n2 c2 n3 c3 cross a5 a6 a7 a8 a9 piece d a b c 0 behind w).mono ?_
   rintro e w' ⟨rfl, hB⟩
   exact ⟨by simp [oneB, oneD, oneA, oneBb, oneC], hB⟩
 · refine (one_15 s0 s1 s2 s3 n0 c0 n1 c1 n2 c2 n3 c3 cross a5 a6 a7 a8 a9 piece d a b c 0 behind w).mono ?_
   rintro e w' ⟨rfl, hB⟩
   exact ⟨by simp [oneB, oneD, oneA, oneBb, oneC], hB⟩
 · refine (one_16 s0 s1 s2 s3 n0 c0 n1 c1 n2 c2 n3 c3 cross a5 a6 a7 a8 a9 piece d a b c 0 behind w).mono ?_
   rintro e w' ⟨rfl, hB⟩
   exact ⟨by simp [oneB, oneD, oneA, oneBb, oneC], hB⟩
 · refine (one_17 s0 s1 s2 s3 n0 c0 n1 c1 n2 c2 n3 c3 cross a5 a6 a7 a8 a9 piece d a b c 0 behind w).mono ?_
   rintro e w' ⟨rfl, hB⟩
   exact ⟨by simp [oneB, oneD, oneA, oneBb, oneC], hB⟩
 · refine (one_18 s0 s1 s2 s3 n0 c0 n1 c1 n2 c2 n3 c3 cross a5 a6 a7 a8 a9 piece d a b c 0 behind w).mono ?_
   rintro e w' ⟨rfl, hB⟩
   exact ⟨by simp [oneB, oneD, oneA, oneBb, oneC], hB⟩
 · by_cases hp : piece = 2
   · subst hp
     refine (one_19 s0 s1 s2 s3 n0 c0 n1 c1 n2 c2 n3 c3 cross a5 a6 a7 a8 a9 2 d a b c 0 behind w).mono ?_
     rintro e w' ⟨rfl, hB⟩
     exact ⟨by simp [oneB, oneD, oneA, oneBb, oneC], hB⟩
   · refine (one_p19 s0 s1 s2 s3 n0 c0 n1 c1 n2 c2 n3 c3 cross a5 a6 a7 a8 a9 piece d a b c behind w hp).mono ?_
     rintro e w' ⟨rfl, hB⟩
     exact ⟨by simp [oneB, oneD, oneA, oneBb, oneC, hp], hB⟩
 · by_cases hp : piece = 2
   · subst hp
     refine (one_p20 s0 s1 s2 s3 n0 c0 n1 c1 n2 c2 n3 c3 cross a5 a6 a7 a8 a9 2 d a b c behind w).mono ?_
     rintro e w' ⟨rfl, hB⟩
     exact ⟨by simp [oneB, oneD, oneA, oneBb, oneC], hB⟩
   by_cases hp0 : piece = 0
   · subst hp0
     refine (one_20_0 s0 s1 s2 s3 n0 c0 n1 c1 n2 c2 n3 c3 cross a5 a6 a7 a8 a9 0 d a b c 0 behind w).mono ?_
     rintro e w' ⟨rfl, hB⟩
     exact ⟨by simp [oneB, oneD, oneA, oneBb, oneC], hB⟩
   by_cases hp1 : piece = 1
   · subst hp1
     refine (one_20_1 s0 s1 s2 s3 n0 c0 n1 c1 n2 c2 n3 c3 cross a5 a6 a7 a8 a9 1 d a b c 0 behind w).mono ?_
     rintro e w' ⟨rfl, hB⟩
     exact ⟨by simp [oneB, oneD, oneA, oneBb, oneC], hB⟩
   by_cases hp3 : piece = 3
   · subst hp3
     refine (one_20_3 s0 s1 s2 s3 n0 c0 n1 c1 n2 c2 n3 c3 cross a5 a6 a7 a8 a9 3 d a b c 0 behind w).mono ?_
     rintro e w' ⟨rfl, hB⟩
     exact ⟨by simp [oneB, oneD, oneA, oneBb, oneC], hB⟩
   refine (one_20_x s0 s1 s2 s3 n0 c0 n1 c1 n2 c2 n3 c3 cross a5 a6 a7 a8 a9 piece d a b c 0 behind w hp0 hp1 hp hp3).mono ?_
   rintro e w' ⟨rfl, hB⟩
   exact ⟨by simp [oneB, oneD, oneA, oneBb, oneC, hp, hp0, hp1, hp3], hB⟩
 · by_cases hp : piece = 2
   · subst hp
     refine (one_21 s0 s1 s2 s3 n0 c0 n1 c1 n2 c2 n3 c3 cross a5 a6 a7 a8 a9 2 d a b c 0 behind w).mono ?_
     rintro e w' ⟨rfl, hB⟩
     exact ⟨by simp [oneB, oneD, oneA, oneBb, oneC], hB⟩
   · refine (one_p21 s0 s1 s2 s3 n0 c0 n1 c1 n2 c2 n3 c3 cross a5 a6 a7 a8 a9 piece d a b c behind w hp).mono ?_
     rintro e w' ⟨rfl, hB⟩
     exact ⟨by simp [oneB, oneD, oneA, oneBb, oneC, hp], hB⟩
 · by_cases hp : piece = 2
   · subst hp
     refine (one_22 s0 s1 s2 s3 n0 c0 n1 c1 n2 c2 n3 c3 cross a5 a6 a7 a8 a9 2 d a b c 0 behind w).mono ?_
     rintro e w' ⟨rfl, hB⟩
     exact ⟨by simp [oneB, oneD, oneA, oneBb, oneC], hB⟩
   · refine (one_p22 s0 s1 s2 s3 n0 c0 n1 c1 n2 c2 n3 c3 cross a5 a6 a7 a8 a9 piece d a b c behind w hp).mono ?_
     rintro e w' ⟨rfl, hB⟩
     exact ⟨by simp [oneB, oneD, oneA, oneBb, oneC, hp], hB⟩

def astrolaberef17_One.f (l0_0 l0_1 l0_2 l0_3 : List Int) (a0_4 a0_5 : Int) (l0_6 l0_7 l0_8 l0_9 : List S49) (a1 a2_0 a2_1 a2_2 a2_3 a2_4 a2_5 a3 : Int) : Option Bool :=
 some (oneB l0_0.length l0_1.length l0_2.length l0_3.length a0_4 a1 ⟨a2_0, a2_1, a2_2, a2_3, a2_4, a2_5⟩ a3)
theorem astrolaberef17_One.calls (A0_0 : Option Addr) (c0_0 : Nat) (l0_0 : List Int) (A0_1 : Option Addr) (c0_1 : Nat) (l0_1 : List Int) (A0_2 : Option Addr) (c0_2 : Nat) (l0_2 : List Int) (A0_3 : Option Addr) (c0_3 : Nat) (l0_3 : List Int) (a0_4 : Int) (a0_5 : Int) (A0_6 : Option Addr) (c0_6 : Nat) (l0_6 : List (S49)) (A0_7 : Option Addr) (c0_7 : Nat) (l0_7 : List (S49)) (A0_8 : Option Addr) (c0_8 : Nat) (l0_8 : List (S49)) (A0_9 : Option Addr) (c0_9 : Nat) (l0_9 : List (S49)) (a1 : Int) (a2_0 a2_1 a2_2 a2_3 a2_4 a2_5 : Int) (a3 : Int) (r : Bool) (w : World)
 (hr0_0 : Kd.C (Kd.int .i64) w A0_0 l0_0.length l0_0) (hc0_0 : l0_0.length ≤ c0_0) (hr0_1 : Kd.C (Kd.int .i64) w A0_1 l0_1.length l0_1) (hc0_1 : l0_1.length ≤ c0_1) (hr0_2 : Kd.C (Kd.int .i64) w A0_2 l0_2.length l0_2) (hc0_2 : l0_2.length ≤ c0_2) (hr0_3 : Kd.C (Kd.int .i64) w A0_3 l0_3.length l0_3) (hc0_3 : l0_3.length ≤ c0_3) (hr0_6 : Kd.C k49 w A0_6 l0_6.length l0_6) (hc0_6 : l0_6.length ≤ c0_6) (hr0_7 : Kd.C k49 w A0_7 l0_7.length l0_7) (hc0_7 : l0_7.length ≤ c0_7) (hr0_8 : Kd.C k49 w A0_8 l0_8.length l0_8) (hc0_8 : l0_8.length ≤ c0_8) (hr0_9 : Kd.C k49 w A0_9 l0_9.length l0_9) (hc0_9 : l0_9.length ≤ c0_9)
 (h : astrolaberef17_One.f l0_0 l0_1 l0_2 l0_3 a0_4 a0_5 l0_6 l0_7 l0_8 l0_9 a1 a2_0 a2_1 a2_2 a2_3 a2_4 a2_5 a3 = some r) :
 Calls Tryz.prog 101 #[.agg #[.slice A0_0 l0_0.length c0_0, .slice A0_1 l0_1.length c0_1, .slice A0_2 l0_2.length c0_2, .slice A0_3 l0_3.length c0_3, .int .i64 a0_4, .int .i64 a0_5, .slice A0_6 l0_6.length c0_6, .slice A0_7 l0_7.length c0_7, .slice A0_8 l0_8.length c0_8, .slice A0_9 l0_9.length c0_9], .int .i64 a1, .agg #[.int .i64 a2_0, .int .i64 a2_1, .int .i64 a2_2, .int .i64 a2_3, .int .i64 a2_4, .int .i64 a2_5], .int .i64 a3] w fun e w' => e = .returned (.bool r) ∧ Below w.heap.size w w' := by
 unfold astrolaberef17_One.f at h
 obtain rfl := Option.some.inj h
 exact one_any _ _ _ _ _ _ _ _ _ _ _ _ _ _ _ _ _ _ _ _ _ _ _ _ _ _ _
end Go.Proofs.YtgalkkolbobmbaaGreat.V


namespace Go.Proofs.YtgalkkolbobmbaaGreat.V
open Go.RowKit Go.Proofs.YtgalkkolbobmbaaGreatW.PrintWords

theorem belowB_max (d c : Int) : belowB d (if 0 < c then c else 0) = belowB d c := by
 unfold belowB
 by_cases h : 0 < c
 · rw [if_pos h]
 · rw [if_neg h]
   by_cases h0 : 0 ≤ d
   · rw [decide_eq_false (show ¬ d < 0 by omega), decide_eq_false (show ¬ d < c by omega)]
   · rw [decide_eq_false h0]; rfl
theorem wrap_up {n : Int} (h0 : 0 ≤ n) (h : n < 9223372036854775807) : wrap64 (n + 1) = n + 1 := by
 unfold wrap64; omega
theorem max0_nonneg (c : Int) : 0 ≤ (if 0 < c then c else 0) := by split <;> omega
theorem one_right (n0 n1 n2 n3 : Nat) (cross piece : Int) (x : S49) (behind : Int) (hp0 : 0 ≤ piece) (hp3 : piece < 4) (hb0 : 0 ≤ behind) (hb : behind < 9223372036854775807) :
 oneB n0 n1 n2 n3 cross piece x behind = rightB n0 n1 n2 n3 cross piece x behind := by
 obtain ⟨op, d, a, b, c, v⟩ := x
 have hw : wrap64 (behind + 1) = behind + 1 := wrap_up hb0 hb
 have h1 : (0 : Int) ≤ behind + 1 := by omega
 have hm := max0_nonneg cross
 have z0 : ∀ n : Nat, (0 : Int) ≤ (n : Int) := fun n => by omega
 by_cases hr : 1 ≤ op ∧ op ≤ 22
 · obtain ⟨hlo, hhi⟩ := hr
   rcases (by omega : piece = 0 ∨ piece = 1 ∨ piece = 2 ∨ piece = 3) with rfl | rfl | rfl | rfl <;>
   rcases (by omega : op = 1 ∨ op = 2 ∨ op = 3 ∨ op = 4 ∨ op = 5 ∨ op = 6 ∨ op = 7 ∨ op = 8 ∨ op = 9 ∨ op = 10 ∨ op = 11 ∨ op = 12 ∨ op = 13 ∨ op = 14 ∨ op = 15 ∨ op = 16 ∨ op = 17 ∨ op = 18 ∨ op = 19 ∨ op = 20 ∨ op = 21 ∨ op = 22) with rfl | rfl | rfl | rfl | rfl | rfl | rfl | rfl | rfl | rfl | rfl | rfl | rfl | rfl | rfl | rfl | rfl | rfl | rfl | rfl | rfl | rfl <;>
   simp [oneB, rightB, oneD, oneA, oneBb, oneC, hereB, fieldB, isD, isA, isB, isC, placeD, placeA, placeB, hw, h1, hm, z0, belowB_max] <;>
   (by_cases hv : v = 0 <;> simp [hv])
 · have e1 : oneB n0 n1 n2 n3 cross piece ⟨op, d, a, b, c, v⟩ behind = false := by
    unfold oneB
    rw [if_pos (by dsimp only; omega)]
   have e2 : hereB piece op = false := by
    unfold hereB
    rw [if_neg (by omega), if_neg (by omega)]
    by_cases h2 : 1 ≤ op
    · rw [decide_eq_false (show ¬ op ≤ 22 by omega)]; simp
    · rw [decide_eq_false h2]; rfl
   rw [e1]
   simp only [rightB, e2, Bool.false_and]

set_option maxRecDepth 100000 in

theorem rIf_le {b : Bool} {n out : Int} (ho : 0 ≤ out ∧ out ≤ 4000) (hb : b = true → n < 4000) : 0 ≤ rIf b n out ∧ rIf b n out ≤ 4000 := by
 unfold rIf
 by_cases h : b = true ∧ out ≤ n
 · rw [if_pos h]
   have := hb h.1
   rw [wrap_up (by omega) (by omega)]; omega
 · rw [if_neg h]; exact ho
theorem field_lt {n many : Int} {b : Bool} (h : fieldB n b many = true) : b = true → n < 4000 := by
 intro hb
 rw [fieldB, if_pos hb] at h
 simp [belowB] at h
 exact h.2
theorem right_fields {n0 n1 n2 n3 : Nat} {cross piece : Int} {x : S49} {behind : Int} (h : rightB n0 n1 n2 n3 cross piece x behind = true) :
 (isD x.f0 = true → x.f1 < 4000) ∧ (isA x.f0 = true → x.f2 < 4000) ∧ (isB x.f0 = true → x.f3 < 4000) ∧ (isC x.f0 = true → x.f4 < 4000) := by
 unfold rightB at h
 simp only [Bool.and_eq_true] at h
 exact ⟨field_lt h.2.1, field_lt h.2.2.1, field_lt h.2.2.2.1, field_lt h.2.2.2.2⟩
theorem step_le {x : S49} {out : Int} (ho : 0 ≤ out ∧ out ≤ 4000) (h : (isD x.f0 = true → x.f1 < 4000) ∧ (isA x.f0 = true → x.f2 < 4000) ∧ (isB x.f0 = true → x.f3 < 4000) ∧ (isC x.f0 = true → x.f4 < 4000)) : 0 ≤ regStep out x ∧ regStep out x ≤ 4000 := by
 unfold regStep
 split
 · exact ho
 · exact rIf_le (rIf_le (rIf_le (rIf_le ho h.1) h.2.1) h.2.2.1) h.2.2.2
theorem regs_le : ∀ (l : List S49) (out : Int), 0 ≤ out ∧ out ≤ 4000 → (∀ x ∈ l, (isD x.f0 = true → x.f1 < 4000) ∧ (isA x.f0 = true → x.f2 < 4000) ∧ (isB x.f0 = true → x.f3 < 4000) ∧ (isC x.f0 = true → x.f4 < 4000)) → 0 ≤ l.foldl regStep out ∧ l.foldl regStep out ≤ 4000
 | [], out, ho, _ => ho
 | x :: l, out, ho, h => regs_le l _ (step_le ho (h x (by simp))) (fun y hy => h y (by simp [hy]))
theorem rdT_mem {l : List S49} {n : Nat} (h : n < l.length) : rd_T49 l (n : Int) = l[n] := by
 unfold rd_T49
 simp [List.getD_eq_getElem?_getD, List.getElem?_eq_getElem h]
/-- What is in a piece's list of the wrong ones. -/
theorem wrongTo_mem {R : Int → S49 → Int → Bool} {piece : Int} {l : List S49} {x : Int × Int} : ∀ {n : Nat}, x ∈ wrongTo R piece l n ↔ ∃ m : Nat, m < n ∧ x = (piece, (m : Int)) ∧ R piece (rd_T49 l (m : Int)) ((l.length : Int) - m - 1) = false
 | 0 => by simp [wrongTo]
 | n + 1 => by
  rw [wrongTo, List.mem_append, wrongTo_mem]
  constructor
  · rintro (⟨m, h1, h2, h3⟩ | h)
    · exact ⟨m, by omega, h2, h3⟩
    · split at h
      · cases h
      · rename_i hr
        exact ⟨n, by omega, by simpa using h, by simpa using hr⟩
  · rintro ⟨m, h1, h2, h3⟩
    by_cases hm : m = n
    · subst hm
      right
      rw [if_neg (by simp [h3])]
      simpa using h2
    · exact .inl ⟨m, by omega, h2, h3⟩
theorem wrongPs_mem {R : Int → S49 → Int → Bool} {ps : Nat → List S49} {x : Int × Int} : ∀ {k : Nat}, x ∈ wrongPs R ps k ↔ ∃ j m : Nat, j < k ∧ m < (ps j).length ∧ x = ((j : Int), (m : Int)) ∧ R (j : Int) (rd_T49 (ps j) (m : Int)) (((ps j).length : Int) - m - 1) = false
 | 0 => by simp [wrongPs]
 | k + 1 => by
  rw [wrongPs, List.mem_append, wrongPs_mem, wrongTo_mem]
  constructor
  · rintro (⟨j, m, h0, h1, h2, h3⟩ | ⟨m, h1, h2, h3⟩)
    · exact ⟨j, m, by omega, h1, h2, h3⟩
    · exact ⟨k, m, by omega, h1, h2, h3⟩
  · rintro ⟨j, m, h0, h1, h2, h3⟩
    by_cases hj : j = k
    · subst hj; exact .inr ⟨m, h1, h2, h3⟩
    · exact .inl ⟨j, m, by omega, h1, h2, h3⟩
/-- Each piece of what is right asks for few registers. -/
theorem right_regs {l0_0 l0_1 l0_2 l0_3 : List Int} {a0_4 a0_5 : Int} {l0_6 l0_7 l0_8 l0_9 : List S49} (h : rightO l0_0 l0_1 l0_2 l0_3 a0_4 a0_5 l0_6 l0_7 l0_8 l0_9 = true) (j : Nat) (hj : j < 4) :
 0 ≤ (four l0_6 l0_7 l0_8 l0_9 j).foldl regStep 0 ∧ (four l0_6 l0_7 l0_8 l0_9 j).foldl regStep 0 ≤ 4000 := by
 unfold rightO at h
 simp only [Bool.and_eq_true, List.isEmpty_iff] at h
 have hw := h.2.2.2.2.2
 refine regs_le _ 0 (by omega) fun x hx => ?_
 obtain ⟨m, hm⟩ := List.getElem?_of_mem hx
 obtain ⟨hlt, he⟩ := List.getElem?_eq_some_iff.1 hm
 have hn : ¬ (((j : Int), (m : Int)) ∈ wrongPs (rightB l0_0.length l0_1.length l0_2.length l0_3.length a0_4) (four l0_6 l0_7 l0_8 l0_9) 4) := by rw [hw]; simp
 rw [wrongPs_mem] at hn
 have hr : rightB l0_0.length l0_1.length l0_2.length l0_3.length a0_4 (j : Int) (rd_T49 (four l0_6 l0_7 l0_8 l0_9 j) (m : Int)) (((four l0_6 l0_7 l0_8 l0_9 j).length : Int) - m - 1) = true := by
  cases hc : rightB l0_0.length l0_1.length l0_2.length l0_3.length a0_4 (j : Int) (rd_T49 (four l0_6 l0_7 l0_8 l0_9 j) (m : Int)) (((four l0_6 l0_7 l0_8 l0_9 j).length : Int) - m - 1) with
  | true => rfl
  | false => exact absurd ⟨j, m, hj, hlt, rfl, hc⟩ hn
 rw [rdT_mem hlt, he] at hr
 exact right_fields hr
theorem rdL_four (a b c d : List S49) (j : Nat) (hj : j < 4) : rd_L2 [a, b, c, d] (j : Int) = four a b c d j := by
 rcases (by omega : j = 0 ∨ j = 1 ∨ j = 2 ∨ j = 3) with rfl | rfl | rfl | rfl <;> rfl
end Go.Proofs.YtgalkkolbobmbaaGreat.V
